/- Part of a proof: see the last text. -/
import Derived.Test.YtpbkhogolfegfaaGreatDoorPpe
set_option linter.unusedVariables false
set_option linter.unusedSimpArgs false
set_option linter.defProp false
noncomputable section
namespace AI
open Go Go.RowKit
def Ob(op:Op):Bool:=match op with
 | .call cl=>(match cl.callee with | .value _=>true | _=>false)
 | _=>false
def QX(op:Op):Bool:=match op with
 | .call cl=>(match cl.callee with | .value _=>true | .builtin .append=>true | _=>false)
 | _=>false
def afz{op:Op}(h:Ob op=true):QX op=true:=by
 unfold Ob at h;split at h;split at h;rename_i IF;simp[QX,IF];cases h;cases h
def eU:List Hn->Bool
 | .a _ _::_=>true
 | .u _ _ _ _ _::_=>true
 | .cn _ _ _ _ _::_=>true
 | .mb _ _::_=>true
 | _=>false
def jL(P:Program)(G:Bc)(ops:Array Oper)(fr:List AV)(s:AS)(o:Oper)(hs:List Hn):HO:=match QX o.op with
 | true=>(match eU hs with
   | true=>none
   | false=>aM P G ops fr s o hs)
 | false=>aM P G ops fr s o hs
def Yx{P:Program}{G:Bc}{ops:Array Oper}{fr:List AV}{s:AS}{o:Oper}{hs:List Hn}{r:AV×AS×List Hn×List Cd}(h:jL P G ops fr s o hs=some r):aM P G ops fr s o hs=some r/\(QX o.op=true->eU hs=false):=by
 unfold jL at h;split at h;split at h;cases h;rename_i h1;exact⟨h,λ_=>h1⟩;rename_i h1;exact⟨h,λh2=>by rw[h1] at h2;cases h2⟩
def SQ{P:Program}{G:Bc}{ops:Array Oper}{fr:List AV}{s:AS}{o:Oper}{hs:List Hn}{r:AV×AS×List Hn×List Cd}(h:jL P G ops fr s o hs=some r):aM P G ops fr s o hs=some r/\(Ob o.op=true->eU hs=false):=⟨(Yx h).1,λh1=>(Yx h).2 (afz h1)⟩
abbrev HT:=Option (List Hn×List Cd×List (List AV×AS×AV)×List AV×AS)
def wB(cd:List Cd)(x:List AV×AS×AV):HT->HT
 | some (hs,cd',t,fr,s)=>some (hs,cd++cd',x::t,fr,s)
 | none=>none
def hTr(P:Program)(G:Bc)(ops:Array Oper):List Oper->Nat->List Hn->List AV->AS->HT
 | [],_,hs,fr,s=>some (hs,[],[],fr,s)
 | o::l,q,hs,fr,s=>(match B1 o.op with
   | true=>wB [] (fr,s,Pv ops fr o q) (hTr P G ops l (q+1) hs (JE fr o.dst (Pv ops fr o q)) s)
   | false=>(match jL P G ops fr s o hs with
     | some (v,s1,R3,cd)=>wB cd (fr,s,v) (hTr P G ops l q R3 (JE fr o.dst v) s1)
     | none=>none))
def alR(q0:Nat):Option AV->Bool
 | some (.el _)=>true
 | some (.ptr id _)=>Nat.blt id q0
 | _=>false
def amS(q0:Nat):Option AV->Bool
 | some (.ptr id _)=>Nat.ble q0 id
 | _=>false
def slV:Option AV->Bool
 | some (.sl _ _ _)=>true
 | some (.sc (.string _))=>true
 | _=>false
def mpV(q0:Nat):Option AV->Bool
 | some (.mp id)=>Nat.blt id q0
 | _=>false
def indep(G:Bc)(q0:Nat)(fr:List AV)(o:Oper):Bool:=match o.op with
 | .load _ a=>alR q0 (AZ G fr a)
 | .lookup _ m _ _=>mpV q0 (AZ G fr m)
 | .store _ a _=>amS q0 (AZ G fr a)
 | .call cl=>(match cl.callee with
   | .value _=>true
   | .builtin .append=>true
   | .builtin .len=>(match cl.args.toList with
     | [x]=>slV (AZ G fr x)
     | _=>false)
   | _=>quiet o.op)
 | .alloc _=>true
 | op=>quiet op
def Mi(G:Bc)(ops:Array Oper)(q0:Nat):List Oper->List (List AV×AS×AV)->Bool
 | o::os,t::ts=>(match CG ops t.1 o with
   | false=>Mi G ops q0 os ts
   | true=>(match indep G q0 t.1 o with
     | true=>Mi G ops q0 os ts
     | false=>false))
 | _,_=>true
def nJ(q0:Nat)(s s':AS):Prop:=∀id,id < q0->s'.get id=s.get id
def JU{id RC:Nat}{b:Bo}(h:RC≠id):∀(l:List (Nat×Bo)),look RC (uO id b l)=look RC l
 | []=>rfl
 | e::l=>by
   simp only[uO];split;rename_i hb;have hb:=beq_true hb;simp only[look]
   have h1:Nat.beq id RC=false:=by cases hq:Nat.beq id RC with
     | true=>exact absurd (beq_true hq).symm h
     | false=>rfl
   rw[hb,h1];simp only[look,JU h l]
section
variable {P:Program} {G:Bc} {ops:Array Oper}
def afc{q0:Nat}{fr:List AV}{s s1:AS}{o:Oper}{hs CW:List Hn}{v:AV}{cd:List Cd}(h:aM P G ops fr s o hs=some (v,s1,CW,cd))(hA:QX o.op=true->eU hs=false)(hi:CG ops fr o=true->indep G q0 fr o=true)(hc:RN P G cd)(ha:B1 o.op=false):nJ q0 s s1:=by
 intro id hid;have hj:=PD h hc;cases hq:quiet o.op with
 | true=>rw[(Ki hq hj).1]
 | false =>
   unfold aM at h;split at h;rename_i hw;have hi:=hi hw;unfold indep at hi;split at hi;rename_i t a ho;rw[ho] at hq;cases hq;rename_i t m k ok ho;rw[ho] at hq;cases hq;rename_i t a x ho;unfold v7 at h;rw[ho] at h;simp only at h
   have h1:∃a' x',Bg G fr a=some a'/\Bg G fr x=some x'/\Md P s t a' x'=some s1:=by
     rcases VK h hc with ⟨a',x',h2,h3,h4,_⟩ | h2
     exact⟨a',x',h2,h3,h4⟩;have h1:=VJ h2;rw[Nz] at h1;unfold QK at h1;rw[ho] at h1;simp only at h1;split at h1;rename_i a' x' zA TW;obtain⟨s',GC,he⟩:=map_some h1;injection he with he1 he2
     subst he2;exact⟨a',x',zA,TW,GC⟩;cases h1
   rw[Cy] at hi;obtain⟨a',x',zA,TW,GC⟩:=h1;rw[zA] at hi;unfold amS at hi;split at hi;rename_i RC off NY;cases NY;unfold Md at GC;split at GC;rename_i i id2 aqE hi2 abx;cases abx;split at GC;split at GC;cases GC;have:=Nat.le_of_ble_eq_true hi;exact JU (by omega) _;cases GC;cases GC;cases GC;cases hi;rename_i cl ho;split at hi;rename_i f IF;unfold v7 at h;rw[ho] at h;simp only[IF] at h;unfold Yw at h;split at h;split at h;cases h;rfl;cases h;have:=hA (by rw[ho];simp[QX,IF]);simp[eU] at this;have:=hA (by rw[ho];simp[QX,IF]);simp[eU] at this;have:=hA (by rw[ho];simp[QX,IF]);simp[eU] at this;cases h;rename_i IF;unfold v7 at h;rw[ho] at h;simp only[IF] at h;have no:=hA (by rw[ho];simp[QX,IF]);split at h;split at h;split at h;unfold abc at h;split at h;simp[eU] at no;simp[eU] at no;cases h;rfl;cases h;rfl;split at h;cases h;rfl;split at h;split at h;cases h;rfl;cases h;cases h;cases h;cases h;cases h;cases h;cases h;rename_i IF;rw[ho] at hq;simp[quiet,IF] at hq;rw[ho] at hq;rw[ho,hq] at hi;cases hi;rename_i e ho;rw[ho] at ha;cases ha;rw[hq] at hi;cases hi;cases h;rfl
def nJ.refl(q0:Nat)(s:AS):nJ q0 s s:=λ_ _=>rfl
def nJ.trans{q0:Nat}{a b c:AS}(h:nJ q0 a b)(k:nJ q0 b c):nJ q0 a c:=λid hid=>(k id hid).trans (h id hid)
def ajz{q0:Nat}{l:List Oper}{q:Nat}{hs CW:List Hn}{fr Ct:List AV}{s s':AS}{cd:List Cd}{t:List (List AV×AS×AV)}(h:hTr P G ops l q hs fr s=some (CW,cd,t,Ct,s'))(hc:RN P G cd)(hi:Mi G ops q0 l t=true) :
   S6 P G (XS P G) H0 ops q l fr s t Ct s'/\(∀x∈t,nJ q0 s x.2.1)/\nJ q0 s s':=by
 induction l generalizing q hs fr s cd t with
 | nil=>simp only[hTr] at h;cases h;exact⟨.nil,(λx hx=>by cases hx),nJ.refl _ _⟩
 | cons o l ih =>
   simp only[hTr] at h;cases ha:B1 o.op with
   | true =>
     rw[ha] at h;simp only at h;unfold wB at h;split at h;rename_i aR vP t2 fr2 s2 h2;cases h
     have hi2:Mi G ops q0 l t2=true:=by
       simp only[Mi] at hi;split at hi;exact hi;split at hi;exact hi;cases hi
     obtain⟨k1,k2,k3⟩:=ih h2 (hc.WT).2 hi2;refine⟨.alloc ha k1,λx hx=>?_,k3⟩;rcases List.mem_cons.1 hx with rfl | hx
     exact nJ.refl _ _;exact k2 x hx;cases h
   | false =>
     rw[ha] at h;simp only at h;split at h;rename_i v s1 R3 yY h1;unfold wB at h;split at h;rename_i aR vP t2 fr2 s2 h2;cases h;obtain⟨c1,c2⟩:=hc.WT
     have hi1:CG ops fr o=true->indep G q0 fr o=true:=by
       intro hw;simp only[Mi,hw] at hi;split at hi;assumption;cases hi
     have hi2:Mi G ops q0 l t2=true:=by
       simp only[Mi] at hi;split at hi;exact hi;split at hi;exact hi;cases hi
     have hf:=afc (SQ h1).1 (Yx h1).2 hi1 c1 ha;obtain⟨k1,k2,k3⟩:=ih h2 c2 hi2;refine⟨.cons ha (PD (SQ h1).1 c1) k1,λx hx=>?_,hf.trans k3⟩;rcases List.mem_cons.1 hx with rfl | hx
     exact nJ.refl _ _;exact hf.trans (k2 x hx);cases h;cases h
def wK{q0:Nat}{os:List Oper}{ts:List (List AV×AS×AV)}(h:Mi G ops q0 os ts=true){i:Nat}{o:Oper}{x:List AV×AS×AV}(ho:os[i]?=some o)(hx:ts[i]?=some x)(hw:CG ops x.1 o=true):indep G q0 x.1 o=true:=by
 induction os generalizing ts i with
 | nil=>simp at ho
 | cons y os ih =>
   cases ts with
   | nil=>simp at hx
   | cons t ts =>
     simp only[Mi] at h;cases i with
     | zero =>
       simp at ho hx;subst ho hx;rw[hw] at h;simp only at h;split at h;assumption;cases h
     | succ i =>
       have h2:Mi G ops q0 os ts=true:=by
         split at h;exact h;split at h;exact h;cases h
       exact ih h2 (by simpa using ho) (by simpa using hx)
def aaX{q0:Nat}{fr:List AV}{s0 s s2:AS}{o:Oper}{v:AV}(hq:quiet o.op=true)(hr:reads o.op=true)(hi:indep G q0 fr o=true)(h1:nJ q0 s0 s)(h2:nJ q0 s0 s2)(h:QK P G fr s o=some (.val v s)):QK P G fr s2 o=some (.val v s2):=by
 unfold indep at hi;split at hi;rename_i t a ho;rw[Cy] at hi;unfold QK at h ⊢;rw[ho] at h ⊢;simp only at h ⊢;obtain⟨v',h3,h4⟩:=map_some h;injection h4 with h4
 subst h4;obtain⟨b,h5,h6⟩:=bind_some h3;rw[h5] at hi ⊢;unfold alR at hi;split at hi;rename_i NY;cases NY;simp only[Option.bind_some];rw[show K8 P s2 t (.el _)=K8 P s t (.el _) from rfl,h6];rfl;rename_i id off NY;cases NY;have hid:id < q0:=Nat.le_of_ble_eq_true hi
 have:K8 P s2 t (.ptr id off)=K8 P s t (.ptr id off):=by
   simp only[K8];rw[h2 id hid,h1 id hid]
 simp only[Option.bind_some];rw[this,h6];rfl;cases hi;rename_i t m k ok ho;rw[Cy] at hi;unfold QK at h ⊢;rw[ho] at h ⊢;simp only at h ⊢;unfold mpV at hi;split at hi;rename_i id NY;have hid:id < q0:=Nat.le_of_ble_eq_true hi;rw[NY] at h ⊢;cases hk:Bg G fr k with
 | none=>rw[hk] at h;cases h
 | some b =>
   rw[hk] at h;simp only at h ⊢;obtain⟨v',h3,h4⟩:=map_some h;injection h4 with h4
   subst h4
   have:Jp P s2 t (.mp id) b ok=Jp P s t (.mp id) b ok:=by
     unfold Jp;simp only;rw[h2 id hid,h1 id hid]
   rw[this,h3];rfl
 cases hi;rename_i t a x ho;rw[ho] at hq;cases hq
 . rename_i cl ho
   split at hi;rename_i f IF;rw[ho] at hq;simp[quiet,IF] at hq;rename_i IF;rw[ho] at hq;simp[quiet,IF] at hq
   . rename_i IF
     unfold QK at h ⊢;rw[ho] at h ⊢;simp only[Tq,IF] at h ⊢;split at hi
     . rename_i x hx
       rw[hx] at h ⊢;cases ht:cl.argTypes.toList with
       | nil=>rw[ht] at h;cases h
       | cons t1 ts =>
         cases ts with
         | cons _ _=>rw[ht] at h;cases h
         | nil =>
           rw[ht] at h;simp only at h ⊢;obtain⟨v',h3,h4⟩:=map_some h;injection h4 with h4
           subst h4;obtain⟨b,h5,h6⟩:=bind_some h3;rw[Cy,h5] at hi;rw[h5];simp only[Option.bind_some]
           have:WR P s2 t1 b=WR P s t1 b:=by
             unfold slV at hi;split at hi
             . rename_i NY;cases NY;unfold WR;split<;>first | rfl | (simp_all;done)
             . rename_i NY;cases NY;unfold WR;split<;>first | rfl | (simp_all;done)
             cases hi
           rw[this,h6];rfl
     cases hi
   . rename_i aP hn2
     rw[ho] at hr;unfold reads at hr;simp only at hr
     first
       | (cases hr;done)
       | (split at hr
          rename_i IF;exact absurd IF hn2;cases hr)
 rename_i e ho;rw[ho] at hq;cases hq;rename_i aP hn2 hn3 hn4 hn5;exfalso;unfold reads at hr;split at hr;rename_i ho;exact aP _ _ ho;rename_i ho;exact hn2 _ _ _ _ ho;rename_i ho;exact hn4 _ ho;cases hr
def aaI{id:Nat}{fr Ct:List AV}{s s':AS}{r:List Bo}{t:List (List AV×AS×AV)}{hs CW:List Hn}{cd:List Cd}(H8:MP ops=true)(hr:rsv P ops.toList=some r)(h:hTr P G ops ops.toList s.nx hs fr (s.hold r)=some (CW,cd,t,Ct,s'))(hc:RN P G cd)(hi:Mi G ops s.nx ops.toList t=true)(abK:XI P ops t s' s.nx r=true):J P G (XS P G) H0 (.code (.region id ops true) fr s .normal Ct s'):=by
 obtain⟨wI,apJ,ame⟩:=ajz h hc hi;have hlen:t.length=ops.size:=by rw[wI.len,Array.length_toList]
 have zE:∀k,nJ s.nx (s.hold r) (FY t s' k):=by
   intro k;unfold FY;split;rename_i x hx;exact apJ x (List.mem_of_getElem? hx);exact ame
 obtain⟨h0,R2⟩:=wI.at;have oP:∀i o,ops[i]?=some o->Cs ops i=o.dst:=λi o ho=>by unfold Cs;rw[ho];rfl
 obtain⟨YB,YC⟩:=wI.dT (Cs ops) (KP t) fr 0 rfl (λi o ho=>by rw[Nat.zero_add];exact oP i o (by rw[<- Array.getElem?_toList];exact ho)) (λi=>.inl (by rw[Nat.zero_add]));rw[Nat.zero_add,Array.length_toList] at YB
 have H6:∀(i:Nat) (o:Oper),ops[i]?=some o->B1 o.op=false->J P G (XS P G) H0 (.op ops o (IG fr (Cs ops) (KP t) (λ_=>true) i) (FY t s' i) (.ret (KP t i)) (FY t s' (i+1))):=by
   intro i o ho nD;obtain⟨fi,h1,h2⟩:=R2 i o (Cm ho);have:=YC i _ h1;simp only[Nat.zero_add] at this;rcases h2 with ⟨_,h2⟩ | ⟨h2,_⟩
   rw[<- this];exact h2;rw[nD] at h2;cases h2
 have al3:∀(i:Nat) (o:Oper),ops[i]?=some o->B1 o.op=true->FY t s' (i+1)=FY t s' i/\KP t i=Pv ops (IG fr (Cs ops) (KP t) (λ_=>true) i) o (s.nx+rk ops i):=by
   intro i o ho eR;obtain⟨fi,h1,h2⟩:=R2 i o (Cm ho);have:=YC i _ h1;simp only[Nat.zero_add] at this;rcases h2 with ⟨h2,_⟩ | ⟨_,h2⟩
   rw[eR] at h2;cases h2;rw[<- this];exact h2
 have nD:∀o:Oper,quiet o.op=true->B1 o.op=false:=by
   intro o hq;cases eR:B1 o.op with
   | false=>rfl
   | true=>obtain⟨e,he⟩:=K1 eR;rw[Ry he] at hq;cases hq
 have Xp:∀o:Oper,calm o.op=false->B1 o.op=false:=by
   intro o hq;cases eR:B1 o.op with
   | false=>rfl
   | true=>unfold calm at hq;rw[eR] at hq;cases hq
 have hsn:FY t s' ops.size=s':=by
   unfold FY;rw[List.getElem?_eq_none (by omega)]
 have hsk:∀k,k<=ops.size->(t.map (λx=>x.2.1)++[s'])[k]?=some (FY t s' k):=by
   intro k hk;unfold FY;by_cases hkt:k < t.length;rw[List.getElem?_append_left (by simpa using hkt),List.getElem?_map,List.getElem?_eq_getElem hkt];rfl
   have:k=t.length:=by omega
   subst this;rw[List.getElem?_append_right (by simp)];simp
 have sG:∀l,l∈NG ops.toList 0->YU ops l:=by
   intro l hl;obtain⟨j,o',e,h5,h6⟩:=fB hl;rw[Nat.zero_add] at e;subst e;exact⟨o',by rw[<- Array.getElem?_toList];exact h5,h6⟩
 have key:=J.draw (P:=P) (G:=G) (X:=XS P G) (H:=H0) (id:=id) (f0:=fr) (s0:=s) r (KP t) (FY t s') h0 H8 (λi o ho hl=>H6 i o ho (Xp o hl)) (λi o ho hq=>by
   obtain⟨h1,h2⟩:=Ki hq (H6 i o ho (nD o hq));refine⟨h1,?_⟩;rcases h2 with h2 | ⟨hw,h2⟩
   exact .inl h2;refine .inr ⟨hw,λk hk Z0=>?_⟩;cases hrd:reads o.op with
   | false=>exact Ud hq hrd h2 _
   | true =>
     obtain⟨fi,hti,_⟩:=R2 i o (Cm ho);have zD:=YC i _ hti;simp only[Nat.zero_add] at zD;have hin:=wK hi (Cm ho) hti (by rw[zD];exact hw);rw[zD] at hin;exact aaX hq hrd hin (zE i) (zE k) h2) (λi o e ho he=>by
   have eR:B1 o.op=true:=by rw[he];rfl
   obtain⟨h1,h2⟩:=al3 i o ho eR;refine⟨h1,?_⟩
   have hrk:rk ops i < r.length:=by
     rw[agA hr];exact qG (Cm ho) eR (by rw[Array.length_toList];exact(Array.getElem?_eq_some_iff.1 ho).1)
   cases hw:CG ops (IG fr (Cs ops) (KP t) (λ_=>true) i) o with
   | false=>unfold Pv at h2;rw[hw] at h2;exact .inl ⟨rfl,h2⟩
   | true =>
     unfold Pv at h2;rw[hw] at h2;obtain⟨fi,hti,_⟩:=R2 i o (Cm ho);have zD:=YC i _ hti;simp only[Nat.zero_add] at zD
     have hal:TL P ops (Ir ops.toList []) (NG ops.toList 0) (t.map (·.2.1)++[s']) ops.toList t 0 s.nx=true:=by
       unfold XI at abK;split at abK;simp at hrk;exact abK
     obtain⟨z,hz,hbx⟩:=vC hal (Cm ho) hti he (by rw[zD];exact hw);rw[Nat.zero_add] at hbx;exact .inr ⟨rfl,z,hz,hrk,h2,λk hk Z0=>vN hbx (hsk k hk) (by rw[Nat.zero_add];exact ahG sG Z0)⟩)
 rw[<- YB,hsn] at key;exact key
end
end AI
namespace AI
open Go Go.RowKit
def wC(P:Program)(G:Bc)(ops:Array Oper)(c:Nat):List Oper->Nat->List Hn->List AV->AS->HT
 | [],_,hs,fr,s=>some (hs,[],[],fr,s)
 | o::l,i,hs,fr,s=>(match (match Nat.beq i c with
     | true=>aM P G ops fr s o hs
     | false=>jL P G ops fr s o hs) with
   | some (v,s1,R3,cd)=>wB cd (fr,s,v) (wC P G ops c l (i+1) R3 (JE fr o.dst v) s1)
   | none=>none)
def U4(ms:List Nat)(c:Nat):List Oper->Nat->Bool
 | [],_=>true
 | o::l,i=>(match Nat.beq i c with
   | true=>!calm o.op
   | false=>(match Ob o.op with
     | true=>Nat.blt i c
     | false=>quiet o.op&&(!reads o.op||(Nat.blt i c&&SN ms c i))))&&U4 ms c l (i+1)
section
variable {P:Program} {G:Bc} {ops:Array Oper}
def YL{ms:List Nat}{c:Nat}:∀{l:List Oper} {i j:Nat} {o:Oper},U4 ms c l i=true->l[j]?=some o->(i+j=c->calm o.op=false)/\(i+j≠c->(Ob o.op=true/\i+j < c)\/(quiet o.op=true/\(reads o.op=true->i+j < c/\SN ms c (i+j)=true))):=by
 intro l
 induction l with
 | nil=>intro i j o h ho;simp at ho
 | cons x l ih =>
   intro i j o h ho;simp only[U4,Bool.and_eq_true] at h;cases j with
   | zero =>
     simp at ho;subst ho;have h1:=h.1;split at h1;rename_i hb;have:=Nat.eq_of_beq_eq_true hb;exact⟨λ_=>by simpa using h1,λhn=>absurd this hn⟩
     rename_i hb;have:=Nat.ne_of_beq_eq_false hb;refine⟨λhn=>absurd hn this,λ_=>?_⟩;split at h1;rename_i hv;exact .inl ⟨hv,Nat.le_of_ble_eq_true h1⟩;simp only[Bool.and_eq_true,Bool.or_eq_true,Bool.not_eq_true'] at h1;refine .inr ⟨h1.1,λhr=>?_⟩;rcases h1.2 with h2 | h2
     rw[hr] at h2;cases h2;exact⟨Nat.le_of_ble_eq_true h2.1,h2.2⟩
   | succ j =>
     have:=ih (i:=i+1) (j:=j) h.2 (by simpa using ho)
     rw[show i+(j+1)=i+1+j by omega];exact this
def WA{ms:List Nat}{c:Nat}{l:List Oper}{i j:Nat}{o:Oper}(hl:U4 ms c l i=true)(hj:l[j]?=some o):B1 o.op=false:=by
 have ho:=YL hl hj;cases ha:B1 o.op with
 | false=>rfl
 | true =>
   obtain⟨e,he⟩:=K1 ha;by_cases hic:i+j=c;have:=ho.1 hic;unfold calm at this;rw[ha] at this;simp at this;rcases ho.2 hic with ⟨h1,_⟩ | ⟨h1,_⟩
   rw[he] at h1;cases h1;rw[Ry he] at h1;cases h1
def afd{fr:List AV}{s s1:AS}{o:Oper}{hs CW:List Hn}{v:AV}{cd:List Cd}(h:aM P G ops fr s o hs=some (v,s1,CW,cd))(hv:Ob o.op=true)(hA:eU hs=false):s1=s:=by
 unfold aM at h;split at h;unfold Ob at hv;split at hv;rename_i cl ho;split at hv;rename_i f IF;unfold v7 at h;rw[ho] at h;simp only[IF] at h;unfold Yw at h;split at h;split at h;cases h;rfl;cases h;simp[eU] at hA;simp[eU] at hA;simp[eU] at hA;cases h;cases hv;cases hv;cases h;rfl
def afj{c q:Nat}{ms:List Nat}:∀{l:List Oper} {i:Nat} {hs CW:List Hn} {fr Ct:List AV} {s s':AS} {cd:List Cd} {t:List (List AV×AS×AV)},wC P G ops c l i hs fr s=some (CW,cd,t,Ct,s')->RN P G cd->U4 ms c l i=true->S6 P G (XS P G) H0 ops q l fr s t Ct s'/\∀j,j<=l.length->i+j<=c->FY t s' j=s:=by
 intro l
 induction l with
 | nil =>
   intro i hs CW fr Ct s s' cd t h hc hl;simp only[wC] at h;cases h;exact⟨.nil,λj hj _=>by rfl⟩
 | cons o l ih =>
   intro i hs CW fr Ct s s' cd t h hc hl;simp only[wC] at h;split at h;rename_i v s1 R3 yY h1;unfold wB at h;split at h;rename_i aR vP t2 fr2 s2 h2;cases h;obtain⟨c1,c2⟩:=hc.WT;have ho:=YL (j:=0) hl rfl;have nD:B1 o.op=false:=WA (j:=0) hl rfl
   have oS:U4 ms c l (i+1)=true:=by
     simp only[U4,Bool.and_eq_true] at hl;exact hl.2
   have h3:aM P G ops fr s o hs=some (v,s1,R3,yY):=by
     split at h1;exact h1;exact(SQ h1).1
   have hj:=PD h3 c1;obtain⟨k1,k2⟩:=ih h2 c2 oS;refine⟨.cons nD hj k1,λj hjl hjc=>?_⟩;cases j with
   | zero=>rfl
   | succ j =>
     have e1:FY ((fr,s,v)::t2) s' (j+1)=FY t2 s' j:=by unfold FY;simp
     rw[e1,k2 j (by simpa using hjl) (by omega)]
     have hic:i+0≠c:=by omega
     rcases ho.2 hic with ⟨hv,_⟩ | ⟨hq,_⟩
     split at h1;rename_i hb;have:=Nat.eq_of_beq_eq_true hb;omega;exact afd h3 hv ((SQ h1).2 hv);exact(Ki hq hj).1
   cases h;cases h
def vV{id c:Nat}{fr Ct:List AV}{s s':AS}{t:List (List AV×AS×AV)}{hs CW:List Hn}{cd:List Cd}(H8:MP ops=true)(sE:Nat.blt c ops.size=true)(hl:U4 (Ir ops.toList []) c ops.toList 0=true)(h:wC P G ops c ops.toList 0 hs fr s=some (CW,cd,t,Ct,s'))(hc:RN P G cd):J P G (XS P G) H0 (.code (.region id ops true) fr s .normal Ct s'):=by
 have IF:c < ops.size:=Nat.le_of_ble_eq_true sE;obtain⟨wI,hsm⟩:=afj (q:=s.nx) h hc hl;have hlen:t.length=ops.size:=by rw[wI.len,Array.length_toList]
 obtain⟨h0,R2⟩:=wI.at;have oP:∀i o,ops[i]?=some o->Cs ops i=o.dst:=λi o ho=>by unfold Cs;rw[ho];rfl
 obtain⟨YB,YC⟩:=wI.dT (Cs ops) (KP t) fr 0 rfl (λi o ho=>by rw[Nat.zero_add];exact oP i o (by rw[<- Array.getElem?_toList];exact ho)) (λi=>.inl (by rw[Nat.zero_add]));rw[Nat.zero_add,Array.length_toList] at YB
 have aib:∀(i:Nat) (o:Oper),ops[i]?=some o->(i=c->calm o.op=false)/\(i≠c->(Ob o.op=true/\i < c)\/(quiet o.op=true/\(reads o.op=true->i < c/\SN (Ir ops.toList []) c i=true))):=by
   intro i o ho;have:=YL (j:=i) hl (Cm ho);rwa[Nat.zero_add] at this
 have abD:∀(i:Nat) (o:Oper),ops[i]?=some o->B1 o.op=false:=λi o ho=>WA (j:=i) hl (Cm ho)
 have H6:∀(i:Nat) (o:Oper),ops[i]?=some o->J P G (XS P G) H0 (.op ops o (IG fr (Cs ops) (KP t) (λ_=>true) i) (FY t s' i) (.ret (KP t i)) (FY t s' (i+1))):=by
   intro i o ho;obtain⟨fi,h1,h2⟩:=R2 i o (Cm ho);have:=YC i _ h1;simp only[Nat.zero_add] at this;rcases h2 with ⟨_,h2⟩ | ⟨h2,_⟩
   rw[<- this];exact h2;rw[abD i o ho] at h2;cases h2
 have hsn:FY t s' ops.size=s':=by
   unfold FY;rw[List.getElem?_eq_none (by omega)]
 have jT:∀k,k<=c->FY t s' k=s:=λk hk=>hsm k (by rw[Array.length_toList];omega) (by omega)
 have sG:YU ops c:=by
   have ho:ops[c]?=some ops[c]:=Array.getElem?_eq_getElem IF;exact⟨_,ho,(aib c _ ho).1 rfl⟩
 have key:=J.draw (P:=P) (G:=G) (X:=XS P G) (H:=H0) (id:=id) (f0:=fr) (s0:=s) [] (KP t) (FY t s') h0 H8 (λi o ho _=>H6 i o ho) (λi o ho hq=>by
   obtain⟨h1,h2⟩:=Ki hq (H6 i o ho);refine⟨h1,?_⟩;rcases h2 with h2 | ⟨hw,h2⟩
   exact .inl h2;refine .inr ⟨hw,λk hk Z0=>?_⟩;cases hrd:reads o.op with
   | false=>exact Ud hq hrd h2 _
   | true =>
     have hic:i≠c:=λe=>by
       subst e;obtain⟨o2,ho2,hcm⟩:=sG;rw[ho] at ho2;cases ho2;rw[Yc hq] at hcm;cases hcm
     obtain⟨Gm,hd⟩:i < c/\SN (Ir ops.toList []) c i=true:=by
       rcases(aib i o ho).2 hic with ⟨hv,_⟩ | ⟨_,h3⟩
       exfalso;unfold Ob at hv;split at hv;rename_i cl jS;split at hv;rename_i f apD;rw[jS] at hq;simp[quiet,apD] at hq;cases hv;cases hv;exact h3 hrd
     have hkc:=Z0.2 c sG hd;rw[jT k hkc];rw[jT i (by omega)] at h2;exact h2) (λi o e ho he=>by
   have:=abD i o ho;rw[he] at this;cases this)
 rw[<- YB,hsn] at key;exact key
end
end AI
namespace AI
open Go Go.RowKit
def adI(G:Bc)(fr:List AV)(o:Oper)(hs:List Hn):Option (List Nat):=match o.op with
 | .store _ a _=>(match Bg G fr a with
   | some (.ptr id _)=>some [id]
   | _=>none)
 | .mapUpdate _ m _ _=>(match AZ G fr m with
   | some (.mp id)=>some [id]
   | _=>none)
 | .call cl=>(match cl.callee with
   | .value _=>(match hs with
     | .w _::_=>some []
     | .u _ _ _ Ro _::_=>some (Ro.map (·.1))
     | .cn _ h _ _ _::_=>some (h.map (·.1))
     | _=>none)
   | .builtin .append=>(match hs with
     | .g _ _ _::_=>some []
     | .ae _::_=>some []
     | _=>none)
   | _=>(match quiet o.op with
     | true=>some []
     | false=>none))
 | op=>(match quiet op with
   | true=>some []
   | false=>none)
def Zs(G:Bc)(ops:Array Oper)(fr:List AV)(o:Oper)(hs:List Hn):Option (List Nat):=match CG ops fr o with
 | true=>adI G fr o hs
 | false=>some []
abbrev HA:=Option (List Hn×List Cd×List (List AV×AS×AV)×List (List Nat)×List AV×AS)
def ah9(cd:List Cd)(x:List AV×AS×AV)(T:List Nat):HA->HA
 | some (hs,cd',t,Ts,fr,s)=>some (hs,cd++cd',x::t,T::Ts,fr,s)
 | none=>none
def wA(P:Program)(G:Bc)(ops:Array Oper):List Oper->List Hn->List AV->AS->HA
 | [],hs,fr,s=>some (hs,[],[],[],fr,s)
 | o::l,hs,fr,s=>(match B1 o.op with
   | true=>none
   | false=>(match Zs G ops fr o hs with
     | some T=>(match aM P G ops fr s o hs with
       | some (v,s1,R3,cd)=>ah9 cd (fr,s,v) T (wA P G ops l R3 (JE fr o.dst v) s1)
       | none=>none)
     | none=>none))
def age(G:Bc)(fr:List AV)(o:Oper):Option (Option Nat):=match o.op with
 | .load _ a=>(match AZ G fr a with
   | some (.ptr id _)=>some (some id)
   | some (.el _)=>some none
   | _=>none)
 | .lookup _ m _ _=>(match AZ G fr m with
   | some (.mp id)=>some (some id)
   | _=>none)
 | .call cl=>(match cl.callee with
   | .builtin .len=>(match cl.args.toList with
     | [x]=>(match slV (AZ G fr x) with
       | true=>some none
       | false=>none)
     | _=>none)
   | _=>none)
 | _=>none
def ach(a:Nat):List Nat->Bool
 | []=>false
 | b::l=>(match Nat.beq a b with
   | true=>true
   | false=>ach a l)
def Vn(ms:List Nat)(id i:Nat):List (List Nat)->Nat->Bool
 | [],_=>true
 | T::Ts,l=>(match ach id T with
   | true=>(match Nat.blt l i with
     | true=>SN ms i l
     | false=>(match Nat.blt i l with
       | true=>SN ms l i
       | false=>true))
   | false=>true)&&Vn ms id i Ts (l+1)
def kZ(G:Bc)(ops:Array Oper)(ms:List Nat)(Ts:List (List Nat)):List Oper->List (List AV×AS×AV)->Nat->Bool
 | o::os,t::ts,i=>(match CG ops t.1 o with
   | false=>true
   | true=>(match reads o.op with
     | false=>true
     | true=>(match age G t.1 o with
       | none=>false
       | some none=>true
       | some (some id)=>Vn ms id i Ts 0)))&&kZ G ops ms Ts os ts (i+1)
 | _,_,_=>true
def kB{a:Nat}:∀{l:List Nat},ach a l=true↔a∈l
 | []=>by simp[ach]
 | b::l=>by
   simp only[ach];cases hb:Nat.beq a b with
   | true=>have:=Nat.eq_of_beq_eq_true hb;simp[this]
   | false =>
     have:=Nat.ne_of_beq_eq_false hb;simp[kB (l:=l),this]
def lZ{id:Nat}:∀(l:List (Nat×Bo)) (s:AS),id∉l.map (·.1)->(s.V8 l).get id=s.get id
 | [],_,_=>rfl
 | e::l,s,h=>by
   simp only[List.map_cons,List.mem_cons,not_or] at h;rw[AS.V8,lZ l _ h.2];exact JU h.1 _
def j6{id:Nat}:∀{l:List (Nat×Bo)} (m:List (Nat×Bo)),id∉l.map (·.1)->look id (l++m)=look id m
 | [],_,_=>rfl
 | e::l,m,h=>by
   simp only[List.map_cons,List.mem_cons,not_or] at h;simp only[List.cons_append,look]
   have hb:Nat.beq e.1 id=false:=by
     cases hq:Nat.beq e.1 id with
     | false=>rfl
     | true=>exact absurd (Nat.eq_of_beq_eq_true hq).symm h.1
   rw[hb];exact j6 m h.2
def aK{id:Nat}:∀(l:List (Nat×Nat)) (s:AS),(s.Tw l).get id=s.get id
 | [],_=>rfl
 | e::l,s=>by rw[AS.Tw,aK l];rfl
section
variable {P:Program} {G:Bc} {ops:Array Oper}
def v8{fr:List AV}{s s1:AS}{o:Oper}{hs CW:List Hn}{v:AV}{cd:List Cd}{T:List Nat}(h:aM P G ops fr s o hs=some (v,s1,CW,cd))(hT:Zs G ops fr o hs=some T)(hc:RN P G cd)(ha:B1 o.op=false)(id:Nat)(hid:id∉T):s1.get id=s.get id:=by
 have hj:=PD h hc;cases hq:quiet o.op with
 | true=>rw[(Ki hq hj).1]
 | false =>
   unfold aM at h;unfold Zs at hT;split at h
   . rename_i hw
     rw[hw] at hT;simp only at hT;unfold adI at hT;split at hT;rename_i t a x ho;unfold v7 at h;rw[ho] at h;simp only at h
     have h1:∃a' x',Bg G fr a=some a'/\Bg G fr x=some x'/\Md P s t a' x'=some s1:=by
       rcases VK h hc with ⟨a',x',h2,h3,h4,_⟩ | h2
       exact⟨a',x',h2,h3,h4⟩;have h1:=VJ h2;rw[Nz] at h1;unfold QK at h1;rw[ho] at h1;simp only at h1;split at h1;rename_i a' x' zA TW;obtain⟨s',GC,he⟩:=map_some h1;injection he with he1 he2
       subst he2;exact⟨a',x',zA,TW,GC⟩;cases h1
     obtain⟨a',x',zA,TW,GC⟩:=h1;rw[zA] at hT;split at hT;rename_i RC off NY;cases NY;cases hT;simp only[List.mem_singleton] at hid;unfold Md at GC;split at GC;rename_i i id2 aqE hi2 abx;cases abx;split at GC;split at GC;cases GC;exact JU hid _;cases GC;cases GC;cases GC;cases hT
     . rename_i t m k x ho
       unfold v7 at h;rw[ho] at h;simp only at h;split at hT
       . rename_i RC NY
         rw[NY] at h;cases hT;simp only[List.mem_singleton] at hid;simp only at h;split at h
         . split at h
           . have agJ:∀kk x' s2,KR P s t (.mp RC) kk x'=some s2->s2.get id=s.get id:=by
               intro kk x' s2 h2;unfold KR at h2
               repeat' split at h2
               all_goals first
                 | (cases h2;done)
                 | (rename_i abx;cases abx;cases h2;exact JU hid _)
                 | (simp_all only [AV.mp.injEq,Option.some.injEq];subst_vars;exact JU hid _)
             unfold ajx at h;split at h;cases h;exact agJ _ _ _ hc.1;cases h;exact JU hid _;cases h
           cases h
         cases h
       cases hT
     rename_i cl ho;split at hT;rename_i f IF;unfold v7 at h;rw[ho] at h;simp only[IF] at h;unfold Yw at h;split at h;split at h;cases h;rfl;cases h;cases hT;split at h;cases h;cases hT;rw[aK];exact lZ _ _ hid;cases h;split at h;cases h;cases hT;exact j6 _ hid;cases h;cases h;rename_i IF;unfold v7 at h;rw[ho] at h;simp only[IF] at h;split at hT;split at h;split at h;split at h;unfold abc at h;simp only at h;split at h;cases h;rfl;split at h;split at h;cases h;rfl;cases h;cases h;cases h;cases h;cases h;cases h;split at h;split at h;split at h;unfold abc at h;simp only at h;cases h;rfl;cases h;cases h;cases h;cases hT;rw[hq] at hT;cases hT;rw[hq] at hT;cases hT
   cases h;rfl
def qU{fr:List AV}{o:Oper}{hs:List Hn}{T:List Nat}(hT:Zs G ops fr o hs=some T){id:Nat}(h:id∈T)(ha:B1 o.op=false):calm o.op=false:=by
 unfold calm;rw[ha];simp only;cases hq:quiet o.op with
 | false=>rfl
 | true =>
   exfalso;unfold Zs at hT;split at hT;unfold adI at hT;split at hT;rename_i ho;rw[ho] at hq;cases hq;rename_i ho;rw[ho] at hq;cases hq;rename_i cl ho;split at hT;rename_i IF;rw[ho] at hq;simp[quiet,IF] at hq;split at hT;cases hT;cases h;cases hT;cases h;cases hT;rw[hq] at hT;cases hT;cases h;rw[hq] at hT;cases hT;cases h;cases hT;cases h
def afi{q:Nat}:∀{l:List Oper} {hs CW:List Hn} {fr Ct:List AV} {s s':AS} {cd:List Cd} {t:List (List AV×AS×AV)} {Ts:List (List Nat)},wA P G ops l hs fr s=some (CW,cd,t,Ts,Ct,s')->RN P G cd ->
   S6 P G (XS P G) H0 ops q l fr s t Ct s'/\(∀o∈l,B1 o.op=false)/\(∀(i:Nat) id,i < l.length->(∀T,Ts[i]?=some T->id∉T)->(FY t s' (i+1)).get id=(FY t s' i).get id)/\∀(i:Nat) o T id,l[i]?=some o->Ts[i]?=some T->id∈T->calm o.op=false:=by
 intro l
 induction l with
 | nil =>
   intro hs CW fr Ct s s' cd t Ts h hc;simp only[wA] at h;cases h;exact⟨.nil,(λo h=>by cases h),(λi id h=>by simp at h),λi o T id h=>by simp at h⟩
 | cons o l ih =>
   intro hs CW fr Ct s s' cd t Ts h hc;simp only[wA] at h;split at h;cases h;rename_i ha;split at h;rename_i T hT;split at h;rename_i v s1 R3 yY h1;unfold ah9 at h;split at h;rename_i aR vP t2 Ts2 fr2 s2 h2;cases h;obtain⟨c1,c2⟩:=hc.WT;obtain⟨k1,k2,k3,k4⟩:=ih h2 c2;refine⟨.cons ha (PD h1 c1) k1,λo' Wv=>?_,λi id hi zH=>?_,λi o' T' id Wv hT' hid=>?_⟩;rcases List.mem_cons.1 Wv with rfl | Wv
   exact ha;exact k2 o' Wv;cases i with
   | zero =>
     have e1:FY ((fr,s,v)::t2) s' 0=s:=rfl
     have e2:FY ((fr,s,v)::t2) s' (0+1)=s1:=by
       rw[show FY ((fr,s,v)::t2) s' (0+1)=FY t2 s' 0 by unfold FY;simp];exact k1.at.1
     rw[e1,e2];exact v8 h1 hT c1 ha id (zH T rfl)
   | succ i =>
     have e:∀j,FY ((fr,s,v)::t2) s' (j+1)=FY t2 s' j:=λj=>by unfold FY;simp
     rw[e,e];exact k3 i id (by simpa using hi) (λT' h'=>zH T' (by simpa using h'))
   cases i with
   | zero=>simp at Wv hT';subst Wv hT';exact qU hT hid ha
   | succ i=>exact k4 i o' T' id (by simpa using Wv) (by simpa using hT') hid
   cases h;cases h;cases h
def Zr{ms:List Nat}{id i:Nat}:∀{Ts:List (List Nat)} {l0:Nat},Vn ms id i Ts l0=true->∀{l:Nat} {T:List Nat},Ts[l]?=some T->id∈T->(l0+l < i->SN ms i (l0+l)=true)/\(i < l0+l->SN ms (l0+l) i=true):=by
 intro Ts
 induction Ts with
 | nil=>intro l0 _ l T h;simp at h
 | cons T0 Ts ih =>
   intro l0 h l T hT hid;simp only[Vn,Bool.and_eq_true] at h;cases l with
   | zero =>
     simp at hT;subst hT;have h1:=h.1;rw[kB.2 hid] at h1;simp only at h1;constructor;intro Gm;have e:Nat.blt l0 i=true:=Nat.ble_eq_true_of_le Gm;rw[e] at h1;exact h1;intro Gm
     have e:Nat.blt l0 i=false:=by
       cases hq:Nat.blt l0 i with
       | false=>rfl
       | true=>have:=Nat.le_of_ble_eq_true hq;omega
     have e2:Nat.blt i l0=true:=Nat.ble_eq_true_of_le Gm;rw[e,e2] at h1;exact h1
   | succ l =>
     have:=ih h.2 (l:=l) (by simpa using hT) hid
     rw[show l0+(l+1)=l0+1+l by omega];exact this
def acI{ms:List Nat}{Ts:List (List Nat)}:∀{os:List Oper} {ts:List (List AV×AS×AV)} {i:Nat},kZ G ops ms Ts os ts i=true->∀{j:Nat} {o:Oper} {x:List AV×AS×AV},os[j]?=some o->ts[j]?=some x->CG ops x.1 o=true->reads o.op=true->∃r,age G x.1 o=some r/\∀id,r=some id->Vn ms id (i+j) Ts 0=true:=by
 intro os
 induction os with
 | nil=>intro ts i _ j o x h;simp at h
 | cons y os ih =>
   intro ts i h j o x ho hx hw hr;cases ts with
   | nil=>simp at hx
   | cons t ts =>
     simp only[kZ,Bool.and_eq_true] at h;cases j with
     | zero =>
       simp at ho hx;subst ho hx;have h1:=h.1;rw[hw,hr] at h1;simp only at h1;split at h1;cases h1;rename_i hq;exact⟨none,hq,λid h=>by cases h⟩;rename_i id hq;exact⟨some id,hq,λRC h=>by cases h;exact h1⟩
     | succ j =>
       have:=ih h.2 (j:=j) (by simpa using ho) (by simpa using hx) hw hr
       rw[show i+(j+1)=i+1+j by omega];exact this
def agf{fr:List AV}{s s2:AS}{o:Oper}{v:AV}{r:Option Nat}(hr:age G fr o=some r)(hs:∀id,r=some id->s2.get id=s.get id)(h:QK P G fr s o=some (.val v s)):QK P G fr s2 o=some (.val v s2):=by
 unfold age at hr;split at hr;rename_i t a ho;rw[Cy] at hr;unfold QK at h ⊢;rw[ho] at h ⊢;simp only at h ⊢;obtain⟨v',h3,h4⟩:=map_some h;injection h4 with h4
 subst h4;obtain⟨b,h5,h6⟩:=bind_some h3;rw[h5] at hr ⊢;split at hr;rename_i id off NY;cases NY;cases hr
 have:K8 P s2 t (.ptr id off)=K8 P s t (.ptr id off):=by
   simp only[K8];rw[hs id rfl]
 simp only[Option.bind_some];rw[this,h6];rfl;rename_i NY;cases NY;simp only[Option.bind_some];rw[show K8 P s2 t (.el _)=K8 P s t (.el _) from rfl,h6];rfl;cases hr;rename_i t m k ok ho;rw[Cy] at hr;unfold QK at h ⊢;rw[ho] at h ⊢;simp only at h ⊢;split at hr;rename_i id NY;cases hr;rw[NY] at h ⊢;split at h;rename_i a b ha hb;cases ha;obtain⟨v',h3,h4⟩:=map_some h;injection h4 with h4
 subst h4
 have:Jp P s2 t (.mp id) b ok=Jp P s t (.mp id) b ok:=by
   simp only[Jp];rw[hs id rfl]
 rw[this,h3];rfl;cases h;cases hr
 . rename_i cl ho
   split at hr
   . rename_i IF
     unfold QK at h ⊢;rw[ho] at h ⊢;simp only[Tq,IF] at h ⊢;split at hr
     . rename_i x hx
       rw[hx] at h ⊢;cases ht:cl.argTypes.toList with
       | nil=>rw[ht] at h;cases h
       | cons t1 ts =>
         cases ts with
         | cons _ _=>rw[ht] at h;cases h
         | nil =>
           rw[ht] at h;simp only at h ⊢;obtain⟨v',h3,h4⟩:=map_some h;injection h4 with h4
           subst h4;obtain⟨b,h5,h6⟩:=bind_some h3;rw[Cy,h5] at hr;rw[h5];simp only[Option.bind_some];split at hr
           . rename_i hsl
             have:WR P s2 t1 b=WR P s t1 b:=by
               unfold slV at hsl;split at hsl
               . rename_i NY;cases NY;unfold WR;split<;>first | rfl | (simp_all;done)
               . rename_i NY;cases NY;unfold WR;split<;>first | rfl | (simp_all;done)
               cases hsl
             rw[this,h6];rfl
           cases hr
     cases hr
   cases hr
 cases hr
def aaG{id:Nat}{fr Ct:List AV}{s s':AS}{t:List (List AV×AS×AV)}{Ts:List (List Nat)}{hs CW:List Hn}{cd:List Cd}(H8:MP ops=true)(h:wA P G ops ops.toList hs fr s=some (CW,cd,t,Ts,Ct,s'))(hr:kZ G ops (Ir ops.toList []) Ts ops.toList t 0=true)(hc:RN P G cd):J P G (XS P G) H0 (.code (.region id ops true) fr s .normal Ct s'):=by
 obtain⟨wI,nD,GC,hlo⟩:=afi (q:=s.nx) h hc;have hlen:t.length=ops.size:=by rw[wI.len,Array.length_toList]
 obtain⟨h0,R2⟩:=wI.at;have oP:∀i o,ops[i]?=some o->Cs ops i=o.dst:=λi o ho=>by unfold Cs;rw[ho];rfl
 obtain⟨YB,YC⟩:=wI.dT (Cs ops) (KP t) fr 0 rfl (λi o ho=>by rw[Nat.zero_add];exact oP i o (by rw[<- Array.getElem?_toList];exact ho)) (λi=>.inl (by rw[Nat.zero_add]));rw[Nat.zero_add,Array.length_toList] at YB;have abD:∀(i:Nat) (o:Oper),ops[i]?=some o->B1 o.op=false:=λi o ho=>nD o (List.mem_of_getElem? (Cm ho))
 have H6:∀(i:Nat) (o:Oper),ops[i]?=some o->J P G (XS P G) H0 (.op ops o (IG fr (Cs ops) (KP t) (λ_=>true) i) (FY t s' i) (.ret (KP t i)) (FY t s' (i+1))):=by
   intro i o ho;obtain⟨fi,h1,h2⟩:=R2 i o (Cm ho);have:=YC i _ h1;simp only[Nat.zero_add] at this;rcases h2 with ⟨_,h2⟩ | ⟨h2,_⟩
   rw[<- this];exact h2;rw[abD i o ho] at h2;cases h2
 have hsn:FY t s' ops.size=s':=by
   unfold FY;rw[List.getElem?_eq_none (by omega)]
 have hTl:∀(l:Nat) T id,Ts[l]?=some T->id∈T->l < ops.size->YU ops l:=by
   intro l T id hT hid hl;exact⟨ops[l],Array.getElem?_eq_getElem hl,hlo l ops[l] T id (Cm (Array.getElem?_eq_getElem hl)) hT hid⟩
 have jT:∀(bx:Nat) (d i:Nat),i+d<=ops.size->(∀l,i<=l->l < i+d->∀T,Ts[l]?=some T->bx∉T)->(FY t s' (i+d)).get bx=(FY t s' i).get bx:=by
   intro bx d
   induction d with
   | zero=>intro i _ _;rfl
   | succ d ih =>
     intro i hle zH;rw[show i+(d+1)=(i+d)+1 by omega,GC (i+d) bx (by rw[Array.length_toList];omega) (zH (i+d) (by omega) (by omega))];exact ih i (by omega) (λl h1 h2=>zH l h1 (by omega))
 have key:=J.draw (P:=P) (G:=G) (X:=XS P G) (H:=H0) (id:=id) (f0:=fr) (s0:=s) [] (KP t) (FY t s') h0 H8 (λi o ho _=>H6 i o ho) (λi o ho hq=>by
   obtain⟨h1,h2⟩:=Ki hq (H6 i o ho);refine⟨h1,?_⟩;rcases h2 with h2 | ⟨hw,h2⟩
   exact .inl h2;refine .inr ⟨hw,λk hk Z0=>?_⟩;cases hrd:reads o.op with
   | false=>exact Ud hq hrd h2 _
   | true =>
     have hil:i < ops.size:=(Array.getElem?_eq_some_iff.1 ho).1;obtain⟨fi,hti,_⟩:=R2 i o (Cm ho);have zD:=YC i _ hti;simp only[Nat.zero_add] at zD;obtain⟨r,hr1,hP⟩:=acI hr (Cm ho) hti (by rw[zD];exact hw) hrd;rw[zD] at hr1;refine agf hr1 (λbx hbx=>?_) h2;have hto:=hP bx hbx;rw[Nat.zero_add] at hto;rcases Nat.lt_or_ge k i with hki | hki
     have:=jT bx (i - k) k (by omega) (λl h3 h4 T hT hm=>by
       have hd:=(Zr hto hT hm).1 (by omega);rw[Nat.zero_add] at hd;have:=Z0.1 l (hTl l T bx hT hm (by omega)) hd;omega)
     rw[show k+(i - k)=i by omega] at this;exact this.symm
     have:=jT bx (k - i) i (by omega) (λl h3 h4 T hT hm=>by
       have wH:=hTl l T bx hT hm (by omega);rcases Nat.lt_or_ge i l with h5 | h5
       have hd:=(Zr hto hT hm).2 (by omega);rw[Nat.zero_add] at hd;have:=Z0.2 l wH hd;omega;have:l=i:=by omega
       subst this;obtain⟨o2,ho2,hcm⟩:=wH;rw[ho] at ho2;cases ho2;rw[Yc hq] at hcm;cases hcm)
     rw[show i+(k - i)=k by omega] at this;exact this) (λi o e ho he=>by
   have:=abD i o ho;rw[he] at this;cases this)
 rw[<- YB,hsn] at key;exact key
end
end AI
namespace AI
open Go Go.RowKit
section
variable {P:Program} {G:Bc} {ops:Array Oper} {f0:List AV} {vals:Nat->AV} {s0 s1:AS} {p:Nat} {v:AV}
structure aon(G:Bc)(ops:Array Oper)(f0:List AV)(vals:Nat->AV)(s0:AS)(p:Nat)(nA:Cx)(w0:World)(L:Array Bool)(a:Act)(w:World):Prop where
 size:L.size=ops.size
 closed:N1 ops.toList (λj=>L.getD j false)
 st:∃c,Ext nA w0 c w/\St G c w s0/\CX c w (IG f0 (Cs ops) vals (λj=>L.getD j false) ops.size) a.tmps.toList
 defers:a.defers=[]
 out:L.getD p false=false
def aaJ(H8:MP ops=true)(hp:p < ops.size)
   (hl:∀i o,ops[i]?=some o->i≠p->(p < i->SN (Ir ops.toList []) i p=false)->Sound P G (.op ops o (IG f0 (Cs ops) vals (λ_=>true) i) s0 (.ret (vals i)) s0))
   (ajN:∀o,ops[p]?=some o->Sound P G (.op ops o (IG f0 (Cs ops) vals (λ_=>true) p) s0 (.JI v) s1))
   {nA:Cx} {w0:World} {Ct:List AV} (Q:Exit->Act->World->Prop) (hQ:∀e' a' w',Tm G nA w0 (.JI v) Ct s1 e' a' w'->Q e' a' w') :
   ∀(Lr:Nat) (L:Array Bool) (a:Act) (w:World),aon G ops f0 vals s0 p nA w0 L a w->iS (λj=>L.getD j false) ops.size=Lr->wpAny P .any ops Q Lr L a w:=by
 intro Lr
 induction Lr with
 | zero =>
   intro L a w hI hc;have:=iU ops.size hc p hp;rw[hI.out] at this;cases this
 | succ Lr ih =>
   intro L a w hI apE;refine⟨λeC=>?_,λi hi=>?_⟩;exfalso
   have all:∀i,i < ops.size->L.getD i false=true:=by
     intro i
     induction i using Nat.strongRecOn with
     | _ i ihi =>
       intro Gm;cases gZ:L.getD i false with
       | true=>rfl
       | false =>
         exfalso;have ho:ops[i]?=some (ops[i]'Gm):=Array.getElem?_eq_getElem Gm
         have:=lA hI.size ho gZ (λe he hb=>by
           have h1:=kJ H8 ho he hb;exact ihi e.on h1 (by omega))
         rw[eC] at this;cases this
   have:=all p hp;rw[hI.out] at this;cases this;obtain⟨o,ho,gZ,YE,Gm⟩:=mem_ready hI.size hi;obtain⟨c,hx,GC,QV⟩:=hI.st
   have hip:p < i->SN (Ir ops.toList []) i p=false:=by
     intro h1;cases hd:SN (Ir ops.toList []) i p with
     | false=>rfl
     | true =>
       have:=Yh hI.closed (Cm ho) YE hd;rw[hI.out] at this;cases this
   have hMi:(L.setIfInBounds i true).getD i false=true:=by
     have:i < L.size:=by rw[hI.size];exact Gm
     simp[this]
   have sA:∀j,j≠i->(L.setIfInBounds i true).getD j false=L.getD j false:=by
     intro j hj;simp only[Array.getD_eq_getD_getElem?];rw[Array.getElem?_setIfInBounds_ne (λe=>hj e.symm)]
   have hle:∀j,L.getD j false=true->(L.setIfInBounds i true).getD j false=true:=by
     intro j hj;by_cases e:j=i;subst e;exact hMi;rw[sA j e];exact hj
   have Yz:N1 ops.toList (λj=>(L.setIfInBounds i true).getD j false):=by
     intro j y hy hj e he hb;by_cases ej:j=i;subst ej;rw[Cm ho] at hy;cases hy;exact hle _ (YE e he hb);have wG:L.getD j false=true:=by rw[<- sA j ej];exact hj
     exact hle _ (hI.closed j y hy wG e he hb)
   have abv:iS (λj=>(L.setIfInBounds i true).getD j false) ops.size=Lr:=by
     have:=(rM (L:=λj=>L.getD j false) (M:=λj=>(L.setIfInBounds i true).getD j false) gZ hMi sA ops.size).1 Gm;omega
   have ajQ:=rZ (f0:=f0) (vals:=vals) (L:=λj=>L.getD j false) (M:=λj=>(L.setIfInBounds i true).getD j false) H8 hI.closed ho gZ hMi sA
   have jU:∀x∈o.op.operands,ZO G c w (IG f0 (Cs ops) vals (λ_=>true) i) a.eval x:=by
     intro x hxo v hv;cases x with
     | tmp t =>
       have abA:t∈o.looksAt ops:=by
         unfold Oper.looksAt;rw[List.mem_append];left;rw[List.mem_filterMap];exact⟨.tmp t,Array.mem_toList_iff.2 hxo,rfl⟩
       have he:=SP (f0:=f0) (vals:=vals) H8 hI.closed ho gZ YE abA
       have:Bg G (IG f0 (Cs ops) vals (λj=>L.getD j false) ops.size) (.tmp t)=some v:=by
         rw[<- hv];simp only[Bg,List.getD_eq_getElem?_getD,he]
       exact Gn GC QV this
     | const z=>exact Gn (fr:=IG f0 (Cs ops) vals (λj=>L.getD j false) ops.size) GC QV hv
     | global g=>exact Gn (fr:=IG f0 (Cs ops) vals (λj=>L.getD j false) ops.size) GC QV hv
     | func f=>exact Gn (fr:=IG f0 (Cs ops) vals (λj=>L.getD j false) ops.size) GC QV hv
   have Wx:CG ops (IG f0 (Cs ops) vals (λ_=>true) i) o=Region.wanted o (yielded ops a.tmps):=by
     refine N3 (c:=c) (w:=w) (λj want hg d hd=>⟨_,QV,?_⟩);refine SP H8 hI.closed ho gZ YE ?_;unfold Oper.looksAt;rw[List.mem_append];right;rw[hg];simp[hd]
   have dW:OR P ops o (wpAny P .any ops Q Lr (L.setIfInBounds i true)) Q a w->wpOp P ops Q i (wpAny P .any ops Q Lr (L.setIfInBounds i true)) a w:=by
     intro h;unfold wpOp;rw[ho];unfold OR at h;simp only;split;rename_i hw;rw[if_pos hw] at h;exact .inl h;rename_i hw;rw[if_neg hw] at h;exact h
   refine dW ?_;by_cases hpe:i=p;subst hpe;refine ajN o ho c w a _ _ GC jU Wx ?_;intro u w' c' TW PE hu;exact hQ _ _ _ ⟨c',hx.trans TW,PE,hI.defers,u,rfl,hu⟩;refine hl i o ho hpe hip c w a _ _ GC jU Wx ?_;intro u w' c' TW PE hu;refine ih _ _ _ ⟨by simp[hI.size],Yz,⟨c',hx.trans TW,PE,?_⟩,by cases o.dst<;>exact hI.defers,?_⟩ abv
   rw[ajQ];exact SK (QV.mono TW) hu;rw[sA p (λe=>hpe e.symm)];exact hI.out
def qF(hm:P.follows .mixedOrders=true){id:Nat}{Ct:List AV}(H8:MP ops=true)(hp:p < ops.size)
   (hl:∀i o,ops[i]?=some o->i≠p->(p < i->SN (Ir ops.toList []) i p=false)->Sound P G (.op ops o (IG f0 (Cs ops) vals (λ_=>true) i) s0 (.ret (vals i)) s0))
   (ajN:∀o,ops[p]?=some o->Sound P G (.op ops o (IG f0 (Cs ops) vals (λ_=>true) p) s0 (.JI v) s1)):Sound P G (.code (.region id ops true) f0 s0 (.JI v) Ct s1):=by
 intro cx w a Q hs hf hd hQ;refine wp_region_any hm ?_;obtain⟨x,st⟩:=hs.same (iP w)
 have gf:∀j,(Array.replicate ops.size false).getD j false=false:=by
   intro j;simp only[Array.getD_eq_getD_getElem?,Array.getElem?_replicate];split<;>simp
 refine aaJ H8 hp hl ajN Q hQ ops.size _ a _ ⟨by simp,?_,⟨_,x,st,?_⟩,hd,gf p⟩ ?_;intro i o ho hL;exact absurd (show(Array.replicate ops.size false).getD i false=true from hL) (by rw[gf i];simp)
 have:IG f0 (Cs ops) vals (λj=>(Array.replicate ops.size false).getD j false) ops.size=f0:=by
   have key:∀n,IG f0 (Cs ops) vals (λj=>(Array.replicate ops.size false).getD j false) n=f0:=by
     intro n
     induction n with
     | zero=>rfl
     | succ n ih =>
       simp only[IG,ih];rw[if_neg];rw[gf n];simp
   exact key _
 rw[this];exact hf.mono x
 have key:∀n,iS (λj=>(Array.replicate ops.size false).getD j false) n=n:=by
   intro n
   induction n with
   | zero=>rfl
   | succ n ih =>
     simp only[iS,ih,gf n];simp
 exact key _
end
end AI
namespace AI
open Go Go.RowKit
abbrev HS:=Option (List Hn×List Cd×List AV×AS)
def ah8(cd:List Cd):HS->HS
 | some (hs,cd',fr,s)=>some (hs,cd++cd',fr,s)
 | none=>none
abbrev HC:=Option (AX×List Hn×List Cd×List AV×AS)
def aN(cd:List Cd):HC->HC
 | some (e,hs,cd',fr,s)=>some (e,hs,cd++cd',fr,s)
 | none=>none
def afg(P:Program)(G:Bc)(ops:Array Oper)(fr:List AV)(s:AS)(o:Oper):List Hn->HO
 | .p v s1::hs=>(match CG ops fr o with
   | true=>(match UE P G fr s o with
     | some (.ent f args)=>some (v,s1,hs,[.ahX f args s v s1])
     | some (.JI v')=>some (v',s,hs,[])
     | _=>none)
   | false=>none)
 | .q v pre tp Ro tu::hs=>(match CG ops fr o with
   | true=>(match UE P G fr s o with
     | some (.ent f args)=>some (v,(s.V8 Ro).Tw tu,hs,[.Ff f args (.JI v) pre tp Ro tu,.yZ (Yt s pre) (OQ pre) (aJ s.F tp) (Pn tp)])
     | _=>none)
   | false=>none)
 | _=>none
def abk(P:Program)(G:Bc)(ops:Array Oper):List Oper->List Hn->List AV->AS->HC
 | [],hs,fr,s=>some (.normal,hs,[],fr,s)
 | o::l,hs,fr,s=>(match afg P G ops fr s o hs with
   | some (v,s1,R3,cd)=>some (.JI v,R3,cd,fr,s1)
   | none=>(match aM P G ops fr s o hs with
     | some (v,s1,R3,cd)=>aN cd (abk P G ops l R3 (JE fr o.dst v) s1)
     | none=>none))
def jN(P:Program)(G:Bc)(ops:Array Oper):List Oper->List Hn->List AV->AS->HS
 | [],hs,fr,s=>some (hs,[],fr,s)
 | o::l,hs,fr,s=>(match jL P G ops fr s o hs with
   | some (v,s1,R3,cd)=>ah8 cd (jN P G ops l R3 (JE fr o.dst v) s1)
   | none=>none)
def steady(op:Op):Bool:=match quiet op with
 | true=>true
 | false=>(match op with
   | .call cl=>(match cl.callee with | .value _=>true | _=>false)
   | _=>false)
def Rj:List Oper->Bool
 | []=>true
 | o::l=>(match steady o.op with | true=>Rj l | false=>false)
def al0:HS->HC
 | some (hs,cd,fr,s)=>some (.normal,hs,cd,fr,s)
 | none=>none
def alZ(P:Program)(G:Bc)(ops:Array Oper)(hs:List Hn)(fr:List AV)(s:AS):HC:=match rsv P ops.toList with
 | some r=>(match hTr P G ops ops.toList s.nx hs fr (s.hold r) with
   | some (CW,cd,t,Ct,s')=>(match Mi G ops s.nx ops.toList t with
     | true=>(match XI P ops t s' s.nx r with
       | true=>some (.normal,CW,cd,Ct,s')
       | false=>none)
     | false=>none)
   | none=>none)
 | none=>none
def abe(P:Program)(G:Bc)(ops:Array Oper)(c:Nat)(hs:List Hn)(fr:List AV)(s:AS):HC:=match Nat.blt c ops.size with
 | true=>(match U4 (Ir ops.toList []) c ops.toList 0 with
   | true=>(match wC P G ops c ops.toList 0 hs fr s with
     | some (CW,cd,_,Ct,s')=>some (.normal,CW,cd,Ct,s')
     | none=>none)
   | false=>none)
 | false=>none
def ah4(P:Program)(G:Bc)(ops:Array Oper)(hs:List Hn)(fr:List AV)(s:AS):HC:=match wA P G ops ops.toList hs fr s with
 | some (CW,cd,t,Ts,Ct,s')=>(match kZ G ops (Ir ops.toList []) Ts ops.toList t 0 with
   | true=>some (.normal,CW,cd,Ct,s')
   | false=>none)
 | none=>none
abbrev HQ:=Option (List AV×List Hn×List Cd×Option (AV×AS))
def eE(v:AV)(cd:List Cd):HQ->HQ
 | some (vs,hs,vP,r)=>some (v::vs,hs,cd++vP,r)
 | none=>none
def aie(r:AV×AS)(cd:List Cd):HQ->HQ
 | some (vs,hs,vP,none)=>some (.sc undef::vs,hs,cd++vP,some r)
 | _=>none
def behind(ms:List Nat)(p i:Nat):Bool:=match Nat.blt p i with
 | true=>SN ms i p
 | false=>false
def Yy(P:Program)(G:Bc)(ops:Array Oper)(ms:List Nat)(p:Nat)(s:AS):List Oper->Nat->List Hn->List AV->HQ
 | [],_,hs,_=>some ([],hs,[],none)
 | o::l,i,hs,fr=>(match Nat.beq i p with
   | true=>(match afg P G ops fr s o hs with
     | some (v,s2,aR,cd)=>aie (v,s2) cd (Yy P G ops ms p s l (i+1) aR (JE fr o.dst (.sc undef)))
     | none=>none)
   | false=>(match behind ms p i with
     | true=>eE (.sc undef) [] (Yy P G ops ms p s l (i+1) hs (JE fr o.dst (.sc undef)))
     | false=>(match steady o.op with
       | true=>(match jL P G ops fr s o hs with
         | some (v,_,aR,cd)=>eE v cd (Yy P G ops ms p s l (i+1) aR (JE fr o.dst v))
         | none=>none)
       | false=>none)))
def abm(P:Program)(G:Bc)(ops:Array Oper)(p:Nat)(hs:List Hn)(fr:List AV)(s:AS):HC:=match Yy P G ops (Ir ops.toList []) p s ops.toList 0 hs fr with
 | some (_,aR,cd,some (v,s2))=>some (.JI v,aR,cd,fr,s2)
 | _=>none
def ah6(P:Program)(G:Bc)(ops:Array Oper)(fr:List AV)(s:AS):List Hn->HC
 | .zq p::hs=>abm P G ops p hs fr s
 | .z c::hs=>abe P G ops c hs fr s
 | .za::hs=>ah4 P G ops hs fr s
 | hs=>(match Rj ops.toList with
   | true=>al0 (jN P G ops ops.toList hs fr s)
   | false=>alZ P G ops hs fr s)
def abo(P:Program)(G:Bc)(ops:Array Oper)(d:Bool)(hs:List Hn)(fr:List AV)(s:AS):HC:=match d with
 | false=>abk P G ops ops.toList hs fr s
 | true=>(match MP ops with
   | true=>ah6 P G ops fr s hs
   | false=>none)
def No(P:Program)(G:Bc):Code->List Hn->List AV->AS->HC
 | .skip,hs,fr,s=>some (.normal,hs,[],fr,s)
 | .exit id,hs,fr,s=>some (.exit id,hs,[],fr,s)
 | .ret,hs,fr,s=>some (.ret,hs,[],fr,s)
 | .seq x y,hs,fr,s=>(match No P G x hs fr s with
   | some (.normal,R3,cd,Wr,s1)=>aN cd (No P G y R3 Wr s1)
   | r=>r)
 | .cond q x y,hs,fr,s=>(match AZ G fr q with
   | some (.sc (.bool true))=>No P G x hs fr s
   | some (.sc (.bool false))=>No P G y hs fr s
   | _=>none)
 | .block id c,hs,fr,s=>(match No P G c hs fr s with
   | some (e,R3,cd,Wr,s1)=>some (Fa id e,R3,cd,Wr,s1)
   | none=>none)
 | .region _ ops d,hs,fr,s=>(match hs with
   | .n l::hs=>(match nzs l fr s with
     | some (fr2,s2)=>abo P G ops d hs fr2 s2
     | none=>none)
   | .f id b b2::hs=>(match look id s.h with
     | some b0=>aN [.yZ [some b0] [some b] [] [],.rd s.nr b b2] (abo P G ops d hs fr ⟨uO id b2 s.h,s.nx,(s.nr,0)::s.F,s.nr+1⟩)
     | none=>none)
   | hs=>abo P G ops d hs fr s)
 | _,_,_,_=>none
section
variable {P:Program} {G:Bc} {ops:Array Oper}
def sB{fr:List AV}{s s1:AS}{o:Oper}{hs CW:List Hn}{v:AV}{cd:List Cd}(h:afg P G ops fr s o hs=some (v,s1,CW,cd))(hc:RN P G cd):J P G (XS P G) H0 (.op ops o fr s (.JI v) s1):=by
 unfold afg at h;split at h;rw[Nz] at h;split at h;rename_i hw;split at h;rename_i h1;cases h;exact .Sy hw h1 (.ext hc.1);rename_i h1;cases h;exact .ais hw h1;cases h;cases h;rw[Nz] at h;split at h;rename_i hw;split at h;rename_i h1;cases h;exact .Sy hw h1 (.ext (hc.1 s hc.2.1.1 hc.2.1.2));cases h;cases h;cases h
def afe{l:List Oper}{k:Nat}(hk:l=ops.toList.drop k){hs CW:List Hn}{fr Ct:List AV}{s s':AS}{e:AX}{cd:List Cd}(h:abk P G ops l hs fr s=some (e,CW,cd,Ct,s'))(hc:RN P G cd):J P G (XS P G) H0 (.ops ops (List.range' k l.length) fr s e Ct s'):=by
 induction l generalizing k hs fr s cd with
 | nil=>simp only[abk] at h;cases h;exact .acv
 | cons o l ih =>
   obtain⟨k1,k2⟩:=drop_cons hk;simp only[abk] at h;split at h;rename_i v s1 R3 yY h1;cases h;rw[List.length_cons,List.range'_succ];exact .acw (by rw[<- Array.getElem?_toList];exact k1) (sB h1 hc);split at h;rename_i v s1 R3 yY h1;unfold aN at h;split at h;rename_i e2 aR vP fr2 s2 h2;cases h;obtain⟨c1,c2⟩:=hc.WT;rw[List.length_cons,List.range'_succ];exact .tK (by rw[<- Array.getElem?_toList];exact k1) (PD h1 c1) (ih k2 h2 c2);cases h;cases h
def aff{l:List Oper}{q:Nat}(GC:Rj l=true){hs CW:List Hn}{fr Ct:List AV}{s s':AS}{cd:List Cd}(h:jN P G ops l hs fr s=some (CW,cd,Ct,s'))(hc:RN P G cd):s'=s/\∃t,S6 P G (XS P G) H0 ops q l fr s t Ct s/\∀x∈t,x.2.1=s:=by
 induction l generalizing hs fr cd s with
 | nil=>simp only[jN] at h;cases h;exact⟨rfl,[],.nil,λx hx=>by cases hx⟩
 | cons o l ih =>
   simp only[Rj] at GC;split at GC;rename_i eG;simp only[jN] at h;split at h;rename_i v s1 R3 yY h1;unfold ah8 at h;split at h;rename_i aR vP fr2 s2 h2;cases h;obtain⟨c1,c2⟩:=hc.WT;obtain⟨h1,hA⟩:=SQ h1;have hj:=PD h1 c1
   have nD:B1 o.op=false:=by
     cases ha:B1 o.op with
     | false=>rfl
     | true=>obtain⟨e,he⟩:=K1 ha;rw[he] at eG;simp[steady,quiet] at eG
   have R3:s1=s:=by
     cases hq:quiet o.op with
     | true=>exact(Ki hq hj).1
     | false =>
       unfold steady at eG;rw[hq] at eG;simp only at eG;split at eG;rename_i cl jS;split at eG;rename_i f IF;unfold aM at h1;split at h1;unfold v7 at h1;rw[jS] at h1;simp only[IF] at h1;unfold Yw at h1;split at h1;split at h1;cases h1;rfl;cases h1;have:=hA (by rw[jS];simp[Ob,IF]);simp[eU] at this;have:=hA (by rw[jS];simp[Ob,IF]);simp[eU] at this;have:=hA (by rw[jS];simp[Ob,IF]);simp[eU] at this;cases h1;cases h1;rfl;cases eG;cases eG
   subst R3;obtain⟨e,t,ht,H6⟩:=ih GC h2 c2;subst e
   exact⟨rfl,_,.cons nD hj ht,λx hx=>by
     rcases List.mem_cons.1 hx with rfl | hx
     rfl;exact H6 x hx⟩
   cases h;cases h;cases GC
def V4{l:List Oper}(GC:Rj l=true){i:Nat}{o:Oper}(ho:l[i]?=some o):steady o.op=true:=by
 induction l generalizing i with
 | nil=>simp at ho
 | cons x l ih =>
   simp only[Rj] at GC;split at GC;rename_i eG;cases i with
   | zero=>simp at ho;subst ho;exact eG
   | succ i=>exact ih GC (by simpa using ho)
   cases GC
def n4{X:WQ}{H:TH}{id:Nat}{fr Ct:List AV}{s:AS}{t:List (List AV×AS×AV)}(H8:MP ops=true)(GC:Rj ops.toList=true)(h:S6 P G X H ops s.nx ops.toList fr s t Ct s)(H6:∀x∈t,x.2.1=s):J P G X H (.code (.region id ops true) fr s .normal Ct s):=by
 have hlen:t.length=ops.size:=by rw[h.len,Array.length_toList]
 obtain⟨h0,R2⟩:=h.at
 have hsa:∀i,FY t s i=s:=by
   intro i;unfold FY;split;rename_i x hx;exact H6 x (List.mem_of_getElem? hx);rfl
 have oP:∀i o,ops[i]?=some o->Cs ops i=o.dst:=λi o ho=>by unfold Cs;rw[ho];rfl
 obtain⟨YB,YC⟩:=h.dT (Cs ops) (KP t) fr 0 rfl (λi o ho=>by rw[Nat.zero_add];exact oP i o (by rw[<- Array.getElem?_toList];exact ho)) (λi=>.inl (by rw[Nat.zero_add]));rw[Nat.zero_add,Array.length_toList] at YB
 have nD:∀(i:Nat) (o:Oper),ops[i]?=some o->B1 o.op=false:=by
   intro i o ho;have:=V4 GC (Cm ho);cases ha:B1 o.op with
   | false=>rfl
   | true=>obtain⟨e,he⟩:=K1 ha;rw[he] at this;simp[steady,quiet] at this
 have hj:∀i o,ops[i]?=some o->J P G X H (.op ops o (IG fr (Cs ops) (KP t) (λ_=>true) i) s (.ret (KP t i)) s):=by
   intro i o ho;obtain⟨fi,h1,h2⟩:=R2 i o (Cm ho);have:=YC i _ h1;simp only[Nat.zero_add] at this;rcases h2 with ⟨_,h2⟩ | ⟨h2,_⟩
   rw[<- this];rw[hsa,hsa] at h2;exact h2;rw[nD i o ho] at h2;cases h2
 have key:=J.draw (P:=P) (G:=G) (X:=X) (H:=H) (id:=id) (f0:=fr) (s0:=s) [] (KP t) (λ_=>s) rfl H8 (λi o ho _=>hj i o ho) (λi o ho hq=>⟨rfl,by
   obtain⟨_,h2⟩:=Ki hq (hj i o ho);rcases h2 with h2 | ⟨hw,h2⟩
   exact .inl h2;exact .inr ⟨hw,λk _ _=>h2⟩⟩) (λi o e ho he=>by have:=nD i o ho;rw[he] at this;cases this)
 rw[<- YB] at key;exact key
def jM{fr:List AV}{s s1:AS}{o:Oper}{hs R3:List Hn}{v:AV}{cd:List Cd}(eG:steady o.op=true)(h:jL P G ops fr s o hs=some (v,s1,R3,cd))(hc:RN P G cd):J P G (XS P G) H0 (.op ops o fr s (.ret v) s):=by
 obtain⟨h1,hA⟩:=SQ h;have hj:=PD h1 hc
 have R3:s1=s:=by
   cases hq:quiet o.op with
   | true=>exact(Ki hq hj).1
   | false =>
     unfold steady at eG;rw[hq] at eG;simp only at eG;split at eG;rename_i cl jS;split at eG;rename_i f IF;unfold aM at h1;split at h1;unfold v7 at h1;rw[jS] at h1;simp only[IF] at h1;unfold Yw at h1;split at h1;split at h1;cases h1;rfl;cases h1;have:=hA (by rw[jS];simp[Ob,IF]);simp[eU] at this;have:=hA (by rw[jS];simp[Ob,IF]);simp[eU] at this;have:=hA (by rw[jS];simp[Ob,IF]);simp[eU] at this;cases h1;cases h1;rfl;cases eG;cases eG
 rw[R3] at hj;exact hj
def aa2{f0:List AV}{dst:Nat->Option Tmp}{vals:Nat->AV}{k:Nat}:IG f0 dst vals (λ_=>true) (k+1)=JE (IG f0 dst vals (λ_=>true) k) (dst k) (vals k):=by
 simp only[IG,if_true]
def abl{p:Nat}{s:AS}{f0:List AV}{vals:Nat->AV}:∀{l:List Oper} {i:Nat} {hs CW:List Hn} {fr:List AV} {vs:List AV} {cd:List Cd} {r:Option (AV×AS)},Yy P G ops (Ir ops.toList []) p s l i hs fr=some (vs,CW,cd,r)->l=ops.toList.drop i->RN P G cd->fr=IG f0 (Cs ops) vals (λ_=>true) i->(∀j,vals (i+j)=vs.getD j (.sc undef)) ->
   (∀j o,i<=j->ops[j]?=some o->j≠p->(p < j->SN (Ir ops.toList []) j p=false)->J P G (XS P G) H0 (.op ops o (IG f0 (Cs ops) vals (λ_=>true) j) s (.ret (vals j)) s)) /\
   (i<=p->∀v s2,r=some (v,s2)->∃o,ops[p]?=some o/\J P G (XS P G) H0 (.op ops o (IG f0 (Cs ops) vals (λ_=>true) p) s (.JI v) s2))/\(p < i->r=none):=by
 intro l
 induction l with
 | nil =>
   intro i hs CW fr vs cd r h hl hc QV hv;simp only[Yy] at h;cases h
   have Qc:ops.size<=i:=by
     have:=congrArg List.length hl;simp only[List.length_nil,List.length_drop,Array.length_toList] at this;omega
   exact⟨λj o hj ho=>by have:=(Array.getElem?_eq_some_iff.1 ho).1;omega,(λ_ v s2 e=>by cases e),λ_=>rfl⟩
 | cons o l ih =>
   intro i hs CW fr vs cd r h hl hc QV hv;obtain⟨k1,k2⟩:=drop_cons hl;have ho:ops[i]?=some o:=by rw[<- Array.getElem?_toList];exact k1
   have hd:Cs ops i=o.dst:=by unfold Cs;rw[ho];rfl
   have next:∀{v0:AV} {vs2:List AV},vs=v0::vs2->vals i=v0/\JE fr o.dst v0=IG f0 (Cs ops) vals (λ_=>true) (i+1)/\∀j,vals (i+1+j)=vs2.getD j (.sc undef):=by
     intro v0 vs2 e;subst e;have h0:vals i=v0:=by have:=hv 0;simpa using this
     refine⟨h0,?_,λj=>?_⟩;rw[aa2,hd,h0,QV];have:=hv (j+1);rw[show i+1+j=i+(j+1) by omega,this];simp
   simp only[Yy] at h;split at h
   . rename_i hb
     have hip:=Nat.eq_of_beq_eq_true hb;split at h
     . rename_i v s2 aR yY h1
       unfold aie at h;split at h
       . rename_i vs2 hs3 vP h2
         cases h;obtain⟨c1,c2⟩:=hc.WT;obtain⟨n1,n2,n3⟩:=next rfl
         obtain⟨q1,q2,q3⟩:=ih h2 k2 c2 n2 n3;refine⟨λj o' hj Wv hjp wE=>?_,λ_ v' s2' e=>?_,λh=>by omega⟩;exact q1 j o' (by omega) Wv hjp wE;cases e;refine⟨o,hip▸ho,?_⟩;have:=sB h1 c1;rw[QV,hip] at this;exact this
       cases h
     cases h
   . rename_i hb
     have hip:=Nat.ne_of_beq_eq_false hb;split at h
     . rename_i hbe
       unfold eE at h;split at h
       . rename_i vs2 hs3 vP r2 h2
         cases h;obtain⟨n1,n2,n3⟩:=next rfl
         obtain⟨q1,q2,q3⟩:=ih h2 k2 hc n2 n3;unfold behind at hbe;split at hbe;rename_i Gm;have Gm:p < i:=Nat.le_of_ble_eq_true Gm;refine⟨λj o' hj Wv hjp wE=>?_,λh=>by omega,λ_=>q3 (by omega)⟩;by_cases e:j=i;subst e;rw[wE Gm] at hbe;cases hbe;exact q1 j o' (by omega) Wv hjp wE;cases hbe
       cases h
     . split at h
       . rename_i GC
         split at h
         . rename_i v s1 aR yY h1
           unfold eE at h;split at h
           . rename_i vs2 hs3 vP r2 h2
             cases h;obtain⟨c1,c2⟩:=hc.WT;obtain⟨n1,n2,n3⟩:=next rfl
             obtain⟨q1,q2,q3⟩:=ih h2 k2 c2 n2 n3;refine⟨λj o' hj Wv hjp wE=>?_,λh v' s2' e=>q2 (by omega) v' s2' e,λh=>q3 (by omega)⟩;by_cases e:j=i;subst e;rw[ho] at Wv;cases Wv;have:=jM GC h1 c1;rw[QV] at this;rw[n1];exact this;exact q1 j o' (by omega) Wv hjp wE
           cases h
         cases h
       cases h
def abn{id p:Nat}(H8:MP ops=true){hs CW:List Hn}{fr Ct:List AV}{s s':AS}{e:AX}{cd:List Cd}(h:abm P G ops p hs fr s=some (e,CW,cd,Ct,s'))(hc:RN P G cd):J P G (XS P G) H0 (.code (.region id ops true) fr s e Ct s'):=by
 unfold abm at h;split at h;rename_i vs aR yY v s2 h1;cases h;obtain⟨q1,q2,_⟩:=abl (f0:=fr) (vals:=λj=>vs.getD j (.sc undef)) h1 rfl hc rfl (λj=>by rw[Nat.zero_add]);obtain⟨o,ho,hj⟩:=q2 (Nat.zero_le _) _ _ rfl;refine .sem λhm=>qF (vals:=λj=>vs.getD j (.sc undef)) hm H8 (Array.getElem?_eq_some_iff.1 ho).1 (λi o' Wv hi hd=>sound (TQ hm) (q1 i o' (Nat.zero_le _) Wv hi hd)) (λo' Wv=>?_);rw[ho] at Wv;cases Wv;exact sound (TQ hm) hj;cases h
def dY{ops:Array Oper}{id:Nat}{d:Bool}{hs CW:List Hn}{fr Ct:List AV}{s s':AS}{e:AX}{cd:List Cd}(h:abo P G ops d hs fr s=some (e,CW,cd,Ct,s'))(hc:RN P G cd):J P G (XS P G) H0 (.code (.region id ops d) fr s e Ct s'):=by
 unfold abo at h;cases d with
 | false =>
   simp only at h;have:=afe (ops:=ops) (k:=0) (by simp) h hc;refine .region ?_;rw[Array.length_toList] at this;rw[List.range_eq_range'];exact this
 | true =>
   simp only at h;split at h;rename_i H8;unfold ah6 at h;split at h;exact abn H8 h hc;unfold abe at h;split at h;rename_i sE;split at h;rename_i hl;split at h;rename_i NY;cases h;exact vV H8 sE hl NY hc;cases h;cases h;cases h;unfold ah4 at h;split at h;rename_i NY;split at h;rename_i hrd;cases h;exact aaG H8 NY hrd hc;cases h;cases h;split at h;rename_i GC;unfold al0 at h;split at h;rename_i h1;cases h;obtain⟨e,t,ht,H6⟩:=aff (q:=s.nx) GC h1 hc;subst e;exact n4 H8 GC ht H6;cases h;unfold alZ at h;split at h;rename_i r hr;split at h;rename_i R3 yY t Wr s1 wI;split at h;rename_i hi;split at h;rename_i abK;cases h;exact aaI H8 hr wI hc hi abK;cases h;cases h;cases h;cases h;cases h
def abd(c:Code){hs CW:List Hn}{fr Ct:List AV}{s s':AS}{e:AX}{cd:List Cd}(h:No P G c hs fr s=some (e,CW,cd,Ct,s'))(hc:RN P G cd):J P G (XS P G) H0 (.code c fr s e Ct s'):=by
 induction c generalizing hs CW fr Ct s s' e cd with
 | skip=>simp only[No] at h;cases h;exact .skip
 | exit id=>simp only[No] at h;cases h;exact .exit
 | ret=>simp only[No] at h;cases h;exact .ret
 | seq x y ihx ihy =>
   simp only[No] at h;cases hx:No P G x hs fr s with
   | none=>rw[hx] at h;cases h
   | some r =>
     obtain⟨e1,R3,yY,Wr,s1⟩:=r;rw[hx] at h;cases e1 with
     | normal =>
       simp only at h;unfold aN at h;split at h;rename_i e2 aR vP fr2 s2 h2;cases h;obtain⟨c1,c2⟩:=hc.WT;exact .seq (ihx hx c1) (ihy h2 c2);cases h
     | exit id=>simp only at h;cases h;exact .qN (ihx hx hc) (by simp)
     | ret=>simp only at h;cases h;exact .qN (ihx hx hc) (by simp)
     | JI v=>simp only at h;cases h;exact .qN (ihx hx hc) (by simp)
 | cond q x y ihx ihy =>
   simp only[No,Cy] at h;split at h;rename_i hq;exact .cond hq (ihx h hc);rename_i hq;exact .cond hq (ihy h hc);cases h
 | block id c ih =>
   simp only[No] at h;split at h;rename_i h1;cases h;exact .block (ih h1 hc);cases h
 | region id ops d =>
   simp only[No] at h;split at h;split at h;rename_i hz;exact .Wd (λcx w vs h1 h2=>pT hz cx w vs h1 h2) (dY h hc);cases h;split at h;rename_i b0 hb;unfold aN at h;split at h;rename_i h1;cases h;obtain⟨c1,c2⟩:=hc.WT;refine .Wd (λcx w vs hs hf=>?_) (dY h1 c2);have sC:b0=_:=Option.some.inj (List.cons.inj c1.1.1).1;subst sC;obtain⟨x,st⟩:=hs.tok;exact⟨_,x,st.xI hb (λo ho=>c1.2.1 _ _ _ (by simp[hs.J2]) ho),hf.mono x⟩;cases h;cases h;exact dY h hc
 | _=>simp only[No] at h;cases h
def SR:Code->Bool
 | .loop _=>true
 | .seq x y=>SR x||SR y
 | .cond _ x y=>SR x||SR y
 | .block _ c=>SR c
 | _=>false
abbrev HP:=Option (Code×List Hn×List Cd×List AV×AS)
end
end AI
namespace AI
open Go Go.RowKit
structure PC(P:Program)(G:Bc) where
 hn:Hn
 cd:List Cd
 ok:RN P G cd
def pHs{P:Program}{G:Bc}:List (PC P G)->List Hn
 | []=>[]
 | p::l=>p.hn::pHs l
def nF{P:Program}{G:Bc}:List (PC P G)->List Cd
 | []=>[]
 | p::l=>p.cd++nF l
def RN.join{P:Program}{G:Bc}{l m:List Cd}(h:RN P G l)(k:RN P G m):RN P G (l++m):=by
 induction l with
 | nil=>exact k
 | cons c l ih=>exact⟨h.1,ih h.2⟩
def PH{P:Program}{G:Bc}(l:List (PC P G)):RN P G (nF l):=by
 induction l with
 | nil=>trivial
 | cons p l ih=>exact p.ok.join ih
inductive KI where
 | code (c:Code)
 | iZ (id:Nat)
def Ej(P:Program)(G:Bc):List KI->(AX->List AV->AS->Prop)->AX->List AV->AS->Prop
 | [],Q=>Q
 | .code k::ks,Q=>aiI P G (XS P G) H0 k (Ej P G ks Q)
 | .iZ id::ks,Q=>EV id (Ej P G ks Q)
inductive Sq where
 | at (id:Nat) (c:Code) (ks:List KI)
 | fin (e:AX)
abbrev HR:=Option (Sq×List Hn×List Cd×List AV×AS)
def abj(cd:List Cd):HR->HR
 | some (c,hs,cd',fr,s)=>some (c,hs,cd++cd',fr,s)
 | none=>none
def RU(r:Code->List KI->List Hn->List AV->AS->HR):List KI->AX->List Hn->List AV->AS->HR
 | [],e,hs,fr,s=>some (.fin e,hs,[],fr,s)
 | .code k::ks,.normal,hs,fr,s=>r k ks hs fr s
 | .code _::ks,e,hs,fr,s=>RU r ks e hs fr s
 | .iZ id::ks,.exit RC,hs,fr,s=>(match Nat.beq RC id with
   | true=>RU r ks .normal hs fr s
   | false=>RU r ks (.exit RC) hs fr s)
 | .iZ _::ks,e,hs,fr,s=>RU r ks e hs fr s
def TS(P:Program)(G:Bc):Nat->Code->List KI->List Hn->List AV->AS->HR
 | 0,_,_,_,_,_=>none
 | n+1,c,ks,hs,fr,s=>(match SR c with
   | false=>(match No P G c hs fr s with
     | some (e,R3,cd,Wr,s1)=>abj cd (RU (TS P G n) ks e R3 Wr s1)
     | none=>none)
   | true=>(match c with
     | .seq x y=>TS P G n x (.code y::ks) hs fr s
     | .block id (.loop c)=>some (.at id c ks,hs,[],fr,s)
     | .block id c=>TS P G n c (.iZ id::ks) hs fr s
     | .cond q x y=>(match AZ G fr q with
       | some (.sc (.bool true))=>TS P G n x ks hs fr s
       | some (.sc (.bool false))=>TS P G n y ks hs fr s
       | _=>none)
     | _=>none))
section
variable {P:Program} {G:Bc}
def SqQ(P:Program)(G:Bc)(Q:AX->List AV->AS->Prop)(fr:List AV)(s:AS):Sq->Prop
 | .at id c ks=>WL P G (XS P G) H0 c fr s (EV id (Ej P G ks Q))
 | .fin e=>Q e fr s
def OL{k:Code}{ks:List KI}{Q:AX->List AV->AS->Prop}{e:AX}{fr:List AV}{s:AS}(he:e≠.normal)(h:Ej P G ks Q e fr s):Ej P G (.code k::ks) Q e fr s:=by
 cases e with
 | normal=>exact absurd rfl he
 | exit id=>exact h
 | ret=>exact h
 | JI v=>exact h
def dX{r:Code->List KI->List Hn->List AV->AS->HR}{Q:AX->List AV->AS->Prop}
   (hr:∀(c:Code) (ks:List KI) {sp:Sq} {hs CW:List Hn} {fr Ct:List AV} {s s':AS} {cd:List Cd},r c ks hs fr s=some (sp,CW,cd,Ct,s')->RN P G cd->SqQ P G Q Ct s' sp->W P G (XS P G) H0 c fr s (Ej P G ks Q)) :
   ∀(ks:List KI) (e:AX) {sp:Sq} {hs CW:List Hn} {fr Ct:List AV} {s s':AS} {cd:List Cd},RU r ks e hs fr s=some (sp,CW,cd,Ct,s')->RN P G cd->SqQ P G Q Ct s' sp->Ej P G ks Q e fr s:=by
 intro ks
 induction ks with
 | nil=>intro e sp hs CW fr Ct s s' cd h hc hk;simp only[RU] at h;cases h;exact hk
 | cons k ks ih =>
   intro e sp hs CW fr Ct s s' cd h hc hk;cases k with
   | code c =>
     cases e with
     | normal=>simp only[RU] at h;exact hr c ks h hc hk
     | exit id=>simp only[RU] at h;exact OL (by simp) (ih _ h hc hk)
     | ret=>simp only[RU] at h;exact OL (by simp) (ih _ h hc hk)
     | JI v=>simp only[RU] at h;exact OL (by simp) (ih _ h hc hk)
   | iZ id =>
     show Ej P G ks Q (Fa id e) fr s;cases e with
     | normal=>simp only[RU] at h;exact ih _ h hc hk
     | ret=>simp only[RU] at h;exact ih _ h hc hk
     | JI v=>simp only[RU] at h;exact ih _ h hc hk
     | exit RC =>
       simp only[RU] at h;split at h;rename_i hb;have:=beq_true hb;subst this;have e1:Fa RC (.exit RC)=.normal:=by simp[Fa]
       rw[e1];exact ih _ h hc hk;rename_i hb;have:=beq_false hb;have e1:Fa id (.exit RC)=.exit RC:=by simp[Fa,this]
       rw[e1];exact ih _ h hc hk
def dZ{Q:AX->List AV->AS->Prop}:∀(n:Nat) (c:Code) (ks:List KI) {sp:Sq} {hs CW:List Hn} {fr Ct:List AV} {s s':AS} {cd:List Cd},TS P G n c ks hs fr s=some (sp,CW,cd,Ct,s')->RN P G cd->SqQ P G Q Ct s' sp->W P G (XS P G) H0 c fr s (Ej P G ks Q):=by
 intro n
 induction n with
 | zero=>intro c ks sp hs CW fr Ct s s' cd h;simp only[TS] at h;cases h
 | succ n ih =>
   intro c ks sp hs CW fr Ct s s' cd h hc hk;simp only[TS] at h;split at h;split at h;rename_i e R3 yY Wr s1 h1;unfold abj at h;split at h;rename_i h2;cases h;obtain⟨c1,c2⟩:=hc.WT;exact⟨_,_,_,abd c h1 c1,dX ih ks e h2 c2 hk⟩;cases h;cases h;split at h;exact alw (ih _ _ h hc hk);cases h;exact rD (ai0 hk);exact rD (ih _ _ h hc hk);rw[Cy] at h;split at h;rename_i hq;exact aeI hq (ih _ _ h hc hk);rename_i hq;exact aeH hq (ih _ _ h hc hk);cases h;cases h
end
end AI
namespace AI
open Go Go.RowKit
def sub:Code->List Nat->Code
 | c,[]=>c
 | .seq x _,0::l=>sub x l
 | .seq _ y,_::l=>sub y l
 | .cond _ x _,0::l=>sub x l
 | .cond _ _ y,_::l=>sub y l
 | .block _ c,_::l=>sub c l
 | .loop c,_::l=>sub c l
 | c,_=>c
def A3(fn:Func):Code:=fn.body.getD .skip
def obv(n:Nat):AV->Bool
 | .sc _=>true
 | .any=>true
 | .ptr id _=>Nat.blt id n
 | .mp id=>Nat.blt id n
 | .Og id _ _=>Nat.blt id n
 | _=>false
def akD{n m:Nat}{a:AV}(h:obv n a=true):Fits n m a a:=by
 refine .under ?_;cases a<;>simp only[obv] at h<;>first | rfl | (cases h;done) | exact decide_eq_true (Nat.le_of_ble_eq_true h)
structure FP(n m:Nat) where
 a:AV
 b:AV
 h:Fits n m a b
structure FB(n m:Nat) where
 a:Bo
 b:Bo
 h:Tn n m a b
def rX{n m:Nat}:List (FP n m)->List AV
 | []=>[]
 | p::l=>p.a::rX l
def nB{n m:Nat}:List (FP n m)->List AV
 | []=>[]
 | p::l=>p.b::nB l
abbrev MR:=Option (List AV×List AV)
def tC(b:AV):MR->MR
 | some (l,as)=>some (b::l,as)
 | none=>none
def acf(a b:AV):MR->MR
 | some (l,as)=>some (b::l,a::as)
 | none=>none
def akt(r:List AV->MR)(a:AV):List AV->MR
 | b::bs=>acf a b (r bs)
 | []=>none
def tD(r:List AV->MR)(a:AV)(bs:List AV):MR:=match UN a with
 | true=>tC .any (r bs)
 | false=>none
section
variable {n m:Nat} {r:List AV->MR} {l:List AV} (hr:∀(P6:List (FP n m)) l2,r (nB P6)=some (l2,rX P6)->K7 n m l l2) {a:AV} {P6:List (FP n m)} {l2:List AV}
include hr
def afR(h:akt r a (nB P6)=some (l2,rX P6)):K7 n m (a::l) l2:=by
 cases P6 with
 | nil=>cases h
 | cons p P6 =>
   simp only[nB,akt] at h;unfold acf at h;split at h;rename_i l3 as h1;simp only[rX,Option.some.injEq,Prod.mk.injEq,List.cons.injEq] at h;obtain⟨rfl,rfl,rfl⟩:=h;exact .cons p.h (hr P6 _ h1);cases h
def j8(h:tD r a (nB P6)=some (l2,rX P6)):K7 n m (a::l) l2:=by
 unfold tD at h;split at h;rename_i hd;unfold tC at h;split at h;rename_i l3 as h1;cases h;exact .cons (.drop hd) (hr P6 _ h1);cases h;cases h
end
def aI(m:Nat):List (Nat×Nat)->List (Nat×Nat)
 | []=>[]
 | x::l=>match Nat.blt x.1 m with
   | true=>x::aI m l
   | false=>aI m l
def aaZ{m r n:Nat}{l:List (Nat×Nat)}(h:Fv r (aI m l)=some n):Fv r l=some n/\r < m:=by
 induction l with
 | nil=>cases h
 | cons x l ih =>
   simp only[aI] at h;split at h;rename_i hb;simp only[Fv] at h ⊢;split at h;rename_i h1;have:=beq_true h1;subst this;cases h;exact⟨rfl,Nat.le_of_ble_eq_true hb⟩;exact ih h;rename_i hb;obtain⟨h1,h2⟩:=ih h;refine⟨?_,h2⟩;simp only[Fv];split;rename_i h3;have:=beq_true h3;subst this;rw[show Nat.blt x.1 m=true from Nat.ble_eq_true_of_le h2] at hb;cases hb;exact h1
section
variable {P:Program} {G:Bc}
def zZ(G:Bc)(s0:AS)(Ct:List AV)(s':AS)(fr2:List AV)(s2:AS):Prop:=∀(cx:Cx) (w:World) (c':Cx) (w':World) (vs:List Value),Ext cx w c' w'->St G cx w s0->St G c' w' s'->CX c' w' Ct vs->∃c2,Ext cx w c2 w'/\St G c2 w' s2/\CX c2 w' fr2 vs
abbrev RR:=Option (List AV×AS×List AV×List Bo)
def aaK{l:List (Nat×Bo)}{N n:Nat}(h:KD l N):KD (UQ n l) n:=by
 induction l generalizing N with
 | nil=>trivial
 | cons e l ih =>
   simp only[UQ];split;exact ih h.2;rename_i hb;refine⟨?_,h.2⟩;have:¬n<=e.1:=λhle=>by rw[Nat.ble_eq_true_of_le hle] at hb;cases hb
   omega
def Ui(P:Program)(G:Bc)(L:Code)(s0:AS)(Q:AX->List AV->AS->Prop):AX->List AV->AS->Prop
 | .normal,Ct,s'=>∃fr2 s2,zZ G s0 Ct s' fr2 s2/\WL P G (XS P G) H0 L fr2 s2 Q
 | .exit id,Ct,s'=>∃fr2 s2,zZ G s0 Ct s' fr2 s2/\Q (.exit id) fr2 s2
 | e,Ct,s'=>Q e Ct s'
def cY{L:Code}{fr:List AV}{s:AS}{Q:AX->List AV->AS->Prop}(h:W P G (XS P G) H0 L fr s (Ui P G L s Q)):WL P G (XS P G) H0 L fr s Q:=by
 obtain⟨e,Ct,s',hj,h2⟩:=h;cases e with
 | normal =>
   obtain⟨fr2,s2,hf,e3,fr3,s3,h3,h4⟩:=h2;exact⟨e3,fr3,s3,.aio (.scope hj (λ_ h=>by cases h) (λcx w c' w' vs hx hs CW QV=>hf cx w c' w' vs hx hs CW QV)) h3,h4⟩
 | exit id =>
   obtain⟨fr2,s2,hf,h4⟩:=h2;exact⟨_,_,_,.s6 (.scope hj (λ_ h=>by cases h) (λcx w c' w' vs hx hs CW QV=>hf cx w c' w' vs hx hs CW QV)) (by simp),h4⟩
 | ret=>exact⟨_,_,_,.s6 hj (by simp),h2⟩
 | JI v=>exact⟨_,_,_,.s6 hj (by simp),h2⟩
def R4(P:Program)(fn:Func)(m:Nat)(Q:AX->List AV->AS->Prop)(v:AV)(s2:AS):Prop:=∀fr s,JO P s fn fr=some v->s.cut m=s2->Q .ret fr s
def UC(m:Nat)(Q:AX->List AV->AS->Prop)(v:AV)(s2:AS):Prop:=∀fr s,s.cut m=s2->Q (.JI v) fr s
def yF{ks:List KI}{Q:AX->List AV->AS->Prop}{fr:List AV}{s:AS}(h:Q .ret fr s):Ej P G ks Q .ret fr s:=by
 induction ks with
 | nil=>exact h
 | cons k ks ih=>cases k<;>exact ih
def yE{ks:List KI}{Q:AX->List AV->AS->Prop}{fr:List AV}{s:AS}{v:AV}(h:Q (.JI v) fr s):Ej P G ks Q (.JI v) fr s:=by
 induction ks with
 | nil=>exact h
 | cons k ks ih=>cases k<;>exact ih
def R4.body{fn:Func}{m:Nat}{Q:CR->AS->Prop}{v:AV}{s2:AS}(h:Q (.ret v) s2):R4 P fn m (UJ P fn m Q) v s2:=λfr s h1 h2=>⟨v,h1,by rw[h2];exact h⟩
def UC.body{fn:Func}{m:Nat}{Q:CR->AS->Prop}{v:AV}{s2:AS}(h:Q (.JI v) s2):UC m (UJ P fn m Q) v s2:=λfr s h2=>by show Q (.JI v) (s.cut m);rw[h2];exact h
def R4.outer{fn:Func}{m id:Nat}{ks:List KI}{Q:AX->List AV->AS->Prop}{v:AV}{s2:AS}(h:R4 P fn m Q v s2):R4 P fn m (EV id (Ej P G ks Q)) v s2:=λfr s h1 h2=>yF (h fr s h1 h2)
def UC.outer{m id:Nat}{ks:List KI}{Q:AX->List AV->AS->Prop}{v:AV}{s2:AS}(h:UC m Q v s2):UC m (EV id (Ej P G ks Q)) v s2:=λfr s h1=>yE (h fr s h1)
def R4.Gi{fn:Func}{m:Nat}{L:Code}{s0:AS}{Q:AX->List AV->AS->Prop}{v:AV}{s2:AS}(h:R4 P fn m Q v s2):R4 P fn m (Ui P G L s0 Q) v s2:=h
def UC.Gi{m:Nat}{L:Code}{s0:AS}{Q:AX->List AV->AS->Prop}{v:AV}{s2:AS}(h:UC m Q v s2):UC m (Ui P G L s0 Q) v s2:=h
def am4(P:Program)(fn:Func)(m:Nat):HR->Option (List Cd×AV×AS)
 | some (.fin .ret,[],cd,fr,s)=>(match JO P s fn fr with
   | some v=>some (cd,v,s.cut m)
   | none=>none)
 | _=>none
def VD(P:Program)(G:Bc)(_l:List (PC P G))(Q:AX->List AV->AS->Prop)(r:HR)(X:Prop):Prop:=∀sp cd Ct s',r=some (sp,[],cd,Ct,s')->RN P G cd->SqQ P G Q Ct s' sp->X
def Ac{c:Code}{fr:List AV}{s:AS}{Q:AX->List AV->AS->Prop}(n:Nat)(l:List (PC P G)):VD P G l Q (TS P G n c [] (pHs l) fr s) (W P G (XS P G) H0 c fr s Q):=λ_ _ _ _ h hc hk=>dZ n c [] h hc hk
def fS{id:Nat}{ks:List KI}{fr:List AV}{s:AS}{Q:AX->List AV->AS->Prop}(n:Nat)(l:List (PC P G)):VD P G l Q (RU (TS P G n) ks .normal (pHs l) fr s) (EV id (Ej P G ks Q) (.exit id) fr s):=λ_ _ _ _ h hc hk=>by
 show Ej P G ks Q (Fa id (.exit id)) fr s;have:Fa id (.exit id)=.normal:=by simp[Fa]
 rw[this];exact dX (dZ n) ks _ h hc hk
def go_ret{r:HR}{X:Prop}{Q:AX->List AV->AS->Prop}(fn:Func)(m:Nat){l:List (PC P G)}(v:AV)(s2:AS)(R:VD P G l Q r X)(h:am4 P fn m r=some (nF l,v,s2))(k:R4 P fn m Q v s2):X:=by
 unfold am4 at h;split at h;rename_i cd Ct s';split at h;rename_i v' hv;simp only[Option.some.injEq,Prod.mk.injEq] at h;obtain⟨rfl,rfl,rfl⟩:=h;exact R _ _ _ _ rfl (PH l) (k _ _ hv rfl);cases h;cases h
def n5(a:AV):AV:=match UN a with
 | true=>.any
 | false=>a
def vW{a:AV}{c:Cx}{w:World}{v:Value}(hr:Rp c w a v):Rp c w (n5 a) v:=by
 unfold n5;split;rename_i h;exact .any (TN hr h);exact hr
inductive Lp(γ δ ρ:Type) where
 | nx (x:γ)
 | ex (x:δ)
 | rt (r:ρ)
section loops
variable {α γ δ ρ:Type}
def RA(k:γ->Option (δ⊕ρ)):Lp γ δ ρ->Option (δ⊕ρ)
 | .nx x=>k x
 | .ex d=>some (.inl d)
 | .rt r=>some (.inr r)
def C8(body:Nat->α->γ->Option (Lp γ δ ρ))(done:γ->δ):List α->Nat->γ->Option (δ⊕ρ)
 | [],_,x=>some (.inl (done x))
 | y::l,i,x=>(body i y x).bind (RA (C8 body done l (i+1)))
def ET(body:γ->Option (Lp γ δ ρ)):Nat->γ->Option (δ⊕ρ)
 | 0,_=>none
 | n+1,x=>(body x).bind (RA (ET body n))
def TA{β:Type}(n:Nat)(x:Option β):Option β:=if n<=9223372036854775807 then x else none
def aqz{β:Type}{n:Nat}{x:Option β}{r:β}(h:TA n x=some r):n<=9223372036854775807/\x=some r:=by
 unfold TA at h;split at h;rename_i h1;exact⟨h1,h⟩;cases h
def apb{β:Type}{b:Bool}{t f:Option β}{r:β}(h:cond b t f=some r):(b=true/\t=some r)\/(b=false/\f=some r):=by
 cases b;exact .inr ⟨rfl,h⟩;exact .inl ⟨rfl,h⟩
def iO{β κ:Type}{m:Option κ}{k:κ->Option β}{r:β}(h:m.bind k=some r):∃y,m=some y/\k y=some r:=by
 cases m with
 | none=>cases h
 | some y=>exact⟨y,rfl,h⟩
def LQ(Qx:δ->Prop)(Qr:ρ->Prop):δ⊕ρ->Prop
 | .inl x=>Qx x
 | .inr r=>Qr r
def RQ(Qn:γ->Prop)(Qx:δ->Prop)(Qr:ρ->Prop):Lp γ δ ρ->Prop
 | .nx x=>Qn x
 | .ex x=>Qx x
 | .rt r=>Qr r
def aeF{J:Type}{L:Code}{Q:AX->List AV->AS->Prop}{body:Nat->α->γ->Option (Lp γ δ ρ)}{done:γ->δ}(l:List α)(F:Nat->γ->J->List AV)(S:Nat->γ->J->AS)(Ok:J->Prop)(Qx:δ->Prop)(Qr:ρ->Prop)
   (hz:∀i x j,Ok j->l.length<=i->Qx (done x)->WL P G (XS P G) H0 L (F i x j) (S i x j) Q)
   (hs:∀i y x j r,Ok j->l[i]?=some y->i < l.length->body i y x=some r->RQ (λx'=>∀j',Ok j'->WL P G (XS P G) H0 L (F (i+1) x' j') (S (i+1) x' j') Q) Qx Qr r->WL P G (XS P G) H0 L (F i x j) (S i x j) Q) :
   ∀{x:γ} {fO:δ⊕ρ} (i0:Nat),C8 body done (l.drop i0) i0 x=some fO->LQ Qx Qr fO->∀j,Ok j->WL P G (XS P G) H0 L (F i0 x j) (S i0 x j) Q:=by
 have key:∀(k:List α) (i:Nat) (x:γ) (fO:δ⊕ρ),l.drop i=k->C8 body done k i x=some fO->LQ Qx Qr fO->∀j,Ok j->WL P G (XS P G) H0 L (F i x j) (S i x j) Q:=by
   intro k
   induction k with
   | nil =>
     intro i x fO hd h hq j hj;simp only[C8,Option.some.injEq] at h;subst h;exact hz i x j hj (List.drop_eq_nil_iff.1 hd) hq
   | cons y k ih =>
     intro i x fO hd h hq j hj
     have hi:i < l.length:=by
       rcases Nat.lt_or_ge i l.length with h1 | h1
       exact h1;rw[List.drop_eq_nil_of_le h1] at hd;cases hd
     have hy:l[i]?=some y:=by rw[<- List.head?_drop,hd];rfl
     have oO:l.drop (i+1)=k:=by rw[<- List.tail_drop,hd];rfl
     obtain⟨r,hb,h⟩:=iO h;refine hs i y x j r hj hy hi hb ?_;cases r with
     | nx x'=>exact λj' hj'=>ih (i+1) x' fO oO h hq j' hj'
     | ex d=>simp only[RA,Option.some.injEq] at h;subst h;exact hq
     | rt v=>simp only[RA,Option.some.injEq] at h;subst h;exact hq
 intro x fO i0 h hq j hj;exact key _ i0 x fO rfl h hq j hj
def aeG{J:Type}{L:Code}{Q:AX->List AV->AS->Prop}{body:γ->Option (Lp γ δ ρ)}(F:γ->J->List AV)(S:γ->J->AS)(Ok:J->Prop)(Qx:δ->Prop)(Qr:ρ->Prop)
   (hs:∀x j r,Ok j->body x=some r->RQ (λx'=>∀j',Ok j'->WL P G (XS P G) H0 L (F x' j') (S x' j') Q) Qx Qr r->WL P G (XS P G) H0 L (F x j) (S x j) Q) :
   ∀(n:Nat) {x:γ} {fO:δ⊕ρ},ET body n x=some fO->LQ Qx Qr fO->∀j,Ok j->WL P G (XS P G) H0 L (F x j) (S x j) Q:=by
 intro n
 induction n with
 | zero=>intro x fO h;cases h
 | succ n ih =>
   intro x fO h hq j hj;obtain⟨r,hb,h⟩:=iO h;refine hs x j r hj hb ?_;cases r with
   | nx x'=>exact λj' hj'=>ih h hq j' hj'
   | ex d=>simp only[RA,Option.some.injEq] at h;subst h;exact hq
   | rt v=>simp only[RA,Option.some.injEq] at h;subst h;exact hq
def Mg(body:γ->Option (Lp γ δ ρ))(x:γ):Option (δ⊕ρ):=open Classical in if h:∃n r,ET body n x=some r then some (Classical.choose (Classical.choose_spec h)) else none
def ae8{body:γ->Option (Lp γ δ ρ)}{x:γ}{r:δ⊕ρ}(h:Mg body x=some r):∃n,ET body n x=some r:=by
 unfold Mg at h;split at h;rename_i hx;have:=Classical.choose_spec (Classical.choose_spec hx);rw[Option.some.inj h] at this;exact⟨_,this⟩;cases h
def YJ{body:γ->Option (Lp γ δ ρ)}:∀{n m:Nat} {x:γ} {r:δ⊕ρ},ET body n x=some r->n<=m->ET body m x=some r:=by
 intro n
 induction n with
 | zero=>intro m x r h;cases h
 | succ n ih =>
   intro m x r h hm;cases m with
   | zero=>omega
   | succ m =>
     obtain⟨a,ha,h⟩:=iO h;simp only[ET,ha,Option.bind_some];cases a with
     | nx x'=>exact ih h (by omega)
     | ex d=>exact h
     | rt v=>exact h
def Fl{body:γ->Option (Lp γ δ ρ)}{n:Nat}{x:γ}{r:δ⊕ρ}(h:ET body n x=some r):Mg body x=some r:=by
 unfold Mg;have hx:∃n r,ET body n x=some r:=⟨n,r,h⟩;rw[dif_pos hx];have h2:=Classical.choose_spec (Classical.choose_spec hx);have h3:=YJ h (Nat.le_max_left n (Classical.choose hx));have h4:=YJ h2 (Nat.le_max_right n (Classical.choose hx));rw[h3] at h4;rw[Option.some.inj h4]
end loops
end
end AI
