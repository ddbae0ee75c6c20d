/- Part of a proof: see the last text. -/
import Derived.Test.YtpbkhogolfegfaaGreatDoorPte
set_option linter.unusedVariables false
set_option linter.unusedSimpArgs false
set_option linter.defProp false
noncomputable section
namespace AI
open Go Go.RowKit
def Nw(op:Op):Bool:=match op with
 | .call cl=>(match cl.callee with | .value _=>true | _=>false)
 | _=>false
def Qc(op:Op):Bool:=match op with
 | .call cl=>(match cl.callee with | .value _=>true | .builtin .append=>true | _=>false)
 | _=>false
def aeV{op:Op}(h:Nw op=true):Qc op=true:=by
 unfold Nw at h;split at h;split at h;rename_i Ih;simp[Qc,Ih];cases h;cases h
def cP:List Hn->Bool
 | .a _ _::_=>true
 | .u _ _ _ _ _::_=>true
 | .cn _ _ _ _ _::_=>true
 | .mb _ _::_=>true
 | _=>false
def hJ(P:Program)(G:A6)(ops:Array Oper)(fr:List AV)(s:AS)(o:Oper)(hs:List Hn):HO:=match Qc o.op with
 | true=>(match cP hs with
   | true=>none
   | false=>ZJ P G ops fr s o hs)
 | false=>ZJ P G ops fr s o hs
def XL{P:Program}{G:A6}{ops:Array Oper}{fr:List AV}{s:AS}{o:Oper}{hs:List Hn}{r:AV×AS×List Hn×List Cd}(h:hJ P G ops fr s o hs=some r):ZJ P G ops fr s o hs=some r/\(Qc o.op=true->cP hs=false):=by
 unfold hJ at h;split at h;split at h;cases h;rename_i h1;exact⟨h,λ_=>h1⟩;rename_i h1;exact⟨h,λh2=>by rw[h1] at h2;cases h2⟩
def R2{P:Program}{G:A6}{ops:Array Oper}{fr:List AV}{s:AS}{o:Oper}{hs:List Hn}{r:AV×AS×List Hn×List Cd}(h:hJ P G ops fr s o hs=some r):ZJ P G ops fr s o hs=some r/\(Nw o.op=true->cP hs=false):=⟨(XL h).1,λh1=>(XL h).2 (aeV h1)⟩
abbrev HT:=Option (List Hn×List Cd×List (List AV×AS×AV)×List AV×AS)
def uX(cd:List Cd)(x:List AV×AS×AV):HT->HT
 | some (hs,cd',t,fr,s)=>some (hs,cd++cd',x::t,fr,s)
 | none=>none
def hTr(P:Program)(G:A6)(ops:Array Oper):List Oper->Nat->List Hn->List AV->AS->HT
 | [],_,hs,fr,s=>some (hs,[],[],fr,s)
 | o::l,q,hs,fr,s=>(match BY o.op with
   | true=>uX [] (fr,s,OO ops fr o q) (hTr P G ops l (q+1) hs (Ir fr o.dst (OO ops fr o q)) s)
   | false=>(match hJ P G ops fr s o hs with
     | some (v,s1,Sl,cd)=>uX cd (fr,s,v) (hTr P G ops l q Sl (Ir fr o.dst v) s1)
     | none=>none))
def ala(q0:Nat):Option AV->Bool
 | some (.el _)=>true
 | some (.ptr id _)=>Nat.blt id q0
 | _=>false
def alW(q0:Nat):Option AV->Bool
 | some (.ptr id _)=>Nat.ble q0 id
 | _=>false
def slV:Option AV->Bool
 | some (.sl _ _ _)=>true
 | some (.sc (.string _))=>true
 | _=>false
def mpV(q0:Nat):Option AV->Bool
 | some (.mp id)=>Nat.blt id q0
 | _=>false
def indep(G:A6)(q0:Nat)(fr:List AV)(o:Oper):Bool:=match o.op with
 | .load _ a=>ala q0 (AW G fr a)
 | .lookup _ m _ _=>mpV q0 (AW G fr m)
 | .store _ a _=>alW q0 (AW G fr a)
 | .call cl=>(match cl.callee with
   | .value _=>true
   | .builtin .append=>true
   | .builtin .len=>(match cl.args.toList with
     | [x]=>slV (AW G fr x)
     | _=>false)
   | _=>quiet o.op)
 | .alloc _=>true
 | op=>quiet op
def Lw(G:A6)(ops:Array Oper)(q0:Nat):List Oper->List (List AV×AS×AV)->Bool
 | o::os,t::ts=>(match Cv ops t.1 o with
   | false=>Lw G ops q0 os ts
   | true=>(match indep G q0 t.1 o with
     | true=>Lw G ops q0 os ts
     | false=>false))
 | _,_=>true
def lZ(q0:Nat)(s s':AS):Prop:=∀id,id < q0->s'.get id=s.get id
def Il{id QO:Nat}{b:AL}(h:QO≠id):∀(l:List (Nat×AL)),look QO (QU id b l)=look QO l
 | []=>rfl
 | e::l=>by
   simp only[QU];split;rename_i hb;have hb:=beq_true hb;simp only[look]
   have h1:Nat.beq id QO=false:=by cases hq:Nat.beq id QO with
     | true=>exact absurd (beq_true hq).symm h
     | false=>rfl
   rw[hb,h1];simp only[look,Il h l]
section
variable {P:Program} {G:A6} {ops:Array Oper}
def aey{q0:Nat}{fr:List AV}{s s1:AS}{o:Oper}{hs Cm:List Hn}{v:AV}{cd:List Cd}(h:ZJ P G ops fr s o hs=some (v,s1,Cm,cd))(hA:Qc o.op=true->cP hs=false)(hi:Cv ops fr o=true->indep G q0 fr o=true)(hc:QX P G cd)(ha:BY o.op=false):lZ q0 s s1:=by
 intro id hid;have hj:=OT h hc;cases hq:quiet o.op with
 | true=>rw[(JL hq hj).1]
 | false =>
   unfold ZJ at h;split at h;rename_i hw;have hi:=hi hw;unfold indep at hi;split at hi;rename_i t a ho;rw[ho] at hq;cases hq;rename_i t m k ok ho;rw[ho] at hq;cases hq;rename_i t a x ho;unfold uU at h;rw[ho] at h;simp only at h
   have h1:∃a' x',A8 G fr a=some a'/\A8 G fr x=some x'/\Kk P s t a' x'=some s1:=by
     rcases Vc h hc with ⟨a',x',h2,h3,h4,_⟩ | h2
     exact⟨a',x',h2,h3,h4⟩;have h1:=Vb h2;rw[ML] at h1;unfold PX at h1;rw[ho] at h1;simp only at h1;split at h1;rename_i a' x' xI Wh;obtain⟨s',F4,he⟩:=map_some h1;injection he with he1 he2
     subst he2;exact⟨a',x',xI,Wh,F4⟩;cases h1
   rw[Cs] at hi;obtain⟨a',x',xI,Wh,F4⟩:=h1;rw[xI] at hi;unfold alW at hi;split at hi;rename_i QO off Pd;cases Pd;unfold Kk at F4;split at F4;rename_i i id2 apD Ui aaS;cases aaS;split at F4;split at F4;cases F4;have:=Nat.le_of_ble_eq_true hi;exact Il (by omega) _;cases F4;cases F4;cases F4;cases hi;rename_i cl ho;split at hi;rename_i f Ih;unfold uU at h;rw[ho] at h;simp only[Ih] at h;unfold XK at h;split at h;split at h;cases h;rfl;cases h;have:=hA (by rw[ho];simp[Qc,Ih]);simp[cP] at this;have:=hA (by rw[ho];simp[Qc,Ih]);simp[cP] at this;have:=hA (by rw[ho];simp[Qc,Ih]);simp[cP] at this;cases h;rename_i Ih;unfold uU at h;rw[ho] at h;simp only[Ih] at h;have no:=hA (by rw[ho];simp[Qc,Ih]);split at h;split at h;split at h;unfold aaz at h;split at h;simp[cP] at no;simp[cP] at no;cases h;rfl;cases h;rfl;split at h;cases h;rfl;split at h;split at h;cases h;rfl;cases h;cases h;cases h;cases h;cases h;cases h;cases h;rename_i Ih;rw[ho] at hq;simp[quiet,Ih] at hq;rw[ho] at hq;rw[ho,hq] at hi;cases hi;rename_i e ho;rw[ho] at ha;cases ha;rw[hq] at hi;cases hi;cases h;rfl
def lZ.refl(q0:Nat)(s:AS):lZ q0 s s:=λ_ _=>rfl
def lZ.trans{q0:Nat}{a b c:AS}(h:lZ q0 a b)(k:lZ q0 b c):lZ q0 a c:=λid hid=>(k id hid).trans (h id hid)
def aiR{q0:Nat}{l:List Oper}{q:Nat}{hs Cm:List Hn}{fr B8:List AV}{s s':AS}{cd:List Cd}{t:List (List AV×AS×AV)}(h:hTr P G ops l q hs fr s=some (Cm,cd,t,B8,s'))(hc:QX P G cd)(hi:Lw G ops q0 l t=true) :
   Se P G (XS P G) H0 ops q l fr s t B8 s'/\(∀x∈t,lZ q0 s x.2.1)/\lZ q0 s s':=by
 induction l generalizing q hs fr s cd t with
 | nil=>simp only[hTr] at h;cases h;exact⟨.nil,(λx hx=>by cases hx),lZ.refl _ _⟩
 | cons o l ih =>
   simp only[hTr] at h;cases ha:BY o.op with
   | true =>
     rw[ha] at h;simp only at h;unfold uX at h;split at h;rename_i fC uI t2 fr2 s2 h2;cases h
     have Ui:Lw G ops q0 l t2=true:=by
       simp only[Lw] at hi;split at hi;exact hi;split at hi;exact hi;cases hi
     obtain⟨k1,k2,k3⟩:=ih h2 (hc.TU).2 Ui;refine⟨.alloc ha k1,λx hx=>?_,k3⟩;rcases List.mem_cons.1 hx with rfl | hx
     exact lZ.refl _ _;exact k2 x hx;cases h
   | false =>
     rw[ha] at h;simp only at h;split at h;rename_i v s1 Sl xG h1;unfold uX at h;split at h;rename_i fC uI t2 fr2 s2 h2;cases h;obtain⟨c1,c2⟩:=hc.TU
     have hi1:Cv ops fr o=true->indep G q0 fr o=true:=by
       intro hw;simp only[Lw,hw] at hi;split at hi;assumption;cases hi
     have Ui:Lw G ops q0 l t2=true:=by
       simp only[Lw] at hi;split at hi;exact hi;split at hi;exact hi;cases hi
     have hf:=aey (R2 h1).1 (XL h1).2 hi1 c1 ha;obtain⟨k1,k2,k3⟩:=ih h2 c2 Ui;refine⟨.cons ha (OT (R2 h1).1 c1) k1,λx hx=>?_,hf.trans k3⟩;rcases List.mem_cons.1 hx with rfl | hx
     exact lZ.refl _ _;exact hf.trans (k2 x hx);cases h;cases h
def vF{q0:Nat}{os:List Oper}{ts:List (List AV×AS×AV)}(h:Lw G ops q0 os ts=true){i:Nat}{o:Oper}{x:List AV×AS×AV}(ho:os[i]?=some o)(hx:ts[i]?=some x)(hw:Cv ops x.1 o=true):indep G q0 x.1 o=true:=by
 induction os generalizing ts i with
 | nil=>simp at ho
 | cons y os ih =>
   cases ts with
   | nil=>simp at hx
   | cons t ts =>
     simp only[Lw] at h;cases i with
     | zero =>
       simp at ho hx;subst ho hx;rw[hw] at h;simp only at h;split at h;assumption;cases h
     | succ i =>
       have h2:Lw G ops q0 os ts=true:=by
         split at h;exact h;split at h;exact h;cases h
       exact ih h2 (by simpa using ho) (by simpa using hx)
def aan{q0:Nat}{fr:List AV}{s0 s s2:AS}{o:Oper}{v:AV}(hq:quiet o.op=true)(hr:reads o.op=true)(hi:indep G q0 fr o=true)(h1:lZ q0 s0 s)(h2:lZ q0 s0 s2)(h:PX P G fr s o=some (.val v s)):PX P G fr s2 o=some (.val v s2):=by
 unfold indep at hi;split at hi;rename_i t a ho;rw[Cs] at hi;unfold PX at h ⊢;rw[ho] at h ⊢;simp only at h ⊢;obtain⟨v',h3,h4⟩:=map_some h;injection h4 with h4
 subst h4;obtain⟨b,h5,h6⟩:=bind_some h3;rw[h5] at hi ⊢;unfold ala at hi;split at hi;rename_i Pd;cases Pd;simp only[Option.bind_some];rw[show Jg P s2 t (.el _)=Jg P s t (.el _) from rfl,h6];rfl;rename_i id off Pd;cases Pd;have hid:id < q0:=Nat.le_of_ble_eq_true hi
 have:Jg P s2 t (.ptr id off)=Jg P s t (.ptr id off):=by
   simp only[Jg];rw[h2 id hid,h1 id hid]
 simp only[Option.bind_some];rw[this,h6];rfl;cases hi
 . rename_i t m k ok ho
   rw[Cs] at hi;unfold PX at h ⊢;rw[ho] at h ⊢;simp only at h ⊢;unfold mpV at hi;split at hi
   . rename_i id Pd
     have hid:id < q0:=Nat.le_of_ble_eq_true hi;rw[Pd] at h ⊢;cases hk:A8 G fr k with
     | none=>rw[hk] at h;cases h
     | some b =>
       rw[hk] at h;simp only at h ⊢;obtain⟨v',h3,h4⟩:=map_some h;injection h4 with h4
       subst h4
       have:IV P s2 t (.mp id) b ok=IV P s t (.mp id) b ok:=by
         unfold IV;simp only;rw[h2 id hid,h1 id hid]
       rw[this,h3];rfl
   cases hi
 rename_i t a x ho;rw[ho] at hq;cases hq
 . rename_i cl ho
   split at hi;rename_i f Ih;rw[ho] at hq;simp[quiet,Ih] at hq;rename_i Ih;rw[ho] at hq;simp[quiet,Ih] at hq
   . rename_i Ih
     unfold PX at h ⊢;rw[ho] at h ⊢;simp only[SE,Ih] at h ⊢;split at hi
     . rename_i x hx
       rw[hx] at h ⊢;cases ht:cl.argTypes.toList with
       | nil=>rw[ht] at h;cases h
       | cons t1 ts =>
         cases ts with
         | cons _ _=>rw[ht] at h;cases h
         | nil =>
           rw[ht] at h;simp only at h ⊢;obtain⟨v',h3,h4⟩:=map_some h;injection h4 with h4
           subst h4;obtain⟨b,h5,h6⟩:=bind_some h3;rw[Cs,h5] at hi;rw[h5];simp only[Option.bind_some]
           have:Wc P s2 t1 b=Wc P s t1 b:=by
             unfold slV at hi;split at hi
             . rename_i Pd;cases Pd;unfold Wc;split<;>first | rfl | (simp_all;done)
             . rename_i Pd;cases Pd;unfold Wc;split<;>first | rfl | (simp_all;done)
             cases hi
           rw[this,h6];rfl
     cases hi
   . rename_i ZR hn2
     rw[ho] at hr;unfold reads at hr;simp only at hr
     first
       | (cases hr;done)
       | (split at hr
          rename_i Ih;exact absurd Ih hn2;cases hr)
 rename_i e ho;rw[ho] at hq;cases hq;rename_i ZR hn2 hn3 hn4 hn5;exfalso;unfold reads at hr;split at hr;rename_i ho;exact ZR _ _ ho;rename_i ho;exact hn2 _ _ _ _ ho;rename_i ho;exact hn4 _ ho;cases hr
def aaa{id:Nat}{fr B8:List AV}{s s':AS}{r:List AL}{t:List (List AV×AS×AV)}{hs Cm:List Hn}{cd:List Cd}(Hh:L2 ops=true)(hr:rsv P ops.toList=some r)(h:hTr P G ops ops.toList s.nx hs fr (s.hold r)=some (Cm,cd,t,B8,s'))(hc:QX P G cd)(hi:Lw G ops s.nx ops.toList t=true)(aa5:WX P ops t s' s.nx r=true):J P G (XS P G) H0 (.code (.region id ops true) fr s .normal B8 s'):=by
 obtain⟨vB,aoH,alu⟩:=aiR h hc hi;have hlen:t.length=ops.size:=by rw[vB.len,Array.length_toList]
 have xK:∀k,lZ s.nx (s.hold r) (FD t s' k):=by
   intro k;unfold FD;split;rename_i x hx;exact aoH x (List.mem_of_getElem? hx);exact alu
 obtain⟨h0,Tb⟩:=vB.at;have nE:∀i o,ops[i]?=some o->Ch ops i=o.dst:=λi o ho=>by unfold Ch;rw[ho];rfl
 obtain⟨Ve,XP⟩:=vB.cB (Ch ops) (J8 t) fr 0 rfl (λi o ho=>by rw[Nat.zero_add];exact nE i o (by rw[<- Array.getElem?_toList];exact ho)) (λi=>.inl (by rw[Nat.zero_add]));rw[Nat.zero_add,Array.length_toList] at Ve
 have JS:∀(i:Nat) (o:Oper),ops[i]?=some o->BY o.op=false->J P G (XS P G) H0 (.op ops o (Ii fr (Ch ops) (J8 t) (λ_=>true) i) (FD t s' i) (.ret (J8 t i)) (FD t s' (i+1))):=by
   intro i o ho lT;obtain⟨fi,h1,h2⟩:=Tb i o (Cf ho);have:=XP i _ h1;simp only[Nat.zero_add] at this;rcases h2 with ⟨_,h2⟩ | ⟨h2,_⟩
   rw[<- this];exact h2;rw[lT] at h2;cases h2
 have alk:∀(i:Nat) (o:Oper),ops[i]?=some o->BY o.op=true->FD t s' (i+1)=FD t s' i/\J8 t i=OO ops (Ii fr (Ch ops) (J8 t) (λ_=>true) i) o (s.nx+rk ops i):=by
   intro i o ho cM;obtain⟨fi,h1,h2⟩:=Tb i o (Cf ho);have:=XP i _ h1;simp only[Nat.zero_add] at this;rcases h2 with ⟨h2,_⟩ | ⟨_,h2⟩
   rw[cM] at h2;cases h2;rw[<- this];exact h2
 have lT:∀o:Oper,quiet o.op=true->BY o.op=false:=by
   intro o hq;cases cM:BY o.op with
   | false=>rfl
   | true=>obtain⟨e,he⟩:=Km cM;rw[QL he] at hq;cases hq
 have Vf:∀o:Oper,calm o.op=false->BY o.op=false:=by
   intro o hq;cases cM:BY o.op with
   | false=>rfl
   | true=>unfold calm at hq;rw[cM] at hq;cases hq
 have hsn:FD t s' ops.size=s':=by
   unfold FD;rw[List.getElem?_eq_none (by omega)]
 have hsk:∀k,k<=ops.size->(t.map (λx=>x.2.1)++[s'])[k]?=some (FD t s' k):=by
   intro k hk;unfold FD;by_cases hkt:k < t.length;rw[List.getElem?_append_left (by simpa using hkt),List.getElem?_map,List.getElem?_eq_getElem hkt];rfl
   have:k=t.length:=by omega
   subst this;rw[List.getElem?_append_right (by simp)];simp
 have qN:∀l,l∈MS ops.toList 0->Ya ops l:=by
   intro l hl;obtain⟨j,o',e,h5,h6⟩:=cW hl;rw[Nat.zero_add] at e;subst e;exact⟨o',by rw[<- Array.getElem?_toList];exact h5,h6⟩
 have key:=J.draw (P:=P) (G:=G) (X:=XS P G) (H:=H0) (id:=id) (f0:=fr) (s0:=s) r (J8 t) (FD t s') h0 Hh (λi o ho hl=>JS i o ho (Vf o hl)) (λi o ho hq=>by
   obtain⟨h1,h2⟩:=JL hq (JS i o ho (lT o hq));refine⟨h1,?_⟩;rcases h2 with h2 | ⟨hw,h2⟩
   exact .inl h2
   . refine .inr ⟨hw,λk hk Zd=>?_⟩
     cases hrd:reads o.op with
     | false=>exact Ty hq hrd h2 _
     | true =>
       obtain⟨fi,hti,_⟩:=Tb i o (Cf ho);have xJ:=XP i _ hti;simp only[Nat.zero_add] at xJ;have hin:=vF hi (Cf ho) hti (by rw[xJ];exact hw);rw[xJ] at hin;exact aan hq hrd hin (xK i) (xK k) h2) (λi o e ho he=>by
   have cM:BY o.op=true:=by rw[he];rfl
   obtain⟨h1,h2⟩:=alk i o ho cM;refine⟨h1,?_⟩
   have hrk:rk ops i < r.length:=by
     rw[afW hr];exact oM (Cf ho) cM (by rw[Array.length_toList];exact(Array.getElem?_eq_some_iff.1 ho).1)
   cases hw:Cv ops (Ii fr (Ch ops) (J8 t) (λ_=>true) i) o with
   | false=>unfold OO at h2;rw[hw] at h2;exact .inl ⟨rfl,h2⟩
   | true =>
     unfold OO at h2;rw[hw] at h2;obtain⟨fi,hti,_⟩:=Tb i o (Cf ho);have xJ:=XP i _ hti;simp only[Nat.zero_add] at xJ
     have hal:S4 P ops (Hz ops.toList []) (MS ops.toList 0) (t.map (·.2.1)++[s']) ops.toList t 0 s.nx=true:=by
       unfold WX at aa5;split at aa5;simp at hrk;exact aa5
     obtain⟨z,hz,hbx⟩:=tT hal (Cf ho) hti he (by rw[xJ];exact hw);rw[Nat.zero_add] at hbx;exact .inr ⟨rfl,z,hz,hrk,h2,λk hk Zd=>uF hbx (hsk k hk) (by rw[Nat.zero_add];exact ag5 qN Zd)⟩)
 rw[<- Ve,hsn] at key;exact key
end
end AI
namespace AI
open Go Go.RowKit
def uY(P:Program)(G:A6)(ops:Array Oper)(c:Nat):List Oper->Nat->List Hn->List AV->AS->HT
 | [],_,hs,fr,s=>some (hs,[],[],fr,s)
 | o::l,i,hs,fr,s=>(match (match Nat.beq i c with
     | true=>ZJ P G ops fr s o hs
     | false=>hJ P G ops fr s o hs) with
   | some (v,s1,Sl,cd)=>uX cd (fr,s,v) (uY P G ops c l (i+1) Sl (Ir fr o.dst v) s1)
   | none=>none)
def Un(ms:List Nat)(c:Nat):List Oper->Nat->Bool
 | [],_=>true
 | o::l,i=>(match Nat.beq i c with
   | true=>!calm o.op
   | false=>(match Nw o.op with
     | true=>Nat.blt i c
     | false=>quiet o.op&&(!reads o.op||(Nat.blt i c&&RZ ms c i))))&&Un ms c l (i+1)
section
variable {P:Program} {G:A6} {ops:Array Oper}
def X3{ms:List Nat}{c:Nat}:∀{l:List Oper} {i j:Nat} {o:Oper},Un ms c l i=true->l[j]?=some o->(i+j=c->calm o.op=false)/\(i+j≠c->(Nw o.op=true/\i+j < c)\/(quiet o.op=true/\(reads o.op=true->i+j < c/\RZ ms c (i+j)=true))):=by
 intro l
 induction l with
 | nil=>intro i j o h ho;simp at ho
 | cons x l ih =>
   intro i j o h ho;simp only[Un,Bool.and_eq_true] at h;cases j with
   | zero =>
     simp at ho;subst ho;have h1:=h.1;split at h1;rename_i hb;have:=Nat.eq_of_beq_eq_true hb;exact⟨λ_=>by simpa using h1,λhn=>absurd this hn⟩
     rename_i hb;have:=Nat.ne_of_beq_eq_false hb;refine⟨λhn=>absurd hn this,λ_=>?_⟩;split at h1;rename_i hv;exact .inl ⟨hv,Nat.le_of_ble_eq_true h1⟩;simp only[Bool.and_eq_true,Bool.or_eq_true,Bool.not_eq_true'] at h1;refine .inr ⟨h1.1,λhr=>?_⟩;rcases h1.2 with h2 | h2
     rw[hr] at h2;cases h2;exact⟨Nat.le_of_ble_eq_true h2.1,h2.2⟩
   | succ j =>
     have:=ih (i:=i+1) (j:=j) h.2 (by simpa using ho)
     rw[show i+(j+1)=i+1+j by omega];exact this
def VW{ms:List Nat}{c:Nat}{l:List Oper}{i j:Nat}{o:Oper}(hl:Un ms c l i=true)(hj:l[j]?=some o):BY o.op=false:=by
 have ho:=X3 hl hj;cases ha:BY o.op with
 | false=>rfl
 | true =>
   obtain⟨e,he⟩:=Km ha;by_cases hic:i+j=c;have:=ho.1 hic;unfold calm at this;rw[ha] at this;simp at this;rcases ho.2 hic with ⟨h1,_⟩ | ⟨h1,_⟩
   rw[he] at h1;cases h1;rw[QL he] at h1;cases h1
def aez{fr:List AV}{s s1:AS}{o:Oper}{hs Cm:List Hn}{v:AV}{cd:List Cd}(h:ZJ P G ops fr s o hs=some (v,s1,Cm,cd))(hv:Nw o.op=true)(hA:cP hs=false):s1=s:=by
 unfold ZJ at h;split at h;unfold Nw at hv;split at hv;rename_i cl ho;split at hv;rename_i f Ih;unfold uU at h;rw[ho] at h;simp only[Ih] at h;unfold XK at h;split at h;split at h;cases h;rfl;cases h;simp[cP] at hA;simp[cP] at hA;simp[cP] at hA;cases h;cases hv;cases hv;cases h;rfl
def aeF{c q:Nat}{ms:List Nat}:∀{l:List Oper} {i:Nat} {hs Cm:List Hn} {fr B8:List AV} {s s':AS} {cd:List Cd} {t:List (List AV×AS×AV)},uY P G ops c l i hs fr s=some (Cm,cd,t,B8,s')->QX P G cd->Un ms c l i=true->Se P G (XS P G) H0 ops q l fr s t B8 s'/\∀j,j<=l.length->i+j<=c->FD t s' j=s:=by
 intro l
 induction l with
 | nil =>
   intro i hs Cm fr B8 s s' cd t h hc hl;simp only[uY] at h;cases h;exact⟨.nil,λj hj _=>by rfl⟩
 | cons o l ih =>
   intro i hs Cm fr B8 s s' cd t h hc hl;simp only[uY] at h;split at h
   . rename_i v s1 Sl xG h1
     unfold uX at h;split at h
     . rename_i fC uI t2 fr2 s2 h2
       cases h;obtain⟨c1,c2⟩:=hc.TU;have ho:=X3 (j:=0) hl rfl;have lT:BY o.op=false:=VW (j:=0) hl rfl
       have ZQ:Un ms c l (i+1)=true:=by
         simp only[Un,Bool.and_eq_true] at hl;exact hl.2
       have h3:ZJ P G ops fr s o hs=some (v,s1,Sl,xG):=by
         split at h1;exact h1;exact(R2 h1).1
       have hj:=OT h3 c1;obtain⟨k1,k2⟩:=ih h2 c2 ZQ;refine⟨.cons lT hj k1,λj hjl hjc=>?_⟩;cases j with
       | zero=>rfl
       | succ j =>
         have e1:FD ((fr,s,v)::t2) s' (j+1)=FD t2 s' j:=by unfold FD;simp
         rw[e1,k2 j (by simpa using hjl) (by omega)]
         have hic:i+0≠c:=by omega
         rcases ho.2 hic with ⟨hv,_⟩ | ⟨hq,_⟩
         split at h1;rename_i hb;have:=Nat.eq_of_beq_eq_true hb;omega;exact aez h3 hv ((R2 h1).2 hv);exact(JL hq hj).1
     cases h
   cases h
def uO{id c:Nat}{fr B8:List AV}{s s':AS}{t:List (List AV×AS×AV)}{hs Cm:List Hn}{cd:List Cd}(Hh:L2 ops=true)(Vd:Nat.blt c ops.size=true)(hl:Un (Hz ops.toList []) c ops.toList 0=true)(h:uY P G ops c ops.toList 0 hs fr s=some (Cm,cd,t,B8,s'))(hc:QX P G cd):J P G (XS P G) H0 (.code (.region id ops true) fr s .normal B8 s'):=by
 have Ih:c < ops.size:=Nat.le_of_ble_eq_true Vd;obtain⟨vB,hsm⟩:=aeF (q:=s.nx) h hc hl;have hlen:t.length=ops.size:=by rw[vB.len,Array.length_toList]
 obtain⟨h0,Tb⟩:=vB.at;have nE:∀i o,ops[i]?=some o->Ch ops i=o.dst:=λi o ho=>by unfold Ch;rw[ho];rfl
 obtain⟨Ve,XP⟩:=vB.cB (Ch ops) (J8 t) fr 0 rfl (λi o ho=>by rw[Nat.zero_add];exact nE i o (by rw[<- Array.getElem?_toList];exact ho)) (λi=>.inl (by rw[Nat.zero_add]));rw[Nat.zero_add,Array.length_toList] at Ve
 have ahv:∀(i:Nat) (o:Oper),ops[i]?=some o->(i=c->calm o.op=false)/\(i≠c->(Nw o.op=true/\i < c)\/(quiet o.op=true/\(reads o.op=true->i < c/\RZ (Hz ops.toList []) c i=true))):=by
   intro i o ho;have:=X3 (j:=i) hl (Cf ho);rwa[Nat.zero_add] at this
 have aaY:∀(i:Nat) (o:Oper),ops[i]?=some o->BY o.op=false:=λi o ho=>VW (j:=i) hl (Cf ho)
 have JS:∀(i:Nat) (o:Oper),ops[i]?=some o->J P G (XS P G) H0 (.op ops o (Ii fr (Ch ops) (J8 t) (λ_=>true) i) (FD t s' i) (.ret (J8 t i)) (FD t s' (i+1))):=by
   intro i o ho;obtain⟨fi,h1,h2⟩:=Tb i o (Cf ho);have:=XP i _ h1;simp only[Nat.zero_add] at this;rcases h2 with ⟨_,h2⟩ | ⟨h2,_⟩
   rw[<- this];exact h2;rw[aaY i o ho] at h2;cases h2
 have hsn:FD t s' ops.size=s':=by
   unfold FD;rw[List.getElem?_eq_none (by omega)]
 have iG:∀k,k<=c->FD t s' k=s:=λk hk=>hsm k (by rw[Array.length_toList];omega) (by omega)
 have qN:Ya ops c:=by
   have ho:ops[c]?=some ops[c]:=Array.getElem?_eq_getElem Ih;exact⟨_,ho,(ahv c _ ho).1 rfl⟩
 have key:=J.draw (P:=P) (G:=G) (X:=XS P G) (H:=H0) (id:=id) (f0:=fr) (s0:=s) [] (J8 t) (FD t s') h0 Hh (λi o ho _=>JS i o ho) (λi o ho hq=>by
   obtain⟨h1,h2⟩:=JL hq (JS i o ho);refine⟨h1,?_⟩;rcases h2 with h2 | ⟨hw,h2⟩
   exact .inl h2
   . refine .inr ⟨hw,λk hk Zd=>?_⟩
     cases hrd:reads o.op with
     | false=>exact Ty hq hrd h2 _
     | true =>
       have hic:i≠c:=λe=>by
         subst e;obtain⟨o2,ho2,hcm⟩:=qN;rw[ho] at ho2;cases ho2;rw[Xt hq] at hcm;cases hcm
       obtain⟨GI,hd⟩:i < c/\RZ (Hz ops.toList []) c i=true:=by
         rcases(ahv i o ho).2 hic with ⟨hv,_⟩ | ⟨_,h3⟩
         exfalso;unfold Nw at hv;split at hv;rename_i cl iF;split at hv;rename_i f aoA;rw[iF] at hq;simp[quiet,aoA] at hq;cases hv;cases hv;exact h3 hrd
       have hkc:=Zd.2 c qN hd;rw[iG k hkc];rw[iG i (by omega)] at h2;exact h2) (λi o e ho he=>by
   have:=aaY i o ho;rw[he] at this;cases this)
 rw[<- Ve,hsn] at key;exact key
end
end AI
namespace AI
open Go Go.RowKit
def acU(G:A6)(fr:List AV)(o:Oper)(hs:List Hn):Option (List Nat):=match o.op with
 | .store _ a _=>(match A8 G fr a with
   | some (.ptr id _)=>some [id]
   | _=>none)
 | .mapUpdate _ m _ _=>(match AW G fr m with
   | some (.mp id)=>some [id]
   | _=>none)
 | .call cl=>(match cl.callee with
   | .value _=>(match hs with
     | .w _::_=>some []
     | .u _ _ _ QD _::_=>some (QD.map (·.1))
     | .cn _ h _ _ _::_=>some (h.map (·.1))
     | _=>none)
   | .builtin .append=>(match hs with
     | .g _ _ _::_=>some []
     | .ae _::_=>some []
     | _=>none)
   | _=>(match quiet o.op with
     | true=>some []
     | false=>none))
 | op=>(match quiet op with
   | true=>some []
   | false=>none)
def YG(G:A6)(ops:Array Oper)(fr:List AV)(o:Oper)(hs:List Hn):Option (List Nat):=match Cv ops fr o with
 | true=>acU G fr o hs
 | false=>some []
abbrev HA:=Option (List Hn×List Cd×List (List AV×AS×AV)×List (List Nat)×List AV×AS)
def ahs(cd:List Cd)(x:List AV×AS×AV)(T:List Nat):HA->HA
 | some (hs,cd',t,Ts,fr,s)=>some (hs,cd++cd',x::t,T::Ts,fr,s)
 | none=>none
def uW(P:Program)(G:A6)(ops:Array Oper):List Oper->List Hn->List AV->AS->HA
 | [],hs,fr,s=>some (hs,[],[],[],fr,s)
 | o::l,hs,fr,s=>(match BY o.op with
   | true=>none
   | false=>(match YG G ops fr o hs with
     | some T=>(match ZJ P G ops fr s o hs with
       | some (v,s1,Sl,cd)=>ahs cd (fr,s,v) T (uW P G ops l Sl (Ir fr o.dst v) s1)
       | none=>none)
     | none=>none))
def afC(G:A6)(fr:List AV)(o:Oper):Option (Option Nat):=match o.op with
 | .load _ a=>(match AW G fr a with
   | some (.ptr id _)=>some (some id)
   | some (.el _)=>some none
   | _=>none)
 | .lookup _ m _ _=>(match AW G fr m with
   | some (.mp id)=>some (some id)
   | _=>none)
 | .call cl=>(match cl.callee with
   | .builtin .len=>(match cl.args.toList with
     | [x]=>(match slV (AW G fr x) with
       | true=>some none
       | false=>none)
     | _=>none)
   | _=>none)
 | _=>none
def abz(a:Nat):List Nat->Bool
 | []=>false
 | b::l=>(match Nat.beq a b with
   | true=>true
   | false=>abz a l)
def UI(ms:List Nat)(id i:Nat):List (List Nat)->Nat->Bool
 | [],_=>true
 | T::Ts,l=>(match abz id T with
   | true=>(match Nat.blt l i with
     | true=>RZ ms i l
     | false=>(match Nat.blt i l with
       | true=>RZ ms l i
       | false=>true))
   | false=>true)&&UI ms id i Ts (l+1)
def jR(G:A6)(ops:Array Oper)(ms:List Nat)(Ts:List (List Nat)):List Oper->List (List AV×AS×AV)->Nat->Bool
 | o::os,t::ts,i=>(match Cv ops t.1 o with
   | false=>true
   | true=>(match reads o.op with
     | false=>true
     | true=>(match afC G t.1 o with
       | none=>false
       | some none=>true
       | some (some id)=>UI ms id i Ts 0)))&&jR G ops ms Ts os ts (i+1)
 | _,_,_=>true
def iV{a:Nat}:∀{l:List Nat},abz a l=true↔a∈l
 | []=>by simp[abz]
 | b::l=>by
   simp only[abz];cases hb:Nat.beq a b with
   | true=>have:=Nat.eq_of_beq_eq_true hb;simp[this]
   | false =>
     have:=Nat.ne_of_beq_eq_false hb;simp[iV (l:=l),this]
def kH{id:Nat}:∀(l:List (Nat×AL)) (s:AS),id∉l.map (·.1)->(s.VB l).get id=s.get id
 | [],_,_=>rfl
 | e::l,s,h=>by
   simp only[List.map_cons,List.mem_cons,not_or] at h;rw[AS.VB,kH l _ h.2];exact Il h.1 _
def iS{id:Nat}:∀{l:List (Nat×AL)} (m:List (Nat×AL)),id∉l.map (·.1)->look id (l++m)=look id m
 | [],_,_=>rfl
 | e::l,m,h=>by
   simp only[List.map_cons,List.mem_cons,not_or] at h;simp only[List.cons_append,look]
   have hb:Nat.beq e.1 id=false:=by
     cases hq:Nat.beq e.1 id with
     | false=>rfl
     | true=>exact absurd (Nat.eq_of_beq_eq_true hq).symm h.1
   rw[hb];exact iS m h.2
def ZH{id:Nat}:∀(l:List (Nat×Nat)) (s:AS),(s.SN l).get id=s.get id
 | [],_=>rfl
 | e::l,s=>by rw[AS.SN,ZH l];rfl
section
variable {P:Program} {G:A6} {ops:Array Oper}
def uV{fr:List AV}{s s1:AS}{o:Oper}{hs Cm:List Hn}{v:AV}{cd:List Cd}{T:List Nat}(h:ZJ P G ops fr s o hs=some (v,s1,Cm,cd))(hT:YG G ops fr o hs=some T)(hc:QX P G cd)(ha:BY o.op=false)(id:Nat)(hid:id∉T):s1.get id=s.get id:=by
 have hj:=OT h hc;cases hq:quiet o.op with
 | true=>rw[(JL hq hj).1]
 | false =>
   unfold ZJ at h;unfold YG at hT;split at h
   . rename_i hw
     rw[hw] at hT;simp only at hT;unfold acU at hT;split at hT;rename_i t a x ho;unfold uU at h;rw[ho] at h;simp only at h
     have h1:∃a' x',A8 G fr a=some a'/\A8 G fr x=some x'/\Kk P s t a' x'=some s1:=by
       rcases Vc h hc with ⟨a',x',h2,h3,h4,_⟩ | h2
       exact⟨a',x',h2,h3,h4⟩;have h1:=Vb h2;rw[ML] at h1;unfold PX at h1;rw[ho] at h1;simp only at h1;split at h1;rename_i a' x' xI Wh;obtain⟨s',F4,he⟩:=map_some h1;injection he with he1 he2
       subst he2;exact⟨a',x',xI,Wh,F4⟩;cases h1
     obtain⟨a',x',xI,Wh,F4⟩:=h1;rw[xI] at hT;split at hT;rename_i QO off Pd;cases Pd;cases hT;simp only[List.mem_singleton] at hid;unfold Kk at F4;split at F4;rename_i i id2 apD Ui aaS;cases aaS;split at F4;split at F4;cases F4;exact Il hid _;cases F4;cases F4;cases F4;cases hT
     . rename_i t m k x ho
       unfold uU at h;rw[ho] at h;simp only at h;split at hT
       . rename_i QO Pd
         rw[Pd] at h;cases hT;simp only[List.mem_singleton] at hid;simp only at h;split at h
         . split at h
           . have af4:∀kk x' s2,Ka P s t (.mp QO) kk x'=some s2->s2.get id=s.get id:=by
               intro kk x' s2 h2;unfold Ka at h2
               repeat' split at h2
               all_goals first
                 | (cases h2;done)
                 | (rename_i aaS;cases aaS;cases h2;exact Il hid _)
                 | (simp_all only [AV.mp.injEq,Option.some.injEq];subst_vars;exact Il hid _)
             unfold aiP at h;split at h;cases h;exact af4 _ _ _ hc.1;cases h;exact Il hid _;cases h
           cases h
         cases h
       cases hT
     rename_i cl ho;split at hT;rename_i f Ih;unfold uU at h;rw[ho] at h;simp only[Ih] at h;unfold XK at h;split at h;split at h;cases h;rfl;cases h;cases hT;split at h;cases h;cases hT;rw[ZH];exact kH _ _ hid;cases h;split at h;cases h;cases hT;exact iS _ hid;cases h;cases h;rename_i Ih;unfold uU at h;rw[ho] at h;simp only[Ih] at h;split at hT;split at h;split at h;split at h;unfold aaz at h;simp only at h;split at h;cases h;rfl;split at h;split at h;cases h;rfl;cases h;cases h;cases h;cases h;cases h;cases h;split at h;split at h;split at h;unfold aaz at h;simp only at h;cases h;rfl;cases h;cases h;cases h;cases hT;rw[hq] at hT;cases hT;rw[hq] at hT;cases hT
   cases h;rfl
def pB{fr:List AV}{o:Oper}{hs:List Hn}{T:List Nat}(hT:YG G ops fr o hs=some T){id:Nat}(h:id∈T)(ha:BY o.op=false):calm o.op=false:=by
 unfold calm;rw[ha];simp only;cases hq:quiet o.op with
 | false=>rfl
 | true =>
   exfalso;unfold YG at hT;split at hT;unfold acU at hT;split at hT;rename_i ho;rw[ho] at hq;cases hq;rename_i ho;rw[ho] at hq;cases hq;rename_i cl ho;split at hT;rename_i Ih;rw[ho] at hq;simp[quiet,Ih] at hq;split at hT;cases hT;cases h;cases hT;cases h;cases hT;rw[hq] at hT;cases hT;cases h;rw[hq] at hT;cases hT;cases h;cases hT;cases h
def aeE{q:Nat}:∀{l:List Oper} {hs Cm:List Hn} {fr B8:List AV} {s s':AS} {cd:List Cd} {t:List (List AV×AS×AV)} {Ts:List (List Nat)},uW P G ops l hs fr s=some (Cm,cd,t,Ts,B8,s')->QX P G cd ->
   Se P G (XS P G) H0 ops q l fr s t B8 s'/\(∀o∈l,BY o.op=false)/\(∀(i:Nat) id,i < l.length->(∀T,Ts[i]?=some T->id∉T)->(FD t s' (i+1)).get id=(FD t s' i).get id)/\∀(i:Nat) o T id,l[i]?=some o->Ts[i]?=some T->id∈T->calm o.op=false:=by
 intro l
 induction l with
 | nil =>
   intro hs Cm fr B8 s s' cd t Ts h hc;simp only[uW] at h;cases h;exact⟨.nil,(λo h=>by cases h),(λi id h=>by simp at h),λi o T id h=>by simp at h⟩
 | cons o l ih =>
   intro hs Cm fr B8 s s' cd t Ts h hc;simp only[uW] at h;split at h;cases h
   . rename_i ha
     split at h
     . rename_i T hT
       split at h
       . rename_i v s1 Sl xG h1
         unfold ahs at h;split at h
         . rename_i fC uI t2 Ts2 fr2 s2 h2
           cases h;obtain⟨c1,c2⟩:=hc.TU;obtain⟨k1,k2,k3,k4⟩:=ih h2 c2;refine⟨.cons ha (OT h1 c1) k1,λo' VQ=>?_,λi id hi hno=>?_,λi o' T' id VQ hT' hid=>?_⟩;rcases List.mem_cons.1 VQ with rfl | VQ
           exact ha;exact k2 o' VQ
           . cases i with
             | zero =>
               have e1:FD ((fr,s,v)::t2) s' 0=s:=rfl
               have e2:FD ((fr,s,v)::t2) s' (0+1)=s1:=by
                 rw[show FD ((fr,s,v)::t2) s' (0+1)=FD t2 s' 0 by unfold FD;simp];exact k1.at.1
               rw[e1,e2];exact uV h1 hT c1 ha id (hno T rfl)
             | succ i =>
               have e:∀j,FD ((fr,s,v)::t2) s' (j+1)=FD t2 s' j:=λj=>by unfold FD;simp
               rw[e,e];exact k3 i id (by simpa using hi) (λT' h'=>hno T' (by simpa using h'))
           cases i with
           | zero=>simp at VQ hT';subst VQ hT';exact pB hT hid ha
           | succ i=>exact k4 i o' T' id (by simpa using VQ) (by simpa using hT') hid
         cases h
       cases h
     cases h
def YF{ms:List Nat}{id i:Nat}:∀{Ts:List (List Nat)} {l0:Nat},UI ms id i Ts l0=true->∀{l:Nat} {T:List Nat},Ts[l]?=some T->id∈T->(l0+l < i->RZ ms i (l0+l)=true)/\(i < l0+l->RZ ms (l0+l) i=true):=by
 intro Ts
 induction Ts with
 | nil=>intro l0 _ l T h;simp at h
 | cons T0 Ts ih =>
   intro l0 h l T hT hid;simp only[UI,Bool.and_eq_true] at h;cases l with
   | zero =>
     simp at hT;subst hT;have h1:=h.1;rw[iV.2 hid] at h1;simp only at h1;constructor;intro GI;have e:Nat.blt l0 i=true:=Nat.ble_eq_true_of_le GI;rw[e] at h1;exact h1;intro GI
     have e:Nat.blt l0 i=false:=by
       cases hq:Nat.blt l0 i with
       | false=>rfl
       | true=>have:=Nat.le_of_ble_eq_true hq;omega
     have e2:Nat.blt i l0=true:=Nat.ble_eq_true_of_le GI;rw[e,e2] at h1;exact h1
   | succ l =>
     have:=ih h.2 (l:=l) (by simpa using hT) hid
     rw[show l0+(l+1)=l0+1+l by omega];exact this
def abX{ms:List Nat}{Ts:List (List Nat)}:∀{os:List Oper} {ts:List (List AV×AS×AV)} {i:Nat},jR G ops ms Ts os ts i=true->∀{j:Nat} {o:Oper} {x:List AV×AS×AV},os[j]?=some o->ts[j]?=some x->Cv ops x.1 o=true->reads o.op=true->∃r,afC G x.1 o=some r/\∀id,r=some id->UI ms id (i+j) Ts 0=true:=by
 intro os
 induction os with
 | nil=>intro ts i _ j o x h;simp at h
 | cons y os ih =>
   intro ts i h j o x ho hx hw hr;cases ts with
   | nil=>simp at hx
   | cons t ts =>
     simp only[jR,Bool.and_eq_true] at h;cases j with
     | zero =>
       simp at ho hx;subst ho hx;have h1:=h.1;rw[hw,hr] at h1;simp only at h1;split at h1;cases h1;rename_i hq;exact⟨none,hq,λid h=>by cases h⟩;rename_i id hq;exact⟨some id,hq,λQO h=>by cases h;exact h1⟩
     | succ j =>
       have:=ih h.2 (j:=j) (by simpa using ho) (by simpa using hx) hw hr
       rw[show i+(j+1)=i+1+j by omega];exact this
def afD{fr:List AV}{s s2:AS}{o:Oper}{v:AV}{r:Option Nat}(hr:afC G fr o=some r)(hs:∀id,r=some id->s2.get id=s.get id)(h:PX P G fr s o=some (.val v s)):PX P G fr s2 o=some (.val v s2):=by
 unfold afC at hr;split at hr;rename_i t a ho;rw[Cs] at hr;unfold PX at h ⊢;rw[ho] at h ⊢;simp only at h ⊢;obtain⟨v',h3,h4⟩:=map_some h;injection h4 with h4
 subst h4;obtain⟨b,h5,h6⟩:=bind_some h3;rw[h5] at hr ⊢;split at hr;rename_i id off Pd;cases Pd;cases hr
 have:Jg P s2 t (.ptr id off)=Jg P s t (.ptr id off):=by
   simp only[Jg];rw[hs id rfl]
 simp only[Option.bind_some];rw[this,h6];rfl;rename_i Pd;cases Pd;simp only[Option.bind_some];rw[show Jg P s2 t (.el _)=Jg P s t (.el _) from rfl,h6];rfl;cases hr;rename_i t m k ok ho;rw[Cs] at hr;unfold PX at h ⊢;rw[ho] at h ⊢;simp only at h ⊢;split at hr;rename_i id Pd;cases hr;rw[Pd] at h ⊢;split at h;rename_i a b ha hb;cases ha;obtain⟨v',h3,h4⟩:=map_some h;injection h4 with h4
 subst h4
 have:IV P s2 t (.mp id) b ok=IV P s t (.mp id) b ok:=by
   simp only[IV];rw[hs id rfl]
 rw[this,h3];rfl;cases h;cases hr
 . rename_i cl ho
   split at hr
   . rename_i Ih
     unfold PX at h ⊢;rw[ho] at h ⊢;simp only[SE,Ih] at h ⊢;split at hr
     . rename_i x hx
       rw[hx] at h ⊢;cases ht:cl.argTypes.toList with
       | nil=>rw[ht] at h;cases h
       | cons t1 ts =>
         cases ts with
         | cons _ _=>rw[ht] at h;cases h
         | nil =>
           rw[ht] at h;simp only at h ⊢;obtain⟨v',h3,h4⟩:=map_some h;injection h4 with h4
           subst h4;obtain⟨b,h5,h6⟩:=bind_some h3;rw[Cs,h5] at hr;rw[h5];simp only[Option.bind_some];split at hr
           . rename_i hsl
             have:Wc P s2 t1 b=Wc P s t1 b:=by
               unfold slV at hsl;split at hsl
               . rename_i Pd;cases Pd;unfold Wc;split<;>first | rfl | (simp_all;done)
               . rename_i Pd;cases Pd;unfold Wc;split<;>first | rfl | (simp_all;done)
               cases hsl
             rw[this,h6];rfl
           cases hr
     cases hr
   cases hr
 cases hr
def z7{id:Nat}{fr B8:List AV}{s s':AS}{t:List (List AV×AS×AV)}{Ts:List (List Nat)}{hs Cm:List Hn}{cd:List Cd}(Hh:L2 ops=true)(h:uW P G ops ops.toList hs fr s=some (Cm,cd,t,Ts,B8,s'))(hr:jR G ops (Hz ops.toList []) Ts ops.toList t 0=true)(hc:QX P G cd):J P G (XS P G) H0 (.code (.region id ops true) fr s .normal B8 s'):=by
 obtain⟨vB,lT,F4,hlo⟩:=aeE (q:=s.nx) h hc;have hlen:t.length=ops.size:=by rw[vB.len,Array.length_toList]
 obtain⟨h0,Tb⟩:=vB.at;have nE:∀i o,ops[i]?=some o->Ch ops i=o.dst:=λi o ho=>by unfold Ch;rw[ho];rfl
 obtain⟨Ve,XP⟩:=vB.cB (Ch ops) (J8 t) fr 0 rfl (λi o ho=>by rw[Nat.zero_add];exact nE i o (by rw[<- Array.getElem?_toList];exact ho)) (λi=>.inl (by rw[Nat.zero_add]));rw[Nat.zero_add,Array.length_toList] at Ve;have aaY:∀(i:Nat) (o:Oper),ops[i]?=some o->BY o.op=false:=λi o ho=>lT o (List.mem_of_getElem? (Cf ho))
 have JS:∀(i:Nat) (o:Oper),ops[i]?=some o->J P G (XS P G) H0 (.op ops o (Ii fr (Ch ops) (J8 t) (λ_=>true) i) (FD t s' i) (.ret (J8 t i)) (FD t s' (i+1))):=by
   intro i o ho;obtain⟨fi,h1,h2⟩:=Tb i o (Cf ho);have:=XP i _ h1;simp only[Nat.zero_add] at this;rcases h2 with ⟨_,h2⟩ | ⟨h2,_⟩
   rw[<- this];exact h2;rw[aaY i o ho] at h2;cases h2
 have hsn:FD t s' ops.size=s':=by
   unfold FD;rw[List.getElem?_eq_none (by omega)]
 have hTl:∀(l:Nat) T id,Ts[l]?=some T->id∈T->l < ops.size->Ya ops l:=by
   intro l T id hT hid hl;exact⟨ops[l],Array.getElem?_eq_getElem hl,hlo l ops[l] T id (Cf (Array.getElem?_eq_getElem hl)) hT hid⟩
 have iG:∀(bx:Nat) (d i:Nat),i+d<=ops.size->(∀l,i<=l->l < i+d->∀T,Ts[l]?=some T->bx∉T)->(FD t s' (i+d)).get bx=(FD t s' i).get bx:=by
   intro bx d
   induction d with
   | zero=>intro i _ _;rfl
   | succ d ih =>
     intro i hle hno;rw[show i+(d+1)=(i+d)+1 by omega,F4 (i+d) bx (by rw[Array.length_toList];omega) (hno (i+d) (by omega) (by omega))];exact ih i (by omega) (λl h1 h2=>hno l h1 (by omega))
 have key:=J.draw (P:=P) (G:=G) (X:=XS P G) (H:=H0) (id:=id) (f0:=fr) (s0:=s) [] (J8 t) (FD t s') h0 Hh (λi o ho _=>JS i o ho) (λi o ho hq=>by
   obtain⟨h1,h2⟩:=JL hq (JS i o ho);refine⟨h1,?_⟩;rcases h2 with h2 | ⟨hw,h2⟩
   exact .inl h2
   . refine .inr ⟨hw,λk hk Zd=>?_⟩
     cases hrd:reads o.op with
     | false=>exact Ty hq hrd h2 _
     | true =>
       have hil:i < ops.size:=(Array.getElem?_eq_some_iff.1 ho).1;obtain⟨fi,hti,_⟩:=Tb i o (Cf ho);have xJ:=XP i _ hti;simp only[Nat.zero_add] at xJ;obtain⟨r,hr1,Y2⟩:=abX hr (Cf ho) hti (by rw[xJ];exact hw) hrd;rw[xJ] at hr1;refine afD hr1 (λbx hbx=>?_) h2;have hto:=Y2 bx hbx;rw[Nat.zero_add] at hto;rcases Nat.lt_or_ge k i with hki | hki
       have:=iG bx (i - k) k (by omega) (λl h3 h4 T hT hm=>by
         have hd:=(YF hto hT hm).1 (by omega);rw[Nat.zero_add] at hd;have:=Zd.1 l (hTl l T bx hT hm (by omega)) hd;omega)
       rw[show k+(i - k)=i by omega] at this;exact this.symm
       have:=iG bx (k - i) i (by omega) (λl h3 h4 T hT hm=>by
         have nG:=hTl l T bx hT hm (by omega);rcases Nat.lt_or_ge i l with h5 | h5
         have hd:=(YF hto hT hm).2 (by omega);rw[Nat.zero_add] at hd;have:=Zd.2 l nG hd;omega;have:l=i:=by omega
         subst this;obtain⟨o2,ho2,hcm⟩:=nG;rw[ho] at ho2;cases ho2;rw[Xt hq] at hcm;cases hcm)
       rw[show i+(k - i)=k by omega] at this;exact this) (λi o e ho he=>by
   have:=aaY i o ho;rw[he] at this;cases this)
 rw[<- Ve,hsn] at key;exact key
end
end AI
namespace AI
open Go Go.RowKit
section
variable {P:Program} {G:A6} {ops:Array Oper} {f0:List AV} {vals:Nat->AV} {s0 s1:AS} {p:Nat} {v:AV}
structure anq(G:A6)(ops:Array Oper)(f0:List AV)(vals:Nat->AV)(s0:AS)(p:Nat)(lP:Cx)(w0:World)(L:Array Bool)(a:Act)(w:World):Prop where
 size:L.size=ops.size
 closed:Nh ops.toList (λj=>L.getD j false)
 st:∃c,Ext lP w0 c w/\St G c w s0/\CG c w (Ii f0 (Ch ops) vals (λj=>L.getD j false) ops.size) a.tmps.toList
 defers:a.defers=[]
 out:L.getD p false=false
def aab(Hh:L2 ops=true)(hp:p < ops.size)
   (hl:∀i o,ops[i]?=some o->i≠p->(p < i->RZ (Hz ops.toList []) i p=false)->Sound P G (.op ops o (Ii f0 (Ch ops) vals (λ_=>true) i) s0 (.ret (vals i)) s0))
   (ai5:∀o,ops[p]?=some o->Sound P G (.op ops o (Ii f0 (Ch ops) vals (λ_=>true) p) s0 (.IL v) s1))
   {lP:Cx} {w0:World} {B8:List AV} (Q:Exit->Act->World->Prop) (hQ:∀e' a' w',SB G lP w0 (.IL v) B8 s1 e' a' w'->Q e' a' w') :
   ∀(KE:Nat) (L:Array Bool) (a:Act) (w:World),anq G ops f0 vals s0 p lP w0 L a w->fZ (λj=>L.getD j false) ops.size=KE->wpAny P .any ops Q KE L a w:=by
 intro KE
 induction KE with
 | zero =>
   intro L a w hI hc;have:=gE ops.size hc p hp;rw[hI.out] at this;cases this
 | succ KE ih =>
   intro L a w hI aoB;refine⟨λcI=>?_,λi hi=>?_⟩
   . exfalso
     have all:∀i,i < ops.size->L.getD i false=true:=by
       intro i
       induction i using Nat.strongRecOn with
       | _ i ihi =>
         intro GI;cases eZ:L.getD i false with
         | true=>rfl
         | false =>
           exfalso;have ho:ops[i]?=some (ops[i]'GI):=Array.getElem?_eq_getElem GI
           have:=jU hI.size ho eZ (λe he hb=>by
             have h1:=jE Hh ho he hb;exact ihi e.on h1 (by omega))
           rw[cI] at this;cases this
     have:=all p hp;rw[hI.out] at this;cases this
   . obtain⟨o,ho,eZ,XT,GI⟩:=mem_ready hI.size hi
     obtain⟨c,hx,F4,OU⟩:=hI.st
     have hip:p < i->RZ (Hz ops.toList []) i p=false:=by
       intro h1;cases hd:RZ (Hz ops.toList []) i p with
       | false=>rfl
       | true =>
         have:=Xv hI.closed (Cf ho) XT hd;rw[hI.out] at this;cases this
     have hMi:(L.setIfInBounds i true).getD i false=true:=by
       have:i < L.size:=by rw[hI.size];exact GI
       simp[this]
     have qK:∀j,j≠i->(L.setIfInBounds i true).getD j false=L.getD j false:=by
       intro j hj;simp only[Array.getD_eq_getD_getElem?];rw[Array.getElem?_setIfInBounds_ne (λe=>hj e.symm)]
     have hle:∀j,L.getD j false=true->(L.setIfInBounds i true).getD j false=true:=by
       intro j hj;by_cases e:j=i;subst e;exact hMi;rw[qK j e];exact hj
     have XO:Nh ops.toList (λj=>(L.setIfInBounds i true).getD j false):=by
       intro j y hy hj e he hb;by_cases ej:j=i;subst ej;rw[Cf ho] at hy;cases hy;exact hle _ (XT e he hb);have vA:L.getD j false=true:=by rw[<- qK j ej];exact hj
       exact hle _ (hI.closed j y hy vA e he hb)
     have aaQ:fZ (λj=>(L.setIfInBounds i true).getD j false) ops.size=KE:=by
       have:=(pV (L:=λj=>L.getD j false) (M:=λj=>(L.setIfInBounds i true).getD j false) eZ hMi qK ops.size).1 GI;omega
     have Za:=qF (f0:=f0) (vals:=vals) (L:=λj=>L.getD j false) (M:=λj=>(L.setIfInBounds i true).getD j false) Hh hI.closed ho eZ hMi qK
     have iH:∀x∈o.op.operands,Y4 G c w (Ii f0 (Ch ops) vals (λ_=>true) i) a.eval x:=by
       intro x hxo v hv;cases x with
       | tmp t =>
         have aaV:t∈o.looksAt ops:=by
           unfold Oper.looksAt;rw[List.mem_append];left;rw[List.mem_filterMap];exact⟨.tmp t,Array.mem_toList_iff.2 hxo,rfl⟩
         have he:=R1 (f0:=f0) (vals:=vals) Hh hI.closed ho eZ XT aaV
         have:A8 G (Ii f0 (Ch ops) vals (λj=>L.getD j false) ops.size) (.tmp t)=some v:=by
           rw[<- hv];simp only[A8,List.getD_eq_getElem?_getD,he]
         exact Er F4 OU this
       | const z=>exact Er (fr:=Ii f0 (Ch ops) vals (λj=>L.getD j false) ops.size) F4 OU hv
       | global g=>exact Er (fr:=Ii f0 (Ch ops) vals (λj=>L.getD j false) ops.size) F4 OU hv
       | func f=>exact Er (fr:=Ii f0 (Ch ops) vals (λj=>L.getD j false) ops.size) F4 OU hv
     have VS:Cv ops (Ii f0 (Ch ops) vals (λ_=>true) i) o=Region.wanted o (yielded ops a.tmps):=by
       refine Nl (c:=c) (w:=w) (λj want hg d hd=>⟨_,OU,?_⟩);refine R1 Hh hI.closed ho eZ XT ?_;unfold Oper.looksAt;rw[List.mem_append];right;rw[hg];simp[hd]
     have cD:Mj P ops o (wpAny P .any ops Q KE (L.setIfInBounds i true)) Q a w->wpOp P ops Q i (wpAny P .any ops Q KE (L.setIfInBounds i true)) a w:=by
       intro h;unfold wpOp;rw[ho];unfold Mj at h;simp only;split;rename_i hw;rw[if_pos hw] at h;exact .inl h;rename_i hw;rw[if_neg hw] at h;exact h
     refine cD ?_;by_cases hpe:i=p;subst hpe;refine ai5 o ho c w a _ _ F4 iH VS ?_;intro u w' c' Wh Mr hu;exact hQ _ _ _ ⟨c',hx.trans Wh,Mr,hI.defers,u,rfl,hu⟩;refine hl i o ho hpe hip c w a _ _ F4 iH VS ?_;intro u w' c' Wh Mr hu;refine ih _ _ _ ⟨by simp[hI.size],XO,⟨c',hx.trans Wh,Mr,?_⟩,by cases o.dst<;>exact hI.defers,?_⟩ aaQ
     rw[Za];exact Og (OU.mono Wh) hu;rw[qK p (λe=>hpe e.symm)];exact hI.out
def oL(hm:P.follows .mixedOrders=true){id:Nat}{B8:List AV}(Hh:L2 ops=true)(hp:p < ops.size)
   (hl:∀i o,ops[i]?=some o->i≠p->(p < i->RZ (Hz ops.toList []) i p=false)->Sound P G (.op ops o (Ii f0 (Ch ops) vals (λ_=>true) i) s0 (.ret (vals i)) s0))
   (ai5:∀o,ops[p]?=some o->Sound P G (.op ops o (Ii f0 (Ch ops) vals (λ_=>true) p) s0 (.IL v) s1)):Sound P G (.code (.region id ops true) f0 s0 (.IL v) B8 s1):=by
 intro cx w a Q hs hf hd hQ;refine wp_region_any hm ?_;obtain⟨x,st⟩:=hs.same (fW w)
 have gf:∀j,(Array.replicate ops.size false).getD j false=false:=by
   intro j;simp only[Array.getD_eq_getD_getElem?,Array.getElem?_replicate];split<;>simp
 refine aab Hh hp hl ai5 Q hQ ops.size _ a _ ⟨by simp,?_,⟨_,x,st,?_⟩,hd,gf p⟩ ?_;intro i o ho hL;exact absurd (show(Array.replicate ops.size false).getD i false=true from hL) (by rw[gf i];simp)
 . have:Ii f0 (Ch ops) vals (λj=>(Array.replicate ops.size false).getD j false) ops.size=f0:=by
     have key:∀n,Ii f0 (Ch ops) vals (λj=>(Array.replicate ops.size false).getD j false) n=f0:=by
       intro n
       induction n with
       | zero=>rfl
       | succ n ih =>
         simp only[Ii,ih];rw[if_neg];rw[gf n];simp
     exact key _
   rw[this];exact hf.mono x
 . have key:∀n,fZ (λj=>(Array.replicate ops.size false).getD j false) n=n:=by
     intro n
     induction n with
     | zero=>rfl
     | succ n ih =>
       simp only[fZ,ih,gf n];simp
   exact key _
end
end AI
namespace AI
open Go Go.RowKit
abbrev HS:=Option (List Hn×List Cd×List AV×AS)
def ahr(cd:List Cd):HS->HS
 | some (hs,cd',fr,s)=>some (hs,cd++cd',fr,s)
 | none=>none
abbrev HC:=Option (AX×List Hn×List Cd×List AV×AS)
def ZK(cd:List Cd):HC->HC
 | some (e,hs,cd',fr,s)=>some (e,hs,cd++cd',fr,s)
 | none=>none
def aeC(P:Program)(G:A6)(ops:Array Oper)(fr:List AV)(s:AS)(o:Oper):List Hn->HO
 | .p v s1::hs=>(match Cv ops fr o with
   | true=>(match T5 P G fr s o with
     | some (.ent f args)=>some (v,s1,hs,[.ahi f args s v s1])
     | some (.IL v')=>some (v',s,hs,[])
     | _=>none)
   | false=>none)
 | .q v pre tp QD tu::hs=>(match Cv ops fr o with
   | true=>(match T5 P G fr s o with
     | some (.ent f args)=>some (v,(s.VB QD).SN tu,hs,[.ET f args (.IL v) pre tp QD tu,.p5 (XH s pre) (N6 pre) (ZE s.F tp) (OH tp)])
     | _=>none)
   | false=>none)
 | _=>none
def aaH(P:Program)(G:A6)(ops:Array Oper):List Oper->List Hn->List AV->AS->HC
 | [],hs,fr,s=>some (.normal,hs,[],fr,s)
 | o::l,hs,fr,s=>(match aeC P G ops fr s o hs with
   | some (v,s1,Sl,cd)=>some (.IL v,Sl,cd,fr,s1)
   | none=>(match ZJ P G ops fr s o hs with
     | some (v,s1,Sl,cd)=>ZK cd (aaH P G ops l Sl (Ir fr o.dst v) s1)
     | none=>none))
def hP(P:Program)(G:A6)(ops:Array Oper):List Oper->List Hn->List AV->AS->HS
 | [],hs,fr,s=>some (hs,[],fr,s)
 | o::l,hs,fr,s=>(match hJ P G ops fr s o hs with
   | some (v,s1,Sl,cd)=>ahr cd (hP P G ops l Sl (Ir fr o.dst v) s1)
   | none=>none)
def steady(op:Op):Bool:=match quiet op with
 | true=>true
 | false=>(match op with
   | .call cl=>(match cl.callee with | .value _=>true | _=>false)
   | _=>false)
def Qw:List Oper->Bool
 | []=>true
 | o::l=>(match steady o.op with | true=>Qw l | false=>false)
def alh:HS->HC
 | some (hs,cd,fr,s)=>some (.normal,hs,cd,fr,s)
 | none=>none
def alg(P:Program)(G:A6)(ops:Array Oper)(hs:List Hn)(fr:List AV)(s:AS):HC:=match rsv P ops.toList with
 | some r=>(match hTr P G ops ops.toList s.nx hs fr (s.hold r) with
   | some (Cm,cd,t,B8,s')=>(match Lw G ops s.nx ops.toList t with
     | true=>(match WX P ops t s' s.nx r with
       | true=>some (.normal,Cm,cd,B8,s')
       | false=>none)
     | false=>none)
   | none=>none)
 | none=>none
def aaB(P:Program)(G:A6)(ops:Array Oper)(c:Nat)(hs:List Hn)(fr:List AV)(s:AS):HC:=match Nat.blt c ops.size with
 | true=>(match Un (Hz ops.toList []) c ops.toList 0 with
   | true=>(match uY P G ops c ops.toList 0 hs fr s with
     | some (Cm,cd,_,B8,s')=>some (.normal,Cm,cd,B8,s')
     | none=>none)
   | false=>none)
 | false=>none
def ahn(P:Program)(G:A6)(ops:Array Oper)(hs:List Hn)(fr:List AV)(s:AS):HC:=match uW P G ops ops.toList hs fr s with
 | some (Cm,cd,t,Ts,B8,s')=>(match jR G ops (Hz ops.toList []) Ts ops.toList t 0 with
   | true=>some (.normal,Cm,cd,B8,s')
   | false=>none)
 | none=>none
abbrev HQ:=Option (List AV×List Hn×List Cd×Option (AV×AS))
def cJ(v:AV)(cd:List Cd):HQ->HQ
 | some (vs,hs,uI,r)=>some (v::vs,hs,cd++uI,r)
 | none=>none
def ahy(r:AV×AS)(cd:List Cd):HQ->HQ
 | some (vs,hs,uI,none)=>some (.sc undef::vs,hs,cd++uI,some r)
 | _=>none
def behind(ms:List Nat)(p i:Nat):Bool:=match Nat.blt p i with
 | true=>RZ ms i p
 | false=>false
def XM(P:Program)(G:A6)(ops:Array Oper)(ms:List Nat)(p:Nat)(s:AS):List Oper->Nat->List Hn->List AV->HQ
 | [],_,hs,_=>some ([],hs,[],none)
 | o::l,i,hs,fr=>(match Nat.beq i p with
   | true=>(match aeC P G ops fr s o hs with
     | some (v,s2,fC,cd)=>ahy (v,s2) cd (XM P G ops ms p s l (i+1) fC (Ir fr o.dst (.sc undef)))
     | none=>none)
   | false=>(match behind ms p i with
     | true=>cJ (.sc undef) [] (XM P G ops ms p s l (i+1) hs (Ir fr o.dst (.sc undef)))
     | false=>(match steady o.op with
       | true=>(match hJ P G ops fr s o hs with
         | some (v,_,fC,cd)=>cJ v cd (XM P G ops ms p s l (i+1) fC (Ir fr o.dst v))
         | none=>none)
       | false=>none)))
def aaJ(P:Program)(G:A6)(ops:Array Oper)(p:Nat)(hs:List Hn)(fr:List AV)(s:AS):HC:=match XM P G ops (Hz ops.toList []) p s ops.toList 0 hs fr with
 | some (_,fC,cd,some (v,s2))=>some (.IL v,fC,cd,fr,s2)
 | _=>none
def ahp(P:Program)(G:A6)(ops:Array Oper)(fr:List AV)(s:AS):List Hn->HC
 | .zq p::hs=>aaJ P G ops p hs fr s
 | .z c::hs=>aaB P G ops c hs fr s
 | .za::hs=>ahn P G ops hs fr s
 | hs=>(match Qw ops.toList with
   | true=>alh (hP P G ops ops.toList hs fr s)
   | false=>alg P G ops hs fr s)
def aaL(P:Program)(G:A6)(ops:Array Oper)(d:Bool)(hs:List Hn)(fr:List AV)(s:AS):HC:=match d with
 | false=>aaH P G ops ops.toList hs fr s
 | true=>(match L2 ops with
   | true=>ahp P G ops fr s hs
   | false=>none)
def MC(P:Program)(G:A6):Code->List Hn->List AV->AS->HC
 | .skip,hs,fr,s=>some (.normal,hs,[],fr,s)
 | .exit id,hs,fr,s=>some (.exit id,hs,[],fr,s)
 | .ret,hs,fr,s=>some (.ret,hs,[],fr,s)
 | .seq x y,hs,fr,s=>(match MC P G x hs fr s with
   | some (.normal,Sl,cd,U9,s1)=>ZK cd (MC P G y Sl U9 s1)
   | r=>r)
 | .cond q x y,hs,fr,s=>(match AW G fr q with
   | some (.sc (.bool true))=>MC P G x hs fr s
   | some (.sc (.bool false))=>MC P G y hs fr s
   | _=>none)
 | .block id c,hs,fr,s=>(match MC P G c hs fr s with
   | some (e,Sl,cd,U9,s1)=>some (EL id e,Sl,cd,U9,s1)
   | none=>none)
 | .region _ ops d,hs,fr,s=>(match hs with
   | .n l::hs=>(match nzs l fr s with
     | some (fr2,s2)=>aaL P G ops d hs fr2 s2
     | none=>none)
   | .f id b b2::hs=>(match look id s.h with
     | some b0=>ZK [.p5 [some b0] [some b] [] [],.rd s.nr b b2] (aaL P G ops d hs fr ⟨QU id b2 s.h,s.nx,(s.nr,0)::s.F,s.nr+1⟩)
     | none=>none)
   | hs=>aaL P G ops d hs fr s)
 | _,_,_,_=>none
section
variable {P:Program} {G:A6} {ops:Array Oper}
def qL{fr:List AV}{s s1:AS}{o:Oper}{hs Cm:List Hn}{v:AV}{cd:List Cd}(h:aeC P G ops fr s o hs=some (v,s1,Cm,cd))(hc:QX P G cd):J P G (XS P G) H0 (.op ops o fr s (.IL v) s1):=by
 unfold aeC at h;split at h;rw[ML] at h;split at h;rename_i hw;split at h;rename_i h1;cases h;exact .RG hw h1 (.ext hc.1);rename_i h1;cases h;exact .ahN hw h1;cases h;cases h;rw[ML] at h;split at h;rename_i hw;split at h;rename_i h1;cases h;exact .RG hw h1 (.ext (hc.1 s hc.2.1.1 hc.2.1.2));cases h;cases h;cases h
def aeA{l:List Oper}{k:Nat}(hk:l=ops.toList.drop k){hs Cm:List Hn}{fr B8:List AV}{s s':AS}{e:AX}{cd:List Cd}(h:aaH P G ops l hs fr s=some (e,Cm,cd,B8,s'))(hc:QX P G cd):J P G (XS P G) H0 (.ops ops (List.range' k l.length) fr s e B8 s'):=by
 induction l generalizing k hs fr s cd with
 | nil=>simp only[aaH] at h;cases h;exact .abQ
 | cons o l ih =>
   obtain⟨k1,k2⟩:=drop_cons hk;simp only[aaH] at h;split at h;rename_i v s1 Sl xG h1;cases h;rw[List.length_cons,List.range'_succ];exact .abR (by rw[<- Array.getElem?_toList];exact k1) (qL h1 hc);split at h;rename_i v s1 Sl xG h1;unfold ZK at h;split at h;rename_i e2 fC uI fr2 s2 h2;cases h;obtain⟨c1,c2⟩:=hc.TU;rw[List.length_cons,List.range'_succ];exact .rV (by rw[<- Array.getElem?_toList];exact k1) (OT h1 c1) (ih k2 h2 c2);cases h;cases h
def aeB{l:List Oper}{q:Nat}(F4:Qw l=true){hs Cm:List Hn}{fr B8:List AV}{s s':AS}{cd:List Cd}(h:hP P G ops l hs fr s=some (Cm,cd,B8,s'))(hc:QX P G cd):s'=s/\∃t,Se P G (XS P G) H0 ops q l fr s t B8 s/\∀x∈t,x.2.1=s:=by
 induction l generalizing hs fr cd s with
 | nil=>simp only[hP] at h;cases h;exact⟨rfl,[],.nil,λx hx=>by cases hx⟩
 | cons o l ih =>
   simp only[Qw] at F4;split at F4
   . rename_i Y3
     simp only[hP] at h;split at h
     . rename_i v s1 Sl xG h1
       unfold ahr at h;split at h
       . rename_i fC uI fr2 s2 h2
         cases h;obtain⟨c1,c2⟩:=hc.TU;obtain⟨h1,hA⟩:=R2 h1;have hj:=OT h1 c1
         have lT:BY o.op=false:=by
           cases ha:BY o.op with
           | false=>rfl
           | true=>obtain⟨e,he⟩:=Km ha;rw[he] at Y3;simp[steady,quiet] at Y3
         have Sl:s1=s:=by
           cases hq:quiet o.op with
           | true=>exact(JL hq hj).1
           | false =>
             unfold steady at Y3;rw[hq] at Y3;simp only at Y3;split at Y3;rename_i cl iF;split at Y3;rename_i f Ih;unfold ZJ at h1;split at h1;unfold uU at h1;rw[iF] at h1;simp only[Ih] at h1;unfold XK at h1;split at h1;split at h1;cases h1;rfl;cases h1;have:=hA (by rw[iF];simp[Nw,Ih]);simp[cP] at this;have:=hA (by rw[iF];simp[Nw,Ih]);simp[cP] at this;have:=hA (by rw[iF];simp[Nw,Ih]);simp[cP] at this;cases h1;cases h1;rfl;cases Y3;cases Y3
         subst Sl;obtain⟨e,t,ht,JS⟩:=ih F4 h2 c2;subst e
         exact⟨rfl,_,.cons lT hj ht,λx hx=>by
           rcases List.mem_cons.1 hx with rfl | hx
           rfl;exact JS x hx⟩
       cases h
     cases h
   cases F4
def Vw{l:List Oper}(F4:Qw l=true){i:Nat}{o:Oper}(ho:l[i]?=some o):steady o.op=true:=by
 induction l generalizing i with
 | nil=>simp at ho
 | cons x l ih =>
   simp only[Qw] at F4;split at F4;rename_i Y3;cases i with
   | zero=>simp at ho;subst ho;exact Y3
   | succ i=>exact ih F4 (by simpa using ho)
   cases F4
def mM{X:Wb}{H:S0}{id:Nat}{fr B8:List AV}{s:AS}{t:List (List AV×AS×AV)}(Hh:L2 ops=true)(F4:Qw ops.toList=true)(h:Se P G X H ops s.nx ops.toList fr s t B8 s)(JS:∀x∈t,x.2.1=s):J P G X H (.code (.region id ops true) fr s .normal B8 s):=by
 have hlen:t.length=ops.size:=by rw[h.len,Array.length_toList]
 obtain⟨h0,Tb⟩:=h.at
 have hsa:∀i,FD t s i=s:=by
   intro i;unfold FD;split;rename_i x hx;exact JS x (List.mem_of_getElem? hx);rfl
 have nE:∀i o,ops[i]?=some o->Ch ops i=o.dst:=λi o ho=>by unfold Ch;rw[ho];rfl
 obtain⟨Ve,XP⟩:=h.cB (Ch ops) (J8 t) fr 0 rfl (λi o ho=>by rw[Nat.zero_add];exact nE i o (by rw[<- Array.getElem?_toList];exact ho)) (λi=>.inl (by rw[Nat.zero_add]));rw[Nat.zero_add,Array.length_toList] at Ve
 have lT:∀(i:Nat) (o:Oper),ops[i]?=some o->BY o.op=false:=by
   intro i o ho;have:=Vw F4 (Cf ho);cases ha:BY o.op with
   | false=>rfl
   | true=>obtain⟨e,he⟩:=Km ha;rw[he] at this;simp[steady,quiet] at this
 have hj:∀i o,ops[i]?=some o->J P G X H (.op ops o (Ii fr (Ch ops) (J8 t) (λ_=>true) i) s (.ret (J8 t i)) s):=by
   intro i o ho;obtain⟨fi,h1,h2⟩:=Tb i o (Cf ho);have:=XP i _ h1;simp only[Nat.zero_add] at this;rcases h2 with ⟨_,h2⟩ | ⟨h2,_⟩
   rw[<- this];rw[hsa,hsa] at h2;exact h2;rw[lT i o ho] at h2;cases h2
 have key:=J.draw (P:=P) (G:=G) (X:=X) (H:=H) (id:=id) (f0:=fr) (s0:=s) [] (J8 t) (λ_=>s) rfl Hh (λi o ho _=>hj i o ho) (λi o ho hq=>⟨rfl,by
   obtain⟨_,h2⟩:=JL hq (hj i o ho);rcases h2 with h2 | ⟨hw,h2⟩
   exact .inl h2;exact .inr ⟨hw,λk _ _=>h2⟩⟩) (λi o e ho he=>by have:=lT i o ho;rw[he] at this;cases this)
 rw[<- Ve] at key;exact key
def hO{fr:List AV}{s s1:AS}{o:Oper}{hs Sl:List Hn}{v:AV}{cd:List Cd}(Y3:steady o.op=true)(h:hJ P G ops fr s o hs=some (v,s1,Sl,cd))(hc:QX P G cd):J P G (XS P G) H0 (.op ops o fr s (.ret v) s):=by
 obtain⟨h1,hA⟩:=R2 h;have hj:=OT h1 hc
 have Sl:s1=s:=by
   cases hq:quiet o.op with
   | true=>exact(JL hq hj).1
   | false =>
     unfold steady at Y3;rw[hq] at Y3;simp only at Y3;split at Y3;rename_i cl iF;split at Y3;rename_i f Ih;unfold ZJ at h1;split at h1;unfold uU at h1;rw[iF] at h1;simp only[Ih] at h1;unfold XK at h1;split at h1;split at h1;cases h1;rfl;cases h1;have:=hA (by rw[iF];simp[Nw,Ih]);simp[cP] at this;have:=hA (by rw[iF];simp[Nw,Ih]);simp[cP] at this;have:=hA (by rw[iF];simp[Nw,Ih]);simp[cP] at this;cases h1;cases h1;rfl;cases Y3;cases Y3
 rw[Sl] at hj;exact hj
def aaq{f0:List AV}{dst:Nat->Option Tmp}{vals:Nat->AV}{k:Nat}:Ii f0 dst vals (λ_=>true) (k+1)=Ir (Ii f0 dst vals (λ_=>true) k) (dst k) (vals k):=by
 simp only[Ii,if_true]
def aaI{p:Nat}{s:AS}{f0:List AV}{vals:Nat->AV}:∀{l:List Oper} {i:Nat} {hs Cm:List Hn} {fr:List AV} {vs:List AV} {cd:List Cd} {r:Option (AV×AS)},XM P G ops (Hz ops.toList []) p s l i hs fr=some (vs,Cm,cd,r)->l=ops.toList.drop i->QX P G cd->fr=Ii f0 (Ch ops) vals (λ_=>true) i->(∀j,vals (i+j)=vs.getD j (.sc undef)) ->
   (∀j o,i<=j->ops[j]?=some o->j≠p->(p < j->RZ (Hz ops.toList []) j p=false)->J P G (XS P G) H0 (.op ops o (Ii f0 (Ch ops) vals (λ_=>true) j) s (.ret (vals j)) s)) /\
   (i<=p->∀v s2,r=some (v,s2)->∃o,ops[p]?=some o/\J P G (XS P G) H0 (.op ops o (Ii f0 (Ch ops) vals (λ_=>true) p) s (.IL v) s2))/\(p < i->r=none):=by
 intro l
 induction l with
 | nil =>
   intro i hs Cm fr vs cd r h hl hc OU hv;simp only[XM] at h;cases h
   have Oo:ops.size<=i:=by
     have:=congrArg List.length hl;simp only[List.length_nil,List.length_drop,Array.length_toList] at this;omega
   exact⟨λj o hj ho=>by have:=(Array.getElem?_eq_some_iff.1 ho).1;omega,(λ_ v s2 e=>by cases e),λ_=>rfl⟩
 | cons o l ih =>
   intro i hs Cm fr vs cd r h hl hc OU hv;obtain⟨k1,k2⟩:=drop_cons hl;have ho:ops[i]?=some o:=by rw[<- Array.getElem?_toList];exact k1
   have hd:Ch ops i=o.dst:=by unfold Ch;rw[ho];rfl
   have next:∀{v0:AV} {vs2:List AV},vs=v0::vs2->vals i=v0/\Ir fr o.dst v0=Ii f0 (Ch ops) vals (λ_=>true) (i+1)/\∀j,vals (i+1+j)=vs2.getD j (.sc undef):=by
     intro v0 vs2 e;subst e;have h0:vals i=v0:=by have:=hv 0;simpa using this
     refine⟨h0,?_,λj=>?_⟩;rw[aaq,hd,h0,OU];have:=hv (j+1);rw[show i+1+j=i+(j+1) by omega,this];simp
   simp only[XM] at h;split at h
   . rename_i hb
     have hip:=Nat.eq_of_beq_eq_true hb;split at h
     . rename_i v s2 fC xG h1
       unfold ahy at h;split at h
       . rename_i vs2 hs3 uI h2
         cases h;obtain⟨c1,c2⟩:=hc.TU;obtain⟨n1,n2,n3⟩:=next rfl
         obtain⟨q1,q2,q3⟩:=ih h2 k2 c2 n2 n3;refine⟨λj o' hj VQ hjp u6=>?_,λ_ v' s2' e=>?_,λh=>by omega⟩;exact q1 j o' (by omega) VQ hjp u6;cases e;refine⟨o,hip▸ho,?_⟩;have:=qL h1 c1;rw[OU,hip] at this;exact this
       cases h
     cases h
   . rename_i hb
     have hip:=Nat.ne_of_beq_eq_false hb;split at h
     . rename_i hbe
       unfold cJ at h;split at h
       . rename_i vs2 hs3 uI r2 h2
         cases h;obtain⟨n1,n2,n3⟩:=next rfl
         obtain⟨q1,q2,q3⟩:=ih h2 k2 hc n2 n3;unfold behind at hbe;split at hbe;rename_i GI;have GI:p < i:=Nat.le_of_ble_eq_true GI;refine⟨λj o' hj VQ hjp u6=>?_,λh=>by omega,λ_=>q3 (by omega)⟩;by_cases e:j=i;subst e;rw[u6 GI] at hbe;cases hbe;exact q1 j o' (by omega) VQ hjp u6;cases hbe
       cases h
     . split at h
       . rename_i F4
         split at h
         . rename_i v s1 fC xG h1
           unfold cJ at h;split at h
           . rename_i vs2 hs3 uI r2 h2
             cases h;obtain⟨c1,c2⟩:=hc.TU;obtain⟨n1,n2,n3⟩:=next rfl
             obtain⟨q1,q2,q3⟩:=ih h2 k2 c2 n2 n3;refine⟨λj o' hj VQ hjp u6=>?_,λh v' s2' e=>q2 (by omega) v' s2' e,λh=>q3 (by omega)⟩;by_cases e:j=i;subst e;rw[ho] at VQ;cases VQ;have:=hO F4 h1 c1;rw[OU] at this;rw[n1];exact this;exact q1 j o' (by omega) VQ hjp u6
           cases h
         cases h
       cases h
def aaK{id p:Nat}(Hh:L2 ops=true){hs Cm:List Hn}{fr B8:List AV}{s s':AS}{e:AX}{cd:List Cd}(h:aaJ P G ops p hs fr s=some (e,Cm,cd,B8,s'))(hc:QX P G cd):J P G (XS P G) H0 (.code (.region id ops true) fr s e B8 s'):=by
 unfold aaJ at h;split at h;rename_i vs fC xG v s2 h1;cases h;obtain⟨q1,q2,_⟩:=aaI (f0:=fr) (vals:=λj=>vs.getD j (.sc undef)) h1 rfl hc rfl (λj=>by rw[Nat.zero_add]);obtain⟨o,ho,hj⟩:=q2 (Nat.zero_le _) _ _ rfl;refine .sem λhm=>oL (vals:=λj=>vs.getD j (.sc undef)) hm Hh (Array.getElem?_eq_some_iff.1 ho).1 (λi o' VQ hi hd=>sound (Rz hm) (q1 i o' (Nat.zero_le _) VQ hi hd)) (λo' VQ=>?_);rw[ho] at VQ;cases VQ;exact sound (Rz hm) hj;cases h
def cF{ops:Array Oper}{id:Nat}{d:Bool}{hs Cm:List Hn}{fr B8:List AV}{s s':AS}{e:AX}{cd:List Cd}(h:aaL P G ops d hs fr s=some (e,Cm,cd,B8,s'))(hc:QX P G cd):J P G (XS P G) H0 (.code (.region id ops d) fr s e B8 s'):=by
 unfold aaL at h;cases d with
 | false =>
   simp only at h;have:=aeA (ops:=ops) (k:=0) (by simp) h hc;refine .region ?_;rw[Array.length_toList] at this;rw[List.range_eq_range'];exact this
 | true =>
   simp only at h;split at h;rename_i Hh;unfold ahp at h;split at h;exact aaK Hh h hc;unfold aaB at h;split at h;rename_i Vd;split at h;rename_i hl;split at h;rename_i Pd;cases h;exact uO Hh Vd hl Pd hc;cases h;cases h;cases h;unfold ahn at h;split at h;rename_i Pd;split at h;rename_i hrd;cases h;exact z7 Hh Pd hrd hc;cases h;cases h;split at h;rename_i F4;unfold alh at h;split at h;rename_i h1;cases h;obtain⟨e,t,ht,JS⟩:=aeB (q:=s.nx) F4 h1 hc;subst e;exact mM Hh F4 ht JS;cases h;unfold alg at h;split at h;rename_i r hr;split at h;rename_i Sl xG t U9 s1 vB;split at h;rename_i hi;split at h;rename_i aa5;cases h;exact aaa Hh hr vB hc hi aa5;cases h;cases h;cases h;cases h;cases h
def aaA(c:Code){hs Cm:List Hn}{fr B8:List AV}{s s':AS}{e:AX}{cd:List Cd}(h:MC P G c hs fr s=some (e,Cm,cd,B8,s'))(hc:QX P G cd):J P G (XS P G) H0 (.code c fr s e B8 s'):=by
 induction c generalizing hs Cm fr B8 s s' e cd with
 | skip=>simp only[MC] at h;cases h;exact .skip
 | exit id=>simp only[MC] at h;cases h;exact .exit
 | ret=>simp only[MC] at h;cases h;exact .ret
 | seq x y ihx ihy =>
   simp only[MC] at h;cases hx:MC P G x hs fr s with
   | none=>rw[hx] at h;cases h
   | some r =>
     obtain⟨e1,Sl,xG,U9,s1⟩:=r;rw[hx] at h;cases e1 with
     | normal =>
       simp only at h;unfold ZK at h;split at h;rename_i e2 fC uI fr2 s2 h2;cases h;obtain⟨c1,c2⟩:=hc.TU;exact .seq (ihx hx c1) (ihy h2 c2);cases h
     | exit id=>simp only at h;cases h;exact .oU (ihx hx hc) (by simp)
     | ret=>simp only at h;cases h;exact .oU (ihx hx hc) (by simp)
     | IL v=>simp only at h;cases h;exact .oU (ihx hx hc) (by simp)
 | cond q x y ihx ihy =>
   simp only[MC,Cs] at h;split at h;rename_i hq;exact .cond hq (ihx h hc);rename_i hq;exact .cond hq (ihy h hc);cases h
 | block id c ih =>
   simp only[MC] at h;split at h;rename_i h1;cases h;exact .block (ih h1 hc);cases h
 | region id ops d =>
   simp only[MC] at h;split at h;split at h;rename_i hz;exact .YR (λcx w vs h1 h2=>n9 hz cx w vs h1 h2) (cF h hc);cases h;split at h;rename_i b0 hb;unfold ZK at h;split at h;rename_i h1;cases h;obtain⟨c1,c2⟩:=hc.TU;refine .YR (λcx w vs hs hf=>?_) (cF h1 c2);have lR:b0=_:=Option.some.inj (List.cons.inj c1.1.1).1;subst lR;obtain⟨x,st⟩:=hs.tok;exact⟨_,x,st.oK hb (λo ho=>c1.2.1 _ _ _ (by simp[hs.Ix]) ho),hf.mono x⟩;cases h;cases h;exact cF h hc
 | _=>simp only[MC] at h;cases h
def R3:Code->Bool
 | .loop _=>true
 | .seq x y=>R3 x||R3 y
 | .cond _ x y=>R3 x||R3 y
 | .block _ c=>R3 c
 | _=>false
abbrev HP:=Option (Code×List Hn×List Cd×List AV×AS)
end
end AI
namespace AI
open Go Go.RowKit
structure PC(P:Program)(G:A6) where
 hn:Hn
 cd:List Cd
 ok:QX P G cd
def pHs{P:Program}{G:A6}:List (PC P G)->List Hn
 | []=>[]
 | p::l=>p.hn::pHs l
def fF{P:Program}{G:A6}:List (PC P G)->List Cd
 | []=>[]
 | p::l=>p.cd++fF l
def QX.join{P:Program}{G:A6}{l m:List Cd}(h:QX P G l)(k:QX P G m):QX P G (l++m):=by
 induction l with
 | nil=>exact k
 | cons c l ih=>exact⟨h.1,ih h.2⟩
def NE{P:Program}{G:A6}(l:List (PC P G)):QX P G (fF l):=by
 induction l with
 | nil=>trivial
 | cons p l ih=>exact p.ok.join ih
inductive KI where
 | code (c:Code)
 | mQ (id:Nat)
def D8(P:Program)(G:A6):List KI->(AX->List AV->AS->Prop)->AX->List AV->AS->Prop
 | [],Q=>Q
 | .code k::ks,Q=>ah2 P G (XS P G) H0 k (D8 P G ks Q)
 | .mQ id::ks,Q=>EC id (D8 P G ks Q)
inductive Sq where
 | at (id:Nat) (c:Code) (ks:List KI)
 | fin (e:AX)
abbrev HR:=Option (Sq×List Hn×List Cd×List AV×AS)
def aaG(cd:List Cd):HR->HR
 | some (c,hs,cd',fr,s)=>some (c,hs,cd++cd',fr,s)
 | none=>none
def Q3(r:Code->List KI->List Hn->List AV->AS->HR):List KI->AX->List Hn->List AV->AS->HR
 | [],e,hs,fr,s=>some (.fin e,hs,[],fr,s)
 | .code k::ks,.normal,hs,fr,s=>r k ks hs fr s
 | .code _::ks,e,hs,fr,s=>Q3 r ks e hs fr s
 | .mQ id::ks,.exit QO,hs,fr,s=>(match Nat.beq QO id with
   | true=>Q3 r ks .normal hs fr s
   | false=>Q3 r ks (.exit QO) hs fr s)
 | .mQ _::ks,e,hs,fr,s=>Q3 r ks e hs fr s
def Sk(P:Program)(G:A6):Nat->Code->List KI->List Hn->List AV->AS->HR
 | 0,_,_,_,_,_=>none
 | n+1,c,ks,hs,fr,s=>(match R3 c with
   | false=>(match MC P G c hs fr s with
     | some (e,Sl,cd,U9,s1)=>aaG cd (Q3 (Sk P G n) ks e Sl U9 s1)
     | none=>none)
   | true=>(match c with
     | .seq x y=>Sk P G n x (.code y::ks) hs fr s
     | .block id (.loop c)=>some (.at id c ks,hs,[],fr,s)
     | .block id c=>Sk P G n c (.mQ id::ks) hs fr s
     | .cond q x y=>(match AW G fr q with
       | some (.sc (.bool true))=>Sk P G n x ks hs fr s
       | some (.sc (.bool false))=>Sk P G n y ks hs fr s
       | _=>none)
     | _=>none))
section
variable {P:Program} {G:A6}
def SqQ(P:Program)(G:A6)(Q:AX->List AV->AS->Prop)(fr:List AV)(s:AS):Sq->Prop
 | .at id c ks=>WL P G (XS P G) H0 c fr s (EC id (D8 P G ks Q))
 | .fin e=>Q e fr s
def NY{k:Code}{ks:List KI}{Q:AX->List AV->AS->Prop}{e:AX}{fr:List AV}{s:AS}(he:e≠.normal)(h:D8 P G ks Q e fr s):D8 P G (.code k::ks) Q e fr s:=by
 cases e with
 | normal=>exact absurd rfl he
 | exit id=>exact h
 | ret=>exact h
 | IL v=>exact h
def cE{r:Code->List KI->List Hn->List AV->AS->HR}{Q:AX->List AV->AS->Prop}
   (hr:∀(c:Code) (ks:List KI) {sp:Sq} {hs Cm:List Hn} {fr B8:List AV} {s s':AS} {cd:List Cd},r c ks hs fr s=some (sp,Cm,cd,B8,s')->QX P G cd->SqQ P G Q B8 s' sp->W P G (XS P G) H0 c fr s (D8 P G ks Q)) :
   ∀(ks:List KI) (e:AX) {sp:Sq} {hs Cm:List Hn} {fr B8:List AV} {s s':AS} {cd:List Cd},Q3 r ks e hs fr s=some (sp,Cm,cd,B8,s')->QX P G cd->SqQ P G Q B8 s' sp->D8 P G ks Q e fr s:=by
 intro ks
 induction ks with
 | nil=>intro e sp hs Cm fr B8 s s' cd h hc hk;simp only[Q3] at h;cases h;exact hk
 | cons k ks ih =>
   intro e sp hs Cm fr B8 s s' cd h hc hk;cases k with
   | code c =>
     cases e with
     | normal=>simp only[Q3] at h;exact hr c ks h hc hk
     | exit id=>simp only[Q3] at h;exact NY (by simp) (ih _ h hc hk)
     | ret=>simp only[Q3] at h;exact NY (by simp) (ih _ h hc hk)
     | IL v=>simp only[Q3] at h;exact NY (by simp) (ih _ h hc hk)
   | mQ id =>
     show D8 P G ks Q (EL id e) fr s;cases e with
     | normal=>simp only[Q3] at h;exact ih _ h hc hk
     | ret=>simp only[Q3] at h;exact ih _ h hc hk
     | IL v=>simp only[Q3] at h;exact ih _ h hc hk
     | exit QO =>
       simp only[Q3] at h;split at h;rename_i hb;have:=beq_true hb;subst this;have e1:EL QO (.exit QO)=.normal:=by simp[EL]
       rw[e1];exact ih _ h hc hk;rename_i hb;have:=beq_false hb;have e1:EL id (.exit QO)=.exit QO:=by simp[EL,this]
       rw[e1];exact ih _ h hc hk
def cG{Q:AX->List AV->AS->Prop}:∀(n:Nat) (c:Code) (ks:List KI) {sp:Sq} {hs Cm:List Hn} {fr B8:List AV} {s s':AS} {cd:List Cd},Sk P G n c ks hs fr s=some (sp,Cm,cd,B8,s')->QX P G cd->SqQ P G Q B8 s' sp->W P G (XS P G) H0 c fr s (D8 P G ks Q):=by
 intro n
 induction n with
 | zero=>intro c ks sp hs Cm fr B8 s s' cd h;simp only[Sk] at h;cases h
 | succ n ih =>
   intro c ks sp hs Cm fr B8 s s' cd h hc hk;simp only[Sk] at h;split at h;split at h;rename_i e Sl xG U9 s1 h1;unfold aaG at h;split at h;rename_i h2;cases h;obtain⟨c1,c2⟩:=hc.TU;exact⟨_,_,_,aaA c h1 c1,cE ih ks e h2 c2 hk⟩;cases h;cases h;split at h;exact akN (ih _ _ h hc hk);cases h;exact pL (aik hk);exact pL (ih _ _ h hc hk);rw[Cs] at h;split at h;rename_i hq;exact ad1 hq (ih _ _ h hc hk);rename_i hq;exact ad0 hq (ih _ _ h hc hk);cases h;cases h
end
end AI
namespace AI
open Go Go.RowKit
def sub:Code->List Nat->Code
 | c,[]=>c
 | .seq x _,0::l=>sub x l
 | .seq _ y,_::l=>sub y l
 | .cond _ x _,0::l=>sub x l
 | .cond _ _ y,_::l=>sub y l
 | .block _ c,_::l=>sub c l
 | .loop c,_::l=>sub c l
 | c,_=>c
def Bj(fn:Func):Code:=fn.body.getD .skip
def obv(n:Nat):AV->Bool
 | .sc _=>true
 | .any=>true
 | .ptr id _=>Nat.blt id n
 | .mp id=>Nat.blt id n
 | .ID id _ _=>Nat.blt id n
 | _=>false
def abN{n m:Nat}{a:AV}(h:obv n a=true):Fits n m a a:=by
 refine .under ?_;cases a<;>simp only[obv] at h<;>first | rfl | (cases h;done) | exact decide_eq_true (Nat.le_of_ble_eq_true h)
structure FP(n m:Nat) where
 a:AV
 b:AV
 h:Fits n m a b
structure FB(n m:Nat) where
 a:AL
 b:AL
 h:QJ n m a b
def eY{n m:Nat}:List (FP n m)->List AV
 | []=>[]
 | p::l=>p.a::eY l
def Y0{n m:Nat}:List (FP n m)->List AV
 | []=>[]
 | p::l=>p.b::Y0 l
def fbA{n m:Nat}:List (FB n m)->List AL
 | []=>[]
 | p::l=>p.a::fbA l
def fbB{n m:Nat}:List (FB n m)->List AL
 | []=>[]
 | p::l=>p.b::fbB l
abbrev MR:=Option (List AV×List AV)
def ZW(b:AV):MR->MR
 | some (l,as)=>some (b::l,as)
 | none=>none
def abv(a b:AV):MR->MR
 | some (l,as)=>some (b::l,a::as)
 | none=>none
def abw(r:List AV->MR)(n:Nat)(a:AV)(bs:List AV):MR:=match obv n a with
 | true=>ZW a (r bs)
 | false=>none
def ae9(r:List AV->MR)(a:AV):List AV->MR
 | b::bs=>abv a b (r bs)
 | []=>none
def ZX(r:List AV->MR)(a:AV)(bs:List AV):MR:=match Ub a with
 | true=>ZW .any (r bs)
 | false=>none
def Zg(n:Nat):List AV->Nat->List Nat->List AV->MR
 | [],_,_,[]=>some ([],[])
 | [],_,_,_::_=>none
 | a::l,i,[],bs=>ZX (Zg n l (i+2) []) a bs
 | a::l,i,t::ts,bs=>(match Nat.beq t i with
   | true=>abw (Zg n l (i+2) ts) n a bs
   | false=>(match Nat.beq t (i+1) with
     | true=>ae9 (Zg n l (i+2) ts) a bs
     | false=>ZX (Zg n l (i+2) (t::ts)) a bs))
section
variable {n m:Nat} {r:List AV->MR} {l:List AV} (hr:∀(KD:List (FP n m)) l2,r (Y0 KD)=some (l2,eY KD)->Jf n m l l2) {a:AV} {KD:List (FP n m)} {l2:List AV}
include hr
def abx(h:abw r n a (Y0 KD)=some (l2,eY KD)):Jf n m (a::l) l2:=by
 unfold abw at h;split at h;rename_i ho;unfold ZW at h;split at h;rename_i l3 as h1;cases h;exact .cons (abN ho) (hr KD _ h1);cases h;cases h
def rH(h:ae9 r a (Y0 KD)=some (l2,eY KD)):Jf n m (a::l) l2:=by
 cases KD with
 | nil=>cases h
 | cons p KD =>
   simp only[Y0,ae9] at h;unfold abv at h;split at h;rename_i l3 as h1;simp only[eY,Option.some.injEq,Prod.mk.injEq,List.cons.injEq] at h;obtain⟨rfl,rfl,rfl⟩:=h;exact .cons p.h (hr KD _ h1);cases h
def Uq(h:ZX r a (Y0 KD)=some (l2,eY KD)):Jf n m (a::l) l2:=by
 unfold ZX at h;split at h;rename_i hd;unfold ZW at h;split at h;rename_i l3 as h1;cases h;exact .cons (.drop hd) (hr KD _ h1);cases h;cases h
end
def afd{n m:Nat}:∀{l:List AV} {i:Nat} {ts:List Nat} {KD:List (FP n m)} {l2:List AV},Zg n l i ts (Y0 KD)=some (l2,eY KD)->Jf n m l l2:=by
 intro l
 induction l with
 | nil =>
   intro i ts KD l2 h;cases KD with
   | nil=>simp only[Y0,Zg] at h;cases h;exact .nil
   | cons p KD=>simp only[Y0,Zg] at h;cases h
 | cons a l ih =>
   intro i ts KD l2 h;cases ts with
   | nil=>simp only[Zg] at h;exact Uq (λKD l2 h=>ih h) h
   | cons t ts =>
     simp only[Zg] at h;split at h;exact abx (λKD l2 h=>ih h) h;split at h;exact rH (λKD l2 h=>ih h) h;exact Uq (λKD l2 h=>ih h) h
abbrev BR:=Option (List (Nat×AL)×List AL)
def ahd(id:Nat)(a b:AL):BR->BR
 | some (l,as)=>some ((id,b)::l,a::as)
 | none=>none
def mE:List (Nat×AL)->List AL->BR
 | [],[]=>some ([],[])
 | e::l,b::bs=>ahd e.1 e.2 b (mE l bs)
 | _,_=>none
def ad7{n m:Nat}:∀{l:List (Nat×AL)} {P9:List (FB n m)} {l2:List (Nat×AL)},mE l (fbB P9)=some (l2,fbA P9)->(∀k,Je l k->Je l2 k)/\∀id b,look id l2=some b->∃b',look id l=some b'/\QJ n m b' b:=by
 intro l
 induction l with
 | nil =>
   intro P9 l2 h;cases P9 with
   | nil=>simp only[fbB,mE] at h;cases h;exact⟨λ_ _=>trivial,λid b h=>by cases h⟩
   | cons p P9=>simp only[fbB,mE] at h;cases h
 | cons e l ih =>
   intro P9 l2 h;cases P9 with
   | nil=>simp only[fbB,mE] at h;cases h
   | cons p P9 =>
     simp only[fbB,mE] at h;unfold ahd at h;split at h;rename_i l3 as h1;simp only[fbA,Option.some.injEq,Prod.mk.injEq,List.cons.injEq] at h;obtain⟨rfl,h2,rfl⟩:=h;obtain⟨hd,hl⟩:=ih h1;refine⟨λk hk=>⟨hk.1,hd _ hk.2⟩,λid b hb=>?_⟩;simp only[look] at hb ⊢;split at hb;cases hb;exact⟨e.2,rfl,by rw[h2];exact p.h⟩;exact hl id b hb;cases h
def VM(m:Nat):List (Nat×Nat)->List (Nat×Nat)
 | []=>[]
 | x::l=>match Nat.blt x.1 m with
   | true=>x::VM m l
   | false=>VM m l
def gT{m r n:Nat}{l:List (Nat×Nat)}(h:D0 r (VM m l)=some n):D0 r l=some n/\r < m:=by
 induction l with
 | nil=>cases h
 | cons x l ih =>
   simp only[VM] at h;split at h;rename_i hb;simp only[D0] at h ⊢;split at h;rename_i h1;have:=beq_true h1;subst this;cases h;exact⟨rfl,Nat.le_of_ble_eq_true hb⟩;exact ih h;rename_i hb;obtain⟨h1,h2⟩:=ih h;refine⟨?_,h2⟩;simp only[D0];split;rename_i h3;have:=beq_true h3;subst this;rw[show Nat.blt x.1 m=true from Nat.ble_eq_true_of_le h2] at hb;cases hb;exact h1
section
variable {P:Program} {G:A6}
def tM(G:A6)(s0:AS)(B8:List AV)(s':AS)(fr2:List AV)(s2:AS):Prop:=∀(cx:Cx) (w:World) (c':Cx) (w':World) (vs:List Value),Ext cx w c' w'->St G cx w s0->St G c' w' s'->CG c' w' B8 vs->∃c2,Ext cx w c2 w'/\St G c2 w' s2/\CG c2 w' fr2 vs
abbrev RR:=Option (List AV×AS×List AV×List AL)
def aj9(live:List Nat)(n m:Nat)(B8:List AV)(s':AS)(bs:List AV)(cs:List AL):RR :=
 match Zg n B8 0 live bs with
 | some (fr2,as)=>(match mE (SH n s'.h) cs with
   | some (h2,uH)=>some (fr2,⟨h2,n,VM m s'.F,m⟩,as,uH)
   | none=>none)
 | none=>none
def gJ{l:List (Nat×AL)}{N n:Nat}(h:Je l N):Je (SH n l) n:=by
 induction l generalizing N with
 | nil=>trivial
 | cons e l ih =>
   simp only[SH];split;exact ih h.2;rename_i hb;refine⟨?_,h.2⟩;have:¬n<=e.1:=λhle=>by rw[Nat.ble_eq_true_of_le hle] at hb;cases hb
   omega
def TA(P:Program)(G:A6)(L:Code)(s0:AS)(Q:AX->List AV->AS->Prop):AX->List AV->AS->Prop
 | .normal,B8,s'=>∃fr2 s2,tM G s0 B8 s' fr2 s2/\WL P G (XS P G) H0 L fr2 s2 Q
 | .exit id,B8,s'=>∃fr2 s2,tM G s0 B8 s' fr2 s2/\Q (.exit id) fr2 s2
 | e,B8,s'=>Q e B8 s'
def bD{L:Code}{fr:List AV}{s:AS}{Q:AX->List AV->AS->Prop}(h:W P G (XS P G) H0 L fr s (TA P G L s Q)):WL P G (XS P G) H0 L fr s Q:=by
 obtain⟨e,B8,s',hj,h2⟩:=h;cases e with
 | normal =>
   obtain⟨fr2,s2,hf,e3,fr3,s3,h3,h4⟩:=h2;exact⟨e3,fr3,s3,.ahJ (.scope hj (λ_ h=>by cases h) (λcx w c' w' vs hx hs Cm OU=>hf cx w c' w' vs hx hs Cm OU)) h3,h4⟩
 | exit id =>
   obtain⟨fr2,s2,hf,h4⟩:=h2;exact⟨_,_,_,.rF (.scope hj (λ_ h=>by cases h) (λcx w c' w' vs hx hs Cm OU=>hf cx w c' w' vs hx hs Cm OU)) (by simp),h4⟩
 | ret=>exact⟨_,_,_,.rF hj (by simp),h2⟩
 | IL v=>exact⟨_,_,_,.rF hj (by simp),h2⟩
def Rb(P:Program)(fn:Func)(m:Nat)(Q:AX->List AV->AS->Prop)(v:AV)(s2:AS):Prop:=∀fr s,Gn P s fn fr=some v->s.cut m=s2->Q .ret fr s
def TZ(m:Nat)(Q:AX->List AV->AS->Prop)(v:AV)(s2:AS):Prop:=∀fr s,s.cut m=s2->Q (.IL v) fr s
def wQ{ks:List KI}{Q:AX->List AV->AS->Prop}{fr:List AV}{s:AS}(h:Q .ret fr s):D8 P G ks Q .ret fr s:=by
 induction ks with
 | nil=>exact h
 | cons k ks ih=>cases k<;>exact ih
def wP{ks:List KI}{Q:AX->List AV->AS->Prop}{fr:List AV}{s:AS}{v:AV}(h:Q (.IL v) fr s):D8 P G ks Q (.IL v) fr s:=by
 induction ks with
 | nil=>exact h
 | cons k ks ih=>cases k<;>exact ih
def Rb.body{fn:Func}{m:Nat}{Q:CR->AS->Prop}{v:AV}{s2:AS}(h:Q (.ret v) s2):Rb P fn m (SG P fn m Q) v s2:=λfr s h1 h2=>⟨v,h1,by rw[h2];exact h⟩
def TZ.body{fn:Func}{m:Nat}{Q:CR->AS->Prop}{v:AV}{s2:AS}(h:Q (.IL v) s2):TZ m (SG P fn m Q) v s2:=λfr s h2=>by show Q (.IL v) (s.cut m);rw[h2];exact h
def Rb.outer{fn:Func}{m id:Nat}{ks:List KI}{Q:AX->List AV->AS->Prop}{v:AV}{s2:AS}(h:Rb P fn m Q v s2):Rb P fn m (EC id (D8 P G ks Q)) v s2:=λfr s h1 h2=>wQ (h fr s h1 h2)
def TZ.outer{m id:Nat}{ks:List KI}{Q:AX->List AV->AS->Prop}{v:AV}{s2:AS}(h:TZ m Q v s2):TZ m (EC id (D8 P G ks Q)) v s2:=λfr s h1=>wP (h fr s h1)
def Rb.GJ{fn:Func}{m:Nat}{L:Code}{s0:AS}{Q:AX->List AV->AS->Prop}{v:AV}{s2:AS}(h:Rb P fn m Q v s2):Rb P fn m (TA P G L s0 Q) v s2:=h
def TZ.GJ{m:Nat}{L:Code}{s0:AS}{Q:AX->List AV->AS->Prop}{v:AV}{s2:AS}(h:TZ m Q v s2):TZ m (TA P G L s0 Q) v s2:=h
def ama(P:Program)(fn:Func)(m:Nat):HR->Option (List Cd×AV×AS)
 | some (.fin .ret,[],cd,fr,s)=>(match Gn P s fn fr with
   | some v=>some (cd,v,s.cut m)
   | none=>none)
 | _=>none
def T3(P:Program)(G:A6)(_l:List (PC P G))(Q:AX->List AV->AS->Prop)(r:HR)(X:Prop):Prop:=∀sp cd B8 s',r=some (sp,[],cd,B8,s')->QX P G cd->SqQ P G Q B8 s' sp->X
def Ae{c:Code}{fr:List AV}{s:AS}{Q:AX->List AV->AS->Prop}(n:Nat)(l:List (PC P G)):T3 P G l Q (Sk P G n c [] (pHs l) fr s) (W P G (XS P G) H0 c fr s Q):=λ_ _ _ _ h hc hk=>cG n c [] h hc hk
def dU{id:Nat}{ks:List KI}{fr:List AV}{s:AS}{Q:AX->List AV->AS->Prop}(n:Nat)(l:List (PC P G)):T3 P G l Q (Q3 (Sk P G n) ks .normal (pHs l) fr s) (EC id (D8 P G ks Q) (.exit id) fr s):=λ_ _ _ _ h hc hk=>by
 show D8 P G ks Q (EL id (.exit id)) fr s;have:EL id (.exit id)=.normal:=by simp[EL]
 rw[this];exact cE (cG n) ks _ h hc hk
def go_ret{r:HR}{X:Prop}{Q:AX->List AV->AS->Prop}(fn:Func)(m:Nat){l:List (PC P G)}(v:AV)(s2:AS)(R:T3 P G l Q r X)(h:ama P fn m r=some (fF l,v,s2))(k:Rb P fn m Q v s2):X:=by
 unfold ama at h;split at h;rename_i cd B8 s';split at h;rename_i v' hv;simp only[Option.some.injEq,Prod.mk.injEq] at h;obtain⟨rfl,rfl,rfl⟩:=h;exact R _ _ _ _ rfl (NE l) (k _ _ hv rfl);cases h;cases h
def mN(a:AV):AV:=match Ub a with
 | true=>.any
 | false=>a
def uQ{a:AV}{c:Cx}{w:World}{v:Value}(hr:Rp c w a v):Rp c w (mN a) v:=by
 unfold mN;split;rename_i h;exact .any (S7 hr h);exact hr
inductive Lp(γ δ ρ:Type) where
 | nx (x:γ)
 | ex (x:δ)
 | rt (r:ρ)
section loops
variable {α γ δ ρ:Type}
def Ry(k:γ->Option (δ⊕ρ)):Lp γ δ ρ->Option (δ⊕ρ)
 | .nx x=>k x
 | .ex d=>some (.inl d)
 | .rt r=>some (.inr r)
def Dl(body:Nat->α->γ->Option (Lp γ δ ρ))(done:γ->δ):List α->Nat->γ->Option (δ⊕ρ)
 | [],_,x=>some (.inl (done x))
 | y::l,i,x=>(body i y x).bind (Ry (Dl body done l (i+1)))
def GS(body:γ->Option (Lp γ δ ρ)):Nat->γ->Option (δ⊕ρ)
 | 0,_=>none
 | n+1,x=>(body x).bind (Ry (GS body n))
def SR{β:Type}(n:Nat)(x:Option β):Option β:=if n<=9223372036854775807 then x else none
def apx{β:Type}{n:Nat}{x:Option β}{r:β}(h:SR n x=some r):n<=9223372036854775807/\x=some r:=by
 unfold SR at h;split at h;rename_i h1;exact⟨h1,h⟩;cases h
def an9{β:Type}{b:Bool}{t f:Option β}{r:β}(h:cond b t f=some r):(b=true/\t=some r)\/(b=false/\f=some r):=by
 cases b;exact .inr ⟨rfl,h⟩;exact .inl ⟨rfl,h⟩
def fU{β κ:Type}{m:Option κ}{k:κ->Option β}{r:β}(h:m.bind k=some r):∃y,m=some y/\k y=some r:=by
 cases m with
 | none=>cases h
 | some y=>exact⟨y,rfl,h⟩
def LQ(Qx:δ->Prop)(Qr:ρ->Prop):δ⊕ρ->Prop
 | .inl x=>Qx x
 | .inr r=>Qr r
def RQ(Qn:γ->Prop)(Qx:δ->Prop)(Qr:ρ->Prop):Lp γ δ ρ->Prop
 | .nx x=>Qn x
 | .ex x=>Qx x
 | .rt r=>Qr r
def adY{J:Type}{L:Code}{Q:AX->List AV->AS->Prop}{body:Nat->α->γ->Option (Lp γ δ ρ)}{done:γ->δ}(l:List α)(F:Nat->γ->J->List AV)(S:Nat->γ->J->AS)(Ok:J->Prop)(Qx:δ->Prop)(Qr:ρ->Prop)
   (hz:∀i x j,Ok j->l.length<=i->Qx (done x)->WL P G (XS P G) H0 L (F i x j) (S i x j) Q)
   (hs:∀i y x j r,Ok j->l[i]?=some y->i < l.length->body i y x=some r->RQ (λx'=>∀j',Ok j'->WL P G (XS P G) H0 L (F (i+1) x' j') (S (i+1) x' j') Q) Qx Qr r->WL P G (XS P G) H0 L (F i x j) (S i x j) Q) :
   ∀{x:γ} {dO:δ⊕ρ} (i0:Nat),Dl body done (l.drop i0) i0 x=some dO->LQ Qx Qr dO->∀j,Ok j->WL P G (XS P G) H0 L (F i0 x j) (S i0 x j) Q:=by
 have key:∀(k:List α) (i:Nat) (x:γ) (dO:δ⊕ρ),l.drop i=k->Dl body done k i x=some dO->LQ Qx Qr dO->∀j,Ok j->WL P G (XS P G) H0 L (F i x j) (S i x j) Q:=by
   intro k
   induction k with
   | nil =>
     intro i x dO hd h hq j hj;simp only[Dl,Option.some.injEq] at h;subst h;exact hz i x j hj (List.drop_eq_nil_iff.1 hd) hq
   | cons y k ih =>
     intro i x dO hd h hq j hj
     have hi:i < l.length:=by
       rcases Nat.lt_or_ge i l.length with h1 | h1
       exact h1;rw[List.drop_eq_nil_of_le h1] at hd;cases hd
     have hy:l[i]?=some y:=by rw[<- List.head?_drop,hd];rfl
     have hZ:l.drop (i+1)=k:=by rw[<- List.tail_drop,hd];rfl
     obtain⟨r,hb,h⟩:=fU h;refine hs i y x j r hj hy hi hb ?_;cases r with
     | nx x'=>exact λj' hj'=>ih (i+1) x' dO hZ h hq j' hj'
     | ex d=>simp only[Ry,Option.some.injEq] at h;subst h;exact hq
     | rt v=>simp only[Ry,Option.some.injEq] at h;subst h;exact hq
 intro x dO i0 h hq j hj;exact key _ i0 x dO rfl h hq j hj
def adZ{J:Type}{L:Code}{Q:AX->List AV->AS->Prop}{body:γ->Option (Lp γ δ ρ)}(F:γ->J->List AV)(S:γ->J->AS)(Ok:J->Prop)(Qx:δ->Prop)(Qr:ρ->Prop)
   (hs:∀x j r,Ok j->body x=some r->RQ (λx'=>∀j',Ok j'->WL P G (XS P G) H0 L (F x' j') (S x' j') Q) Qx Qr r->WL P G (XS P G) H0 L (F x j) (S x j) Q) :
   ∀(n:Nat) {x:γ} {dO:δ⊕ρ},GS body n x=some dO->LQ Qx Qr dO->∀j,Ok j->WL P G (XS P G) H0 L (F x j) (S x j) Q:=by
 intro n
 induction n with
 | zero=>intro x dO h;cases h
 | succ n ih =>
   intro x dO h hq j hj;obtain⟨r,hb,h⟩:=fU h;refine hs x j r hj hb ?_;cases r with
   | nx x'=>exact λj' hj'=>ih h hq j' hj'
   | ex d=>simp only[Ry,Option.some.injEq] at h;subst h;exact hq
   | rt v=>simp only[Ry,Option.some.injEq] at h;subst h;exact hq
def Qa(body:γ->Option (Lp γ δ ρ))(x:γ):Option (δ⊕ρ):=open Classical in if h:∃n r,GS body n x=some r then some (Classical.choose (Classical.choose_spec h)) else none
def aer{body:γ->Option (Lp γ δ ρ)}{x:γ}{r:δ⊕ρ}(h:Qa body x=some r):∃n,GS body n x=some r:=by
 unfold Qa at h;split at h;rename_i hx;have:=Classical.choose_spec (Classical.choose_spec hx);rw[Option.some.inj h] at this;exact⟨_,this⟩;cases h
def XZ{body:γ->Option (Lp γ δ ρ)}:∀{n m:Nat} {x:γ} {r:δ⊕ρ},GS body n x=some r->n<=m->GS body m x=some r:=by
 intro n
 induction n with
 | zero=>intro m x r h;cases h
 | succ n ih =>
   intro m x r h hm;cases m with
   | zero=>omega
   | succ m =>
     obtain⟨a,ha,h⟩:=fU h;simp only[GS,ha,Option.bind_some];cases a with
     | nx x'=>exact ih h (by omega)
     | ex d=>exact h
     | rt v=>exact h
def IY{body:γ->Option (Lp γ δ ρ)}{n:Nat}{x:γ}{r:δ⊕ρ}(h:GS body n x=some r):Qa body x=some r:=by
 unfold Qa;have hx:∃n r,GS body n x=some r:=⟨n,r,h⟩;rw[dif_pos hx];have h2:=Classical.choose_spec (Classical.choose_spec hx);have h3:=XZ h (Nat.le_max_left n (Classical.choose hx));have h4:=XZ h2 (Nat.le_max_right n (Classical.choose hx));rw[h3] at h4;rw[Option.some.inj h4]
end loops
end
end AI
