/- Part of a proof: see the last text. -/
import Derived.Test.YtpbkhogolfegfaaGreatDoorPie
set_option linter.unusedVariables false
set_option linter.unusedSimpArgs false
set_option linter.defProp false
noncomputable section
namespace AI
open Go Go.RowKit
def N4(op:Op):Bool:=match op with
 | .call cl=>(match cl.callee with | .value _=>true | _=>false)
 | _=>false
def QO(op:Op):Bool:=match op with
 | .call cl=>(match cl.callee with | .value _=>true | .builtin .append=>true | _=>false)
 | _=>false
def amT{op:Op}(h:N4 op=true):QO op=true:=by
 unfold N4 at h;split at h;split at h;rename_i H9;simp[QO,H9];cases h;cases h
def eF:List Hn->Bool
 | .a _ _::_=>true
 | .u _ _ _ _ _::_=>true
 | .cn _ _ _ _ _::_=>true
 | .mb _ _::_=>true
 | _=>false
def iZ(P:Program)(G:Bc)(ops:Array Oper)(fr:List AV)(s:AS)(o:Oper)(hs:List Hn):HO:=match QO o.op with
 | true=>(match eF hs with
   | true=>none
   | false=>aH P G ops fr s o hs)
 | false=>aH P G ops fr s o hs
def Ys{P:Program}{G:Bc}{ops:Array Oper}{fr:List AV}{s:AS}{o:Oper}{hs:List Hn}{r:AV×AS×List Hn×List Cd}(h:iZ P G ops fr s o hs=some r):aH P G ops fr s o hs=some r/\(QO o.op=true->eF hs=false):=by
 unfold iZ at h;split at h;split at h;cases h;rename_i h1;exact⟨h,λ_=>h1⟩;rename_i h1;exact⟨h,λh2=>by rw[h1] at h2;cases h2⟩
def SN{P:Program}{G:Bc}{ops:Array Oper}{fr:List AV}{s:AS}{o:Oper}{hs:List Hn}{r:AV×AS×List Hn×List Cd}(h:iZ P G ops fr s o hs=some r):aH P G ops fr s o hs=some r/\(N4 o.op=true->eF hs=false):=⟨(Ys h).1,λh1=>(Ys h).2 (amT h1)⟩
abbrev HT:=Option (List Hn×List Cd×List (List AV×AS×AV)×List AV×AS)
def wI(cd:List Cd)(x:List AV×AS×AV):HT->HT
 | some (hs,cd',t,fr,s)=>some (hs,cd++cd',x::t,fr,s)
 | none=>none
def hTr(P:Program)(G:Bc)(ops:Array Oper):List Oper->Nat->List Hn->List AV->AS->HT
 | [],_,hs,fr,s=>some (hs,[],[],fr,s)
 | o::l,q,hs,fr,s=>(match BX o.op with
   | true=>wI [] (fr,s,Pf ops fr o q) (hTr P G ops l (q+1) hs (Jw fr o.dst (Pf ops fr o q)) s)
   | false=>(match iZ P G ops fr s o hs with
     | some (v,s1,RT,cd)=>wI cd (fr,s,v) (hTr P G ops l q RT (Jw fr o.dst v) s1)
     | none=>none))
def aBP(q0:Nat):Option AV->Bool
 | some (.el _)=>true
 | some (.ptr id _)=>Nat.blt id q0
 | _=>false
def aDP(q0:Nat):Option AV->Bool
 | some (.ptr id _)=>Nat.ble q0 id
 | _=>false
def slV:Option AV->Bool
 | some (.sl _ _ _)=>true
 | some (.sc (.string _))=>true
 | _=>false
def mpV(q0:Nat):Option AV->Bool
 | some (.mp id)=>Nat.blt id q0
 | _=>false
def indep(G:Bc)(q0:Nat)(fr:List AV)(o:Oper):Bool:=match o.op with
 | .load _ a=>aBP q0 (AZ G fr a)
 | .lookup _ m _ _=>mpV q0 (AZ G fr m)
 | .store _ a _=>aDP q0 (AZ G fr a)
 | .call cl=>(match cl.callee with
   | .value _=>true
   | .builtin .append=>true
   | .builtin .len=>(match cl.args.toList with
     | [x]=>slV (AZ G fr x)
     | _=>false)
   | _=>quiet o.op)
 | .alloc _=>true
 | op=>quiet op
def L8(G:Bc)(ops:Array Oper)(q0:Nat):List Oper->List (List AV×AS×AV)->Bool
 | o::os,t::ts=>(match CC ops t.1 o with
   | false=>L8 G ops q0 os ts
   | true=>(match indep G q0 t.1 o with
     | true=>L8 G ops q0 os ts
     | false=>false))
 | _,_=>true
def nE(q0:Nat)(s s':AS):Prop:=∀id,id < q0->s'.get id=s.get id
def JP{id Rq:Nat}{b:Bl}(h:Rq≠id):∀(l:List (Nat×Bl)),look Rq (uJ id b l)=look Rq l
 | []=>rfl
 | e::l=>by
   simp only[uJ];split;rename_i hb;have hb:=beq_true hb;simp only[look]
   have h1:Nat.beq id Rq=false:=by cases hq:Nat.beq id Rq with
     | true=>exact absurd (beq_true hq).symm h
     | false=>rfl
   rw[hb,h1];simp only[look,JP h l]
section
variable {P:Program} {G:Bc} {ops:Array Oper}
def alY{q0:Nat}{fr:List AV}{s s1:AS}{o:Oper}{hs hs':List Hn}{v:AV}{cd:List Cd}(h:aH P G ops fr s o hs=some (v,s1,hs',cd))(hA:QO o.op=true->eF hs=false)(hi:CC ops fr o=true->indep G q0 fr o=true)(hc:RD P G cd)(ha:BX o.op=false):nE q0 s s1:=by
 intro id hid;have hj:=Pn h hc;cases hq:quiet o.op with
 | true=>rw[(Kc hq hj).1]
 | false =>
   unfold aH at h;split at h;rename_i hw;have hi:=hi hw;unfold indep at hi;split at hi;rename_i t a ho;rw[ho] at hq;cases hq;rename_i t m k ok ho;rw[ho] at hq;cases hq;rename_i t a x ho;unfold wF at h;rw[ho] at h;simp only at h
   have h1:∃a' x',Bg G fr a=some a'/\Bg G fr x=some x'/\L3 P s t a' x'=some s1:=by
     rcases VI h hc with ⟨a',x',h2,h3,h4,_⟩ | h2
     exact⟨a',x',h2,h3,h4⟩;have h1:=VH h2;rw[Nr] at h1;unfold QC at h1;rw[ho] at h1;simp only at h1;split at h1;rename_i a' x' zT YD;obtain⟨s',Gr,he⟩:=map_some h1;injection he with he1 he2
     subst he2;exact⟨a',x',zT,YD,Gr⟩;cases h1
   rw[Ct] at hi;obtain⟨a',x',zT,YD,Gr⟩:=h1;rw[zT] at hi;unfold aDP at hi;split at hi;rename_i Rq off OI;cases OI;unfold L3 at Gr;split at Gr;rename_i i id2 aME hi2 adJ;cases adJ;split at Gr;split at Gr;cases Gr;have:=Nat.le_of_ble_eq_true hi;exact JP (by omega) _;cases Gr;cases Gr;cases Gr;cases hi;rename_i cl ho;split at hi;rename_i f H9;unfold wF at h;rw[ho] at h;simp only[H9] at h;unfold Yr at h;split at h;split at h;cases h;rfl;cases h;have:=hA (by rw[ho];simp[QO,H9]);simp[eF] at this;have:=hA (by rw[ho];simp[QO,H9]);simp[eF] at this;have:=hA (by rw[ho];simp[QO,H9]);simp[eF] at this;cases h;rename_i H9;unfold wF at h;rw[ho] at h;simp only[H9] at h;have no:=hA (by rw[ho];simp[QO,H9]);split at h;split at h;split at h;unfold acO at h;split at h;simp[eF] at no;simp[eF] at no;cases h;rfl;cases h;rfl;split at h;cases h;rfl;split at h;split at h;cases h;rfl;cases h;cases h;cases h;cases h;cases h;cases h;cases h;rename_i H9;rw[ho] at hq;simp[quiet,H9] at hq;rw[ho] at hq;rw[ho,hq] at hi;cases hi;rename_i e ho;rw[ho] at ha;cases ha;rw[hq] at hi;cases hi;cases h;rfl
def nE.refl(q0:Nat)(s:AS):nE q0 s s:=λ_ _=>rfl
def nE.trans{q0:Nat}{a b c:AS}(h:nE q0 a b)(k:nE q0 b c):nE q0 a c:=λid hid=>(k id hid).trans (h id hid)
def awD{q0:Nat}{l:List Oper}{q:Nat}{hs hs':List Hn}{fr fr':List AV}{s s':AS}{cd:List Cd}{t:List (List AV×AS×AV)}(h:hTr P G ops l q hs fr s=some (hs',cd,t,fr',s'))(hc:RD P G cd)(hi:L8 G ops q0 l t=true) :
   S1 P G (XS P G) H0 ops q l fr s t fr' s'/\(∀x∈t,nE q0 s x.2.1)/\nE q0 s s':=by
 induction l generalizing q hs fr s cd t with
 | nil=>simp only[hTr] at h;cases h;exact⟨.nil,(λx hx=>by cases hx),nE.refl _ _⟩
 | cons o l ih =>
   simp only[hTr] at h;cases ha:BX o.op with
   | true =>
     rw[ha] at h;simp only at h;unfold wI at h;split at h;rename_i aL vU t2 fr2 s2 h2;cases h
     have hi2:L8 G ops q0 l t2=true:=by
       simp only[L8] at hi;split at hi;exact hi;split at hi;exact hi;cases hi
     obtain⟨k1,k2,k3⟩:=ih h2 (hc.Wk).2 hi2;refine⟨.alloc ha k1,λx hx=>?_,k3⟩;rcases List.mem_cons.1 hx with rfl | hx
     exact nE.refl _ _;exact k2 x hx;cases h
   | false =>
     rw[ha] at h;simp only at h;split at h;rename_i v s1 RT zL h1;unfold wI at h;split at h;rename_i aL vU t2 fr2 s2 h2;cases h;obtain⟨c1,c2⟩:=hc.Wk
     have hi1:CC ops fr o=true->indep G q0 fr o=true:=by
       intro hw;simp only[L8,hw] at hi;split at hi;assumption;cases hi
     have hi2:L8 G ops q0 l t2=true:=by
       simp only[L8] at hi;split at hi;exact hi;split at hi;exact hi;cases hi
     have hf:=alY (SN h1).1 (Ys h1).2 hi1 c1 ha;obtain⟨k1,k2,k3⟩:=ih h2 c2 hi2;refine⟨.cons ha (Pn (SN h1).1 c1) k1,λx hx=>?_,hf.trans k3⟩;rcases List.mem_cons.1 hx with rfl | hx
     exact nE.refl _ _;exact hf.trans (k2 x hx);cases h;cases h
def wQ{q0:Nat}{os:List Oper}{ts:List (List AV×AS×AV)}(h:L8 G ops q0 os ts=true){i:Nat}{o:Oper}{x:List AV×AS×AV}(ho:os[i]?=some o)(hx:ts[i]?=some x)(hw:CC ops x.1 o=true):indep G q0 x.1 o=true:=by
 induction os generalizing ts i with
 | nil=>simp at ho
 | cons y os ih =>
   cases ts with
   | nil=>simp at hx
   | cons t ts =>
     simp only[L8] at h;cases i with
     | zero =>
       simp at ho hx;subst ho hx;rw[hw] at h;simp only at h;split at h;assumption;cases h
     | succ i =>
       have h2:L8 G ops q0 os ts=true:=by
         split at h;exact h;split at h;exact h;cases h
       exact ih h2 (by simpa using ho) (by simpa using hx)
def acC{q0:Nat}{fr:List AV}{s0 s s2:AS}{o:Oper}{v:AV}(hq:quiet o.op=true)(hr:reads o.op=true)(hi:indep G q0 fr o=true)(h1:nE q0 s0 s)(h2:nE q0 s0 s2)(h:QC P G fr s o=some (.val v s)):QC P G fr s2 o=some (.val v s2):=by
 unfold indep at hi;split at hi;rename_i t a ho;rw[Ct] at hi;unfold QC at h ⊢;rw[ho] at h ⊢;simp only at h ⊢;obtain⟨v',h3,h4⟩:=map_some h;injection h4 with h4
 subst h4;obtain⟨b,h5,h6⟩:=bind_some h3;rw[h5] at hi ⊢;unfold aBP at hi;split at hi;rename_i OI;cases OI;simp only[Option.bind_some];rw[show KY P s2 t (.el _)=KY P s t (.el _) from rfl,h6];rfl;rename_i id off OI;cases OI;have hid:id < q0:=Nat.le_of_ble_eq_true hi
 have:KY P s2 t (.ptr id off)=KY P s t (.ptr id off):=by
   simp only[KY];rw[h2 id hid,h1 id hid]
 simp only[Option.bind_some];rw[this,h6];rfl;cases hi
 · rename_i t m k ok ho
   rw[Ct] at hi;unfold QC at h ⊢;rw[ho] at h ⊢;simp only at h ⊢;unfold mpV at hi;split at hi
   · rename_i id OI
     have hid:id < q0:=Nat.le_of_ble_eq_true hi;rw[OI] at h ⊢;cases hk:Bg G fr k with
     | none=>rw[hk] at h;cases h
     | some b =>
       rw[hk] at h;simp only at h ⊢;obtain⟨v',h3,h4⟩:=map_some h;injection h4 with h4
       subst h4
       have:Jf P s2 t (.mp id) b ok=Jf P s t (.mp id) b ok:=by
         unfold Jf;simp only;rw[h2 id hid,h1 id hid]
       rw[this,h3];rfl
   cases hi
 rename_i t a x ho;rw[ho] at hq;cases hq
 · rename_i cl ho
   split at hi;rename_i f H9;rw[ho] at hq;simp[quiet,H9] at hq;rename_i H9;rw[ho] at hq;simp[quiet,H9] at hq
   · rename_i H9
     unfold QC at h ⊢;rw[ho] at h ⊢;simp only[Th,H9] at h ⊢;split at hi
     · rename_i x hx
       rw[hx] at h ⊢;cases ht:cl.argTypes.toList with
       | nil=>rw[ht] at h;cases h
       | cons t1 ts =>
         cases ts with
         | cons _ _=>rw[ht] at h;cases h
         | nil =>
           rw[ht] at h;simp only at h ⊢;obtain⟨v',h3,h4⟩:=map_some h;injection h4 with h4
           subst h4;obtain⟨b,h5,h6⟩:=bind_some h3;rw[Ct,h5] at hi;rw[h5];simp only[Option.bind_some]
           have:WS P s2 t1 b=WS P s t1 b:=by
             unfold slV at hi;split at hi
             · rename_i OI;cases OI;unfold WS;split<;>first | rfl | (simp_all;done)
             · rename_i OI;cases OI;unfold WS;split<;>first | rfl | (simp_all;done)
             cases hi
           rw[this,h6];rfl
     cases hi
   · rename_i hn1 hn2
     rw[ho] at hr;unfold reads at hr;simp only at hr
     first
       | (cases hr;done)
       | (split at hr
          rename_i H9;exact absurd H9 hn2;cases hr)
 rename_i e ho;rw[ho] at hq;cases hq;rename_i hn1 hn2 hn3 hn4 hn5;exfalso;unfold reads at hr;split at hr;rename_i ho;exact hn1 _ _ ho;rename_i ho;exact hn2 _ _ _ _ ho;rename_i ho;exact hn4 _ ho;cases hr
def abN{id:Nat}{fr fr':List AV}{s s':AS}{r:List Bl}{t:List (List AV×AS×AV)}{hs hs':List Hn}{cd:List Cd}(Hx:MJ ops=true)(hr:rsv P ops.toList=some r)(h:hTr P G ops ops.toList s.nx hs fr (s.hold r)=some (hs',cd,t,fr',s'))(hc:RD P G cd)(hi:L8 G ops s.nx ops.toList t=true)(adT:XA P ops t s' s.nx r=true):J P G (XS P G) H0 (.code (.region id ops true) fr s .normal fr' s'):=by
 obtain⟨wO,aKH,aCH⟩:=awD h hc hi;have hlen:t.length=ops.size:=by rw[wO.len,Array.length_toList]
 have zX:∀k,nE s.nx (s.hold r) (FN t s' k):=by
   intro k;unfold FN;split;rename_i x hx;exact aKH x (List.mem_of_getElem? hx);exact aCH
 obtain⟨h0,TL⟩:=wO.at;have oM:∀i o,ops[i]?=some o->Cl ops i=o.dst:=λi o ho=>by unfold Cl;rw[ho];rfl
 obtain⟨Yw,Yx⟩:=wO.dM (Cl ops) (KE t) fr 0 rfl (λi o ho=>by rw[Nat.zero_add];exact oM i o (by rw[<- Array.getElem?_toList];exact ho)) (λi=>.inl (by rw[Nat.zero_add]));rw[Nat.zero_add,Array.length_toList] at Yw
 have Hv:∀(i:Nat) (o:Oper),ops[i]?=some o->BX o.op=false->J P G (XS P G) H0 (.op ops o (IA fr (Cl ops) (KE t) (λ_=>true) i) (FN t s' i) (.ret (KE t i)) (FN t s' (i+1))):=by
   intro i o ho mY;obtain⟨fi,h1,h2⟩:=TL i o (Ch ho);have:=Yx i _ h1;simp only[Nat.zero_add] at this;rcases h2 with ⟨_,h2⟩ | ⟨h2,_⟩
   rw[<- this];exact h2;rw[mY] at h2;cases h2
 have aCA:∀(i:Nat) (o:Oper),ops[i]?=some o->BX o.op=true->FN t s' (i+1)=FN t s' i/\KE t i=Pf ops (IA fr (Cl ops) (KE t) (λ_=>true) i) o (s.nx+rk ops i):=by
   intro i o ho eC;obtain⟨fi,h1,h2⟩:=TL i o (Ch ho);have:=Yx i _ h1;simp only[Nat.zero_add] at this;rcases h2 with ⟨h2,_⟩ | ⟨_,h2⟩
   rw[eC] at h2;cases h2;rw[<- this];exact h2
 have mY:∀o:Oper,quiet o.op=true->BX o.op=false:=by
   intro o hq;cases eC:BX o.op with
   | false=>rfl
   | true=>obtain⟨e,he⟩:=KS eC;rw[Rm he] at hq;cases hq
 have hnl:∀o:Oper,calm o.op=false->BX o.op=false:=by
   intro o hq;cases eC:BX o.op with
   | false=>rfl
   | true=>unfold calm at hq;rw[eC] at hq;cases hq
 have hsn:FN t s' ops.size=s':=by
   unfold FN;rw[List.getElem?_eq_none (by omega)]
 have hsk:∀k,k<=ops.size->(t.map (λx=>x.2.1)++[s'])[k]?=some (FN t s' k):=by
   intro k hk;unfold FN;by_cases hkt:k < t.length;rw[List.getElem?_append_left (by simpa using hkt),List.getElem?_map,List.getElem?_eq_getElem hkt];rfl
   have:k=t.length:=by omega
   subst this;rw[List.getElem?_append_right (by simp)];simp
 have sG:∀l,l∈Nx ops.toList 0->YN ops l:=by
   intro l hl;obtain⟨j,o',e,h5,h6⟩:=eQ hl;rw[Nat.zero_add] at e;subst e;exact⟨o',by rw[<- Array.getElem?_toList];exact h5,h6⟩
 have key:=J.draw (P:=P) (G:=G) (X:=XS P G) (H:=H0) (id:=id) (f0:=fr) (s0:=s) r (KE t) (FN t s') h0 Hx (λi o ho hl=>Hv i o ho (hnl o hl)) (λi o ho hq=>by
   obtain⟨h1,h2⟩:=Kc hq (Hv i o ho (mY o hq));refine⟨h1,?_⟩;rcases h2 with h2 | ⟨hw,h2⟩
   exact .inl h2
   · refine .inr ⟨hw,λk hk ZU=>?_⟩
     cases hrd:reads o.op with
     | false=>exact T6 hq hrd h2 _
     | true =>
       obtain⟨fi,hti,_⟩:=TL i o (Ch ho);have zV:=Yx i _ hti;simp only[Nat.zero_add] at zV;have hin:=wQ hi (Ch ho) hti (by rw[zV];exact hw);rw[zV] at hin;exact acC hq hrd hin (zX i) (zX k) h2) (λi o e ho he=>by
   have eC:BX o.op=true:=by rw[he];rfl
   obtain⟨h1,h2⟩:=aCA i o ho eC;refine⟨h1,?_⟩
   have hrk:rk ops i < r.length:=by
     rw[aoY hr];exact qA (Ch ho) eC (by rw[Array.length_toList];exact(Array.getElem?_eq_some_iff.1 ho).1)
   cases hw:CC ops (IA fr (Cl ops) (KE t) (λ_=>true) i) o with
   | false=>unfold Pf at h2;rw[hw] at h2;exact .inl ⟨rfl,h2⟩
   | true =>
     unfold Pf at h2;rw[hw] at h2;obtain⟨fi,hti,_⟩:=TL i o (Ch ho);have zV:=Yx i _ hti;simp only[Nat.zero_add] at zV
     have hal:TD P ops (Ik ops.toList []) (Nx ops.toList 0) (t.map (·.2.1)++[s']) ops.toList t 0 s.nx=true:=by
       unfold XA at adT;split at adT;simp at hrk;exact adT
     obtain⟨z,hz,hbx⟩:=vG hal (Ch ho) hti he (by rw[zV];exact hw);rw[Nat.zero_add] at hbx;exact .inr ⟨rfl,z,hz,hrk,h2,λk hk ZU=>vS hbx (hsk k hk) (by rw[Nat.zero_add];exact arU sG ZU)⟩)
 rw[<- Yw,hsn] at key;exact key
end
end AI
namespace AI
open Go Go.RowKit
def wJ(P:Program)(G:Bc)(ops:Array Oper)(c:Nat):List Oper->Nat->List Hn->List AV->AS->HT
 | [],_,hs,fr,s=>some (hs,[],[],fr,s)
 | o::l,i,hs,fr,s=>(match (match Nat.beq i c with
     | true=>aH P G ops fr s o hs
     | false=>iZ P G ops fr s o hs) with
   | some (v,s1,RT,cd)=>wI cd (fr,s,v) (wJ P G ops c l (i+1) RT (Jw fr o.dst v) s1)
   | none=>none)
def UX(ms:List Nat)(c:Nat):List Oper->Nat->Bool
 | [],_=>true
 | o::l,i=>(match Nat.beq i c with
   | true=>!calm o.op
   | false=>(match N4 o.op with
     | true=>Nat.blt i c
     | false=>quiet o.op&&(!reads o.op||(Nat.blt i c&&SK ms c i))))&&UX ms c l (i+1)
section
variable {P:Program} {G:Bc} {ops:Array Oper}
def YH{ms:List Nat}{c:Nat}:∀{l:List Oper} {i j:Nat} {o:Oper},UX ms c l i=true->l[j]?=some o->(i+j=c->calm o.op=false)/\(i+j≠c->(N4 o.op=true/\i+j < c)\/(quiet o.op=true/\(reads o.op=true->i+j < c/\SK ms c (i+j)=true))):=by
 intro l
 induction l with
 | nil=>intro i j o h ho;simp at ho
 | cons x l ih =>
   intro i j o h ho;simp only[UX,Bool.and_eq_true] at h;cases j with
   | zero =>
     simp at ho;subst ho;have h1:=h.1;split at h1;rename_i hb;have:=Nat.eq_of_beq_eq_true hb;exact⟨λ_=>by simpa using h1,λhn=>absurd this hn⟩
     rename_i hb;have:=Nat.ne_of_beq_eq_false hb;refine⟨λhn=>absurd hn this,λ_=>?_⟩;split at h1;rename_i hv;exact .inl ⟨hv,Nat.le_of_ble_eq_true h1⟩;simp only[Bool.and_eq_true,Bool.or_eq_true,Bool.not_eq_true'] at h1;refine .inr ⟨h1.1,λhr=>?_⟩;rcases h1.2 with h2 | h2
     rw[hr] at h2;cases h2;exact⟨Nat.le_of_ble_eq_true h2.1,h2.2⟩
   | succ j =>
     have:=ih (i:=i+1) (j:=j) h.2 (by simpa using ho)
     rw[show i+(j+1)=i+1+j by omega];exact this
def Wz{ms:List Nat}{c:Nat}{l:List Oper}{i j:Nat}{o:Oper}(hl:UX ms c l i=true)(hj:l[j]?=some o):BX o.op=false:=by
 have ho:=YH hl hj;cases ha:BX o.op with
 | false=>rfl
 | true =>
   obtain⟨e,he⟩:=KS ha;by_cases hic:i+j=c;have:=ho.1 hic;unfold calm at this;rw[ha] at this;simp at this;rcases ho.2 hic with ⟨h1,_⟩ | ⟨h1,_⟩
   rw[he] at h1;cases h1;rw[Rm he] at h1;cases h1
def alZ{fr:List AV}{s s1:AS}{o:Oper}{hs hs':List Hn}{v:AV}{cd:List Cd}(h:aH P G ops fr s o hs=some (v,s1,hs',cd))(hv:N4 o.op=true)(hA:eF hs=false):s1=s:=by
 unfold aH at h;split at h;unfold N4 at hv;split at hv;rename_i cl ho;split at hv;rename_i f H9;unfold wF at h;rw[ho] at h;simp only[H9] at h;unfold Yr at h;split at h;split at h;cases h;rfl;cases h;simp[eF] at hA;simp[eF] at hA;simp[eF] at hA;cases h;cases hv;cases hv;cases h;rfl
def amF{c q:Nat}{ms:List Nat}:∀{l:List Oper} {i:Nat} {hs hs':List Hn} {fr fr':List AV} {s s':AS} {cd:List Cd} {t:List (List AV×AS×AV)},wJ P G ops c l i hs fr s=some (hs',cd,t,fr',s')->RD P G cd->UX ms c l i=true->S1 P G (XS P G) H0 ops q l fr s t fr' s'/\∀j,j<=l.length->i+j<=c->FN t s' j=s:=by
 intro l
 induction l with
 | nil =>
   intro i hs hs' fr fr' s s' cd t h hc hl;simp only[wJ] at h;cases h;exact⟨.nil,λj hj _=>by rfl⟩
 | cons o l ih =>
   intro i hs hs' fr fr' s s' cd t h hc hl;simp only[wJ] at h;split at h
   · rename_i v s1 RT zL h1
     unfold wI at h;split at h
     · rename_i aL vU t2 fr2 s2 h2
       cases h;obtain⟨c1,c2⟩:=hc.Wk;have ho:=YH (j:=0) hl rfl;have mY:BX o.op=false:=Wz (j:=0) hl rfl
       have hl2:UX ms c l (i+1)=true:=by
         simp only[UX,Bool.and_eq_true] at hl;exact hl.2
       have h3:aH P G ops fr s o hs=some (v,s1,RT,zL):=by
         split at h1;exact h1;exact(SN h1).1
       have hj:=Pn h3 c1;obtain⟨k1,k2⟩:=ih h2 c2 hl2;refine⟨.cons mY hj k1,λj hjl hjc=>?_⟩;cases j with
       | zero=>rfl
       | succ j =>
         have e1:FN ((fr,s,v)::t2) s' (j+1)=FN t2 s' j:=by unfold FN;simp
         rw[e1,k2 j (by simpa using hjl) (by omega)]
         have hic:i+0≠c:=by omega
         rcases ho.2 hic with ⟨hv,_⟩ | ⟨hq,_⟩
         split at h1;rename_i hb;have:=Nat.eq_of_beq_eq_true hb;omega;exact alZ h3 hv ((SN h1).2 hv);exact(Kc hq hj).1
     cases h
   cases h
def wA{id c:Nat}{fr fr':List AV}{s s':AS}{t:List (List AV×AS×AV)}{hs hs':List Hn}{cd:List Cd}(Hx:MJ ops=true)(sE:Nat.blt c ops.size=true)(hl:UX (Ik ops.toList []) c ops.toList 0=true)(h:wJ P G ops c ops.toList 0 hs fr s=some (hs',cd,t,fr',s'))(hc:RD P G cd):J P G (XS P G) H0 (.code (.region id ops true) fr s .normal fr' s'):=by
 have H9:c < ops.size:=Nat.le_of_ble_eq_true sE;obtain⟨wO,hsm⟩:=amF (q:=s.nx) h hc hl;have hlen:t.length=ops.size:=by rw[wO.len,Array.length_toList]
 obtain⟨h0,TL⟩:=wO.at;have oM:∀i o,ops[i]?=some o->Cl ops i=o.dst:=λi o ho=>by unfold Cl;rw[ho];rfl
 obtain⟨Yw,Yx⟩:=wO.dM (Cl ops) (KE t) fr 0 rfl (λi o ho=>by rw[Nat.zero_add];exact oM i o (by rw[<- Array.getElem?_toList];exact ho)) (λi=>.inl (by rw[Nat.zero_add]));rw[Nat.zero_add,Array.length_toList] at Yw
 have asY:∀(i:Nat) (o:Oper),ops[i]?=some o->(i=c->calm o.op=false)/\(i≠c->(N4 o.op=true/\i < c)\/(quiet o.op=true/\(reads o.op=true->i < c/\SK (Ik ops.toList []) c i=true))):=by
   intro i o ho;have:=YH (j:=i) hl (Ch ho);rwa[Nat.zero_add] at this
 have adO:∀(i:Nat) (o:Oper),ops[i]?=some o->BX o.op=false:=λi o ho=>Wz (j:=i) hl (Ch ho)
 have Hv:∀(i:Nat) (o:Oper),ops[i]?=some o->J P G (XS P G) H0 (.op ops o (IA fr (Cl ops) (KE t) (λ_=>true) i) (FN t s' i) (.ret (KE t i)) (FN t s' (i+1))):=by
   intro i o ho;obtain⟨fi,h1,h2⟩:=TL i o (Ch ho);have:=Yx i _ h1;simp only[Nat.zero_add] at this;rcases h2 with ⟨_,h2⟩ | ⟨h2,_⟩
   rw[<- this];exact h2;rw[adO i o ho] at h2;cases h2
 have hsn:FN t s' ops.size=s':=by
   unfold FN;rw[List.getElem?_eq_none (by omega)]
 have Tp:∀k,k<=c->FN t s' k=s:=λk hk=>hsm k (by rw[Array.length_toList];omega) (by omega)
 have sG:YN ops c:=by
   have ho:ops[c]?=some ops[c]:=Array.getElem?_eq_getElem H9;exact⟨_,ho,(asY c _ ho).1 rfl⟩
 have key:=J.draw (P:=P) (G:=G) (X:=XS P G) (H:=H0) (id:=id) (f0:=fr) (s0:=s) [] (KE t) (FN t s') h0 Hx (λi o ho _=>Hv i o ho) (λi o ho hq=>by
   obtain⟨h1,h2⟩:=Kc hq (Hv i o ho);refine⟨h1,?_⟩;rcases h2 with h2 | ⟨hw,h2⟩
   exact .inl h2
   · refine .inr ⟨hw,λk hk ZU=>?_⟩
     cases hrd:reads o.op with
     | false=>exact T6 hq hrd h2 _
     | true =>
       have hic:i≠c:=λe=>by
         subst e;obtain⟨o2,ho2,hcm⟩:=sG;rw[ho] at ho2;cases ho2;rw[X7 hq] at hcm;cases hcm
       obtain⟨hlt,hd⟩:i < c/\SK (Ik ops.toList []) c i=true:=by
         rcases(asY i o ho).2 hic with ⟨hv,_⟩ | ⟨_,h3⟩
         exfalso;unfold N4 at hv;split at hv;rename_i cl jE;split at hv;rename_i f aKB;rw[jE] at hq;simp[quiet,aKB] at hq;cases hv;cases hv;exact h3 hrd
       have hkc:=ZU.2 c sG hd;rw[Tp k hkc];rw[Tp i (by omega)] at h2;exact h2) (λi o e ho he=>by
   have:=adO i o ho;rw[he] at this;cases this)
 rw[<- Yw,hsn] at key;exact key
end
end AI
namespace AI
open Go Go.RowKit
def aiE(G:Bc)(fr:List AV)(o:Oper)(hs:List Hn):Option (List Nat):=match o.op with
 | .store _ a _=>(match Bg G fr a with
   | some (.ptr id _)=>some [id]
   | _=>none)
 | .mapUpdate _ m _ _=>(match AZ G fr m with
   | some (.mp id)=>some [id]
   | _=>none)
 | .call cl=>(match cl.callee with
   | .value _=>(match hs with
     | .w _::_=>some []
     | .u _ _ _ Rc _::_=>some (Rc.map (·.1))
     | .cn _ h _ _ _::_=>some (h.map (·.1))
     | _=>none)
   | .builtin .append=>(match hs with
     | .g _ _ _::_=>some []
     | .ae _::_=>some []
     | _=>none)
   | _=>(match quiet o.op with
     | true=>some []
     | false=>none))
 | op=>(match quiet op with
   | true=>some []
   | false=>none)
def Zl(G:Bc)(ops:Array Oper)(fr:List AV)(o:Oper)(hs:List Hn):Option (List Nat):=match CC ops fr o with
 | true=>aiE G fr o hs
 | false=>some []
abbrev HA:=Option (List Hn×List Cd×List (List AV×AS×AV)×List (List Nat)×List AV×AS)
def asW(cd:List Cd)(x:List AV×AS×AV)(T:List Nat):HA->HA
 | some (hs,cd',t,Ts,fr,s)=>some (hs,cd++cd',x::t,T::Ts,fr,s)
 | none=>none
def wH(P:Program)(G:Bc)(ops:Array Oper):List Oper->List Hn->List AV->AS->HA
 | [],hs,fr,s=>some (hs,[],[],[],fr,s)
 | o::l,hs,fr,s=>(match BX o.op with
   | true=>none
   | false=>(match Zl G ops fr o hs with
     | some T=>(match aH P G ops fr s o hs with
       | some (v,s1,RT,cd)=>asW cd (fr,s,v) T (wH P G ops l RT (Jw fr o.dst v) s1)
       | none=>none)
     | none=>none))
def aoD(G:Bc)(fr:List AV)(o:Oper):Option (Option Nat):=match o.op with
 | .load _ a=>(match AZ G fr a with
   | some (.ptr id _)=>some (some id)
   | some (.el _)=>some none
   | _=>none)
 | .lookup _ m _ _=>(match AZ G fr m with
   | some (.mp id)=>some (some id)
   | _=>none)
 | .call cl=>(match cl.callee with
   | .builtin .len=>(match cl.args.toList with
     | [x]=>(match slV (AZ G fr x) with
       | true=>some none
       | false=>none)
     | _=>none)
   | _=>none)
 | _=>none
def aeV(a:Nat):List Nat->Bool
 | []=>false
 | b::l=>(match Nat.beq a b with
   | true=>true
   | false=>aeV a l)
def Vk(ms:List Nat)(id i:Nat):List (List Nat)->Nat->Bool
 | [],_=>true
 | T::Ts,l=>(match aeV id T with
   | true=>(match Nat.blt l i with
     | true=>SK ms i l
     | false=>(match Nat.blt i l with
       | true=>SK ms l i
       | false=>true))
   | false=>true)&&Vk ms id i Ts (l+1)
def kO(G:Bc)(ops:Array Oper)(ms:List Nat)(Ts:List (List Nat)):List Oper->List (List AV×AS×AV)->Nat->Bool
 | o::os,t::ts,i=>(match CC ops t.1 o with
   | false=>true
   | true=>(match reads o.op with
     | false=>true
     | true=>(match aoD G t.1 o with
       | none=>false
       | some none=>true
       | some (some id)=>Vk ms id i Ts 0)))&&kO G ops ms Ts os ts (i+1)
 | _,_,_=>true
def jQ{a:Nat}:∀{l:List Nat},aeV a l=true↔a∈l
 | []=>by simp[aeV]
 | b::l=>by
   simp only[aeV];cases hb:Nat.beq a b with
   | true=>have:=Nat.eq_of_beq_eq_true hb;simp[this]
   | false =>
     have:=Nat.ne_of_beq_eq_false hb;simp[jQ (l:=l),this]
def lR{id:Nat}:∀(l:List (Nat×Bl)) (s:AS),id∉l.map (·.1)->(s.V8 l).get id=s.get id
 | [],_,_=>rfl
 | e::l,s,h=>by
   simp only[List.map_cons,List.mem_cons,not_or] at h;rw[AS.V8,lR l _ h.2];exact JP h.1 _
def jM{id:Nat}:∀{l:List (Nat×Bl)} (m:List (Nat×Bl)),id∉l.map (·.1)->look id (l++m)=look id m
 | [],_,_=>rfl
 | e::l,m,h=>by
   simp only[List.map_cons,List.mem_cons,not_or] at h;simp only[List.cons_append,look]
   have hb:Nat.beq e.1 id=false:=by
     cases hq:Nat.beq e.1 id with
     | false=>rfl
     | true=>exact absurd (Nat.eq_of_beq_eq_true hq).symm h.1
   rw[hb];exact jM m h.2
def aF{id:Nat}:∀(l:List (Nat×Nat)) (s:AS),(s.Tn l).get id=s.get id
 | [],_=>rfl
 | e::l,s=>by rw[AS.Tn,aF l];rfl
section
variable {P:Program} {G:Bc} {ops:Array Oper}
def wG{fr:List AV}{s s1:AS}{o:Oper}{hs hs':List Hn}{v:AV}{cd:List Cd}{T:List Nat}(h:aH P G ops fr s o hs=some (v,s1,hs',cd))(hT:Zl G ops fr o hs=some T)(hc:RD P G cd)(ha:BX o.op=false)(id:Nat)(hid:id∉T):s1.get id=s.get id:=by
 have hj:=Pn h hc;cases hq:quiet o.op with
 | true=>rw[(Kc hq hj).1]
 | false =>
   unfold aH at h;unfold Zl at hT;split at h
   · rename_i hw
     rw[hw] at hT;simp only at hT;unfold aiE at hT;split at hT;rename_i t a x ho;unfold wF at h;rw[ho] at h;simp only at h
     have h1:∃a' x',Bg G fr a=some a'/\Bg G fr x=some x'/\L3 P s t a' x'=some s1:=by
       rcases VI h hc with ⟨a',x',h2,h3,h4,_⟩ | h2
       exact⟨a',x',h2,h3,h4⟩;have h1:=VH h2;rw[Nr] at h1;unfold QC at h1;rw[ho] at h1;simp only at h1;split at h1;rename_i a' x' zT YD;obtain⟨s',Gr,he⟩:=map_some h1;injection he with he1 he2
       subst he2;exact⟨a',x',zT,YD,Gr⟩;cases h1
     obtain⟨a',x',zT,YD,Gr⟩:=h1;rw[zT] at hT;split at hT;rename_i Rq off OI;cases OI;cases hT;simp only[List.mem_singleton] at hid;unfold L3 at Gr;split at Gr;rename_i i id2 aME hi2 adJ;cases adJ;split at Gr;split at Gr;cases Gr;exact JP hid _;cases Gr;cases Gr;cases Gr;cases hT
     · rename_i t m k x ho
       unfold wF at h;rw[ho] at h;simp only at h;split at hT
       · rename_i Rq OI
         rw[OI] at h;cases hT;simp only[List.mem_singleton] at hid;simp only at h;split at h
         · split at h
           · have apI:∀kk x' s2,KG P s t (.mp Rq) kk x'=some s2->s2.get id=s.get id:=by
               intro kk x' s2 h2;unfold KG at h2
               repeat' split at h2
               all_goals first
                 | (cases h2;done)
                 | (rename_i adJ;cases adJ;cases h2;exact JP hid _)
                 | (simp_all only [AV.mp.injEq,Option.some.injEq];subst_vars;exact JP hid _)
             unfold awB at h;split at h;cases h;exact apI _ _ _ hc.1;cases h;exact JP hid _;cases h
           cases h
         cases h
       cases hT
     rename_i cl ho;split at hT;rename_i f H9;unfold wF at h;rw[ho] at h;simp only[H9] at h;unfold Yr at h;split at h;split at h;cases h;rfl;cases h;cases hT;split at h;cases h;cases hT;rw[aF];exact lR _ _ hid;cases h;split at h;cases h;cases hT;exact jM _ hid;cases h;cases h;rename_i H9;unfold wF at h;rw[ho] at h;simp only[H9] at h;split at hT;split at h;split at h;split at h;unfold acO at h;simp only at h;split at h;cases h;rfl;split at h;split at h;cases h;rfl;cases h;cases h;cases h;cases h;cases h;cases h;split at h;split at h;split at h;unfold acO at h;simp only at h;cases h;rfl;cases h;cases h;cases h;cases hT;rw[hq] at hT;cases hT;rw[hq] at hT;cases hT
   cases h;rfl
def qP{fr:List AV}{o:Oper}{hs:List Hn}{T:List Nat}(hT:Zl G ops fr o hs=some T){id:Nat}(h:id∈T)(ha:BX o.op=false):calm o.op=false:=by
 unfold calm;rw[ha];simp only;cases hq:quiet o.op with
 | false=>rfl
 | true =>
   exfalso;unfold Zl at hT;split at hT;unfold aiE at hT;split at hT;rename_i ho;rw[ho] at hq;cases hq;rename_i ho;rw[ho] at hq;cases hq;rename_i cl ho;split at hT;rename_i H9;rw[ho] at hq;simp[quiet,H9] at hq;split at hT;cases hT;cases h;cases hT;cases h;cases hT;rw[hq] at hT;cases hT;cases h;rw[hq] at hT;cases hT;cases h;cases hT;cases h
def amE{q:Nat}:∀{l:List Oper} {hs hs':List Hn} {fr fr':List AV} {s s':AS} {cd:List Cd} {t:List (List AV×AS×AV)} {Ts:List (List Nat)},wH P G ops l hs fr s=some (hs',cd,t,Ts,fr',s')->RD P G cd ->
   S1 P G (XS P G) H0 ops q l fr s t fr' s'/\(∀o∈l,BX o.op=false)/\(∀(i:Nat) id,i < l.length->(∀T,Ts[i]?=some T->id∉T)->(FN t s' (i+1)).get id=(FN t s' i).get id)/\∀(i:Nat) o T id,l[i]?=some o->Ts[i]?=some T->id∈T->calm o.op=false:=by
 intro l
 induction l with
 | nil =>
   intro hs hs' fr fr' s s' cd t Ts h hc;simp only[wH] at h;cases h;exact⟨.nil,(λo h=>by cases h),(λi id h=>by simp at h),λi o T id h=>by simp at h⟩
 | cons o l ih =>
   intro hs hs' fr fr' s s' cd t Ts h hc;simp only[wH] at h;split at h;cases h
   · rename_i ha
     split at h
     · rename_i T hT
       split at h
       · rename_i v s1 RT zL h1
         unfold asW at h;split at h
         · rename_i aL vU t2 Ts2 fr2 s2 h2
           cases h;obtain⟨c1,c2⟩:=hc.Wk;obtain⟨k1,k2,k3,k4⟩:=ih h2 c2;refine⟨.cons ha (Pn h1 c1) k1,λo' Wv=>?_,λi id hi hno=>?_,λi o' T' id Wv hT' hid=>?_⟩;rcases List.mem_cons.1 Wv with rfl | Wv
           exact ha;exact k2 o' Wv
           · cases i with
             | zero =>
               have e1:FN ((fr,s,v)::t2) s' 0=s:=rfl
               have e2:FN ((fr,s,v)::t2) s' (0+1)=s1:=by
                 rw[show FN ((fr,s,v)::t2) s' (0+1)=FN t2 s' 0 by unfold FN;simp];exact k1.at.1
               rw[e1,e2];exact wG h1 hT c1 ha id (hno T rfl)
             | succ i =>
               have e:∀j,FN ((fr,s,v)::t2) s' (j+1)=FN t2 s' j:=λj=>by unfold FN;simp
               rw[e,e];exact k3 i id (by simpa using hi) (λT' h'=>hno T' (by simpa using h'))
           cases i with
           | zero=>simp at Wv hT';subst Wv hT';exact qP hT hid ha
           | succ i=>exact k4 i o' T' id (by simpa using Wv) (by simpa using hT') hid
         cases h
       cases h
     cases h
def Zk{ms:List Nat}{id i:Nat}:∀{Ts:List (List Nat)} {l0:Nat},Vk ms id i Ts l0=true->∀{l:Nat} {T:List Nat},Ts[l]?=some T->id∈T->(l0+l < i->SK ms i (l0+l)=true)/\(i < l0+l->SK ms (l0+l) i=true):=by
 intro Ts
 induction Ts with
 | nil=>intro l0 _ l T h;simp at h
 | cons T0 Ts ih =>
   intro l0 h l T hT hid;simp only[Vk,Bool.and_eq_true] at h;cases l with
   | zero =>
     simp at hT;subst hT;have h1:=h.1;rw[jQ.2 hid] at h1;simp only at h1;constructor;intro hlt;have e:Nat.blt l0 i=true:=Nat.ble_eq_true_of_le hlt;rw[e] at h1;exact h1;intro hlt
     have e:Nat.blt l0 i=false:=by
       cases hq:Nat.blt l0 i with
       | false=>rfl
       | true=>have:=Nat.le_of_ble_eq_true hq;omega
     have e2:Nat.blt i l0=true:=Nat.ble_eq_true_of_le hlt;rw[e,e2] at h1;exact h1
   | succ l =>
     have:=ih h.2 (l:=l) (by simpa using hT) hid
     rw[show l0+(l+1)=l0+1+l by omega];exact this
def afU{ms:List Nat}{Ts:List (List Nat)}:∀{os:List Oper} {ts:List (List AV×AS×AV)} {i:Nat},kO G ops ms Ts os ts i=true->∀{j:Nat} {o:Oper} {x:List AV×AS×AV},os[j]?=some o->ts[j]?=some x->CC ops x.1 o=true->reads o.op=true->∃r,aoD G x.1 o=some r/\∀id,r=some id->Vk ms id (i+j) Ts 0=true:=by
 intro os
 induction os with
 | nil=>intro ts i _ j o x h;simp at h
 | cons y os ih =>
   intro ts i h j o x ho hx hw hr;cases ts with
   | nil=>simp at hx
   | cons t ts =>
     simp only[kO,Bool.and_eq_true] at h;cases j with
     | zero =>
       simp at ho hx;subst ho hx;have h1:=h.1;rw[hw,hr] at h1;simp only at h1;split at h1;cases h1;rename_i hq;exact⟨none,hq,λid h=>by cases h⟩;rename_i id hq;exact⟨some id,hq,λRq h=>by cases h;exact h1⟩
     | succ j =>
       have:=ih h.2 (j:=j) (by simpa using ho) (by simpa using hx) hw hr
       rw[show i+(j+1)=i+1+j by omega];exact this
def aoE{fr:List AV}{s s2:AS}{o:Oper}{v:AV}{r:Option Nat}(hr:aoD G fr o=some r)(hs:∀id,r=some id->s2.get id=s.get id)(h:QC P G fr s o=some (.val v s)):QC P G fr s2 o=some (.val v s2):=by
 unfold aoD at hr;split at hr;rename_i t a ho;rw[Ct] at hr;unfold QC at h ⊢;rw[ho] at h ⊢;simp only at h ⊢;obtain⟨v',h3,h4⟩:=map_some h;injection h4 with h4
 subst h4;obtain⟨b,h5,h6⟩:=bind_some h3;rw[h5] at hr ⊢;split at hr;rename_i id off OI;cases OI;cases hr
 have:KY P s2 t (.ptr id off)=KY P s t (.ptr id off):=by
   simp only[KY];rw[hs id rfl]
 simp only[Option.bind_some];rw[this,h6];rfl;rename_i OI;cases OI;simp only[Option.bind_some];rw[show KY P s2 t (.el _)=KY P s t (.el _) from rfl,h6];rfl;cases hr;rename_i t m k ok ho;rw[Ct] at hr;unfold QC at h ⊢;rw[ho] at h ⊢;simp only at h ⊢;split at hr;rename_i id OI;cases hr;rw[OI] at h ⊢;split at h;rename_i a b ha hb;cases ha;obtain⟨v',h3,h4⟩:=map_some h;injection h4 with h4
 subst h4
 have:Jf P s2 t (.mp id) b ok=Jf P s t (.mp id) b ok:=by
   simp only[Jf];rw[hs id rfl]
 rw[this,h3];rfl;cases h;cases hr
 · rename_i cl ho
   split at hr
   · rename_i H9
     unfold QC at h ⊢;rw[ho] at h ⊢;simp only[Th,H9] at h ⊢;split at hr
     · rename_i x hx
       rw[hx] at h ⊢;cases ht:cl.argTypes.toList with
       | nil=>rw[ht] at h;cases h
       | cons t1 ts =>
         cases ts with
         | cons _ _=>rw[ht] at h;cases h
         | nil =>
           rw[ht] at h;simp only at h ⊢;obtain⟨v',h3,h4⟩:=map_some h;injection h4 with h4
           subst h4;obtain⟨b,h5,h6⟩:=bind_some h3;rw[Ct,h5] at hr;rw[h5];simp only[Option.bind_some];split at hr
           · rename_i hsl
             have:WS P s2 t1 b=WS P s t1 b:=by
               unfold slV at hsl;split at hsl
               · rename_i OI;cases OI;unfold WS;split<;>first | rfl | (simp_all;done)
               · rename_i OI;cases OI;unfold WS;split<;>first | rfl | (simp_all;done)
               cases hsl
             rw[this,h6];rfl
           cases hr
     cases hr
   cases hr
 cases hr
def abL{id:Nat}{fr fr':List AV}{s s':AS}{t:List (List AV×AS×AV)}{Ts:List (List Nat)}{hs hs':List Hn}{cd:List Cd}(Hx:MJ ops=true)(h:wH P G ops ops.toList hs fr s=some (hs',cd,t,Ts,fr',s'))(hr:kO G ops (Ik ops.toList []) Ts ops.toList t 0=true)(hc:RD P G cd):J P G (XS P G) H0 (.code (.region id ops true) fr s .normal fr' s'):=by
 obtain⟨wO,mY,Gr,hlo⟩:=amE (q:=s.nx) h hc;have hlen:t.length=ops.size:=by rw[wO.len,Array.length_toList]
 obtain⟨h0,TL⟩:=wO.at;have oM:∀i o,ops[i]?=some o->Cl ops i=o.dst:=λi o ho=>by unfold Cl;rw[ho];rfl
 obtain⟨Yw,Yx⟩:=wO.dM (Cl ops) (KE t) fr 0 rfl (λi o ho=>by rw[Nat.zero_add];exact oM i o (by rw[<- Array.getElem?_toList];exact ho)) (λi=>.inl (by rw[Nat.zero_add]));rw[Nat.zero_add,Array.length_toList] at Yw;have adO:∀(i:Nat) (o:Oper),ops[i]?=some o->BX o.op=false:=λi o ho=>mY o (List.mem_of_getElem? (Ch ho))
 have Hv:∀(i:Nat) (o:Oper),ops[i]?=some o->J P G (XS P G) H0 (.op ops o (IA fr (Cl ops) (KE t) (λ_=>true) i) (FN t s' i) (.ret (KE t i)) (FN t s' (i+1))):=by
   intro i o ho;obtain⟨fi,h1,h2⟩:=TL i o (Ch ho);have:=Yx i _ h1;simp only[Nat.zero_add] at this;rcases h2 with ⟨_,h2⟩ | ⟨h2,_⟩
   rw[<- this];exact h2;rw[adO i o ho] at h2;cases h2
 have hsn:FN t s' ops.size=s':=by
   unfold FN;rw[List.getElem?_eq_none (by omega)]
 have hTl:∀(l:Nat) T id,Ts[l]?=some T->id∈T->l < ops.size->YN ops l:=by
   intro l T id hT hid hl;exact⟨ops[l],Array.getElem?_eq_getElem hl,hlo l ops[l] T id (Ch (Array.getElem?_eq_getElem hl)) hT hid⟩
 have Tp:∀(bx:Nat) (d i:Nat),i+d<=ops.size->(∀l,i<=l->l < i+d->∀T,Ts[l]?=some T->bx∉T)->(FN t s' (i+d)).get bx=(FN t s' i).get bx:=by
   intro bx d
   induction d with
   | zero=>intro i _ _;rfl
   | succ d ih =>
     intro i hle hno;rw[show i+(d+1)=(i+d)+1 by omega,Gr (i+d) bx (by rw[Array.length_toList];omega) (hno (i+d) (by omega) (by omega))];exact ih i (by omega) (λl h1 h2=>hno l h1 (by omega))
 have key:=J.draw (P:=P) (G:=G) (X:=XS P G) (H:=H0) (id:=id) (f0:=fr) (s0:=s) [] (KE t) (FN t s') h0 Hx (λi o ho _=>Hv i o ho) (λi o ho hq=>by
   obtain⟨h1,h2⟩:=Kc hq (Hv i o ho);refine⟨h1,?_⟩;rcases h2 with h2 | ⟨hw,h2⟩
   exact .inl h2
   · refine .inr ⟨hw,λk hk ZU=>?_⟩
     cases hrd:reads o.op with
     | false=>exact T6 hq hrd h2 _
     | true =>
       have hil:i < ops.size:=(Array.getElem?_eq_some_iff.1 ho).1;obtain⟨fi,hti,_⟩:=TL i o (Ch ho);have zV:=Yx i _ hti;simp only[Nat.zero_add] at zV;obtain⟨r,hr1,hr2⟩:=afU hr (Ch ho) hti (by rw[zV];exact hw) hrd;rw[zV] at hr1;refine aoE hr1 (λbx hbx=>?_) h2;have hto:=hr2 bx hbx;rw[Nat.zero_add] at hto;rcases Nat.lt_or_ge k i with hki | hki
       have:=Tp bx (i - k) k (by omega) (λl h3 h4 T hT hm=>by
         have hd:=(Zk hto hT hm).1 (by omega);rw[Nat.zero_add] at hd;have:=ZU.1 l (hTl l T bx hT hm (by omega)) hd;omega)
       rw[show k+(i - k)=i by omega] at this;exact this.symm
       have:=Tp bx (k - i) i (by omega) (λl h3 h4 T hT hm=>by
         have wN:=hTl l T bx hT hm (by omega);rcases Nat.lt_or_ge i l with h5 | h5
         have hd:=(Zk hto hT hm).2 (by omega);rw[Nat.zero_add] at hd;have:=ZU.2 l wN hd;omega;have:l=i:=by omega
         subst this;obtain⟨o2,ho2,hcm⟩:=wN;rw[ho] at ho2;cases ho2;rw[X7 hq] at hcm;cases hcm)
       rw[show i+(k - i)=k by omega] at this;exact this) (λi o e ho he=>by
   have:=adO i o ho;rw[he] at this;cases this)
 rw[<- Yw,hsn] at key;exact key
end
end AI
namespace AI
open Go Go.RowKit
section
variable {P:Program} {G:Bc} {ops:Array Oper} {f0:List AV} {vals:Nat->AV} {s0 s1:AS} {p:Nat} {v:AV}
structure aHF(G:Bc)(ops:Array Oper)(f0:List AV)(vals:Nat->AV)(s0:AS)(p:Nat)(mV:Cx)(w0:World)(L:Array Bool)(a:Act)(w:World):Prop where
 size:L.size=ops.size
 closed:NS ops.toList (λj=>L.getD j false)
 st:∃c,Ext mV w0 c w/\St G c w s0/\CU c w (IA f0 (Cl ops) vals (λj=>L.getD j false) ops.size) a.tmps.toList
 defers:a.defers=[]
 out:L.getD p false=false
def abO(Hx:MJ ops=true)(hp:p < ops.size)
   (hl:∀i o,ops[i]?=some o->i≠p->(p < i->SK (Ik ops.toList []) i p=false)->Sound P G (.op ops o (IA f0 (Cl ops) vals (λ_=>true) i) s0 (.ret (vals i)) s0))
   (awP:∀o,ops[p]?=some o->Sound P G (.op ops o (IA f0 (Cl ops) vals (λ_=>true) p) s0 (.pan v) s1))
   {mV:Cx} {w0:World} {fr':List AV} (Q:Exit->Act->World->Prop) (hQ:∀e' a' w',Te G mV w0 (.pan v) fr' s1 e' a' w'->Q e' a' w') :
   ∀(fuel:Nat) (L:Array Bool) (a:Act) (w:World),aHF G ops f0 vals s0 p mV w0 L a w->iF (λj=>L.getD j false) ops.size=fuel->wpAny P .any ops Q fuel L a w:=by
 intro fuel
 induction fuel with
 | zero =>
   intro L a w hI hc;have:=iH ops.size hc p hp;rw[hI.out] at this;cases this
 | succ fuel ih =>
   intro L a w hI aKC;refine⟨λdU=>?_,λi hi=>?_⟩
   · exfalso
     have all:∀i,i < ops.size->L.getD i false=true:=by
       intro i
       induction i using Nat.strongRecOn with
       | _ i ihi =>
         intro hlt;cases gJ:L.getD i false with
         | true=>rfl
         | false =>
           exfalso;have ho:ops[i]?=some (ops[i]'hlt):=Array.getElem?_eq_getElem hlt
           have:=kR hI.size ho gJ (λe he hb=>by
             have h1:=jX Hx ho he hb;exact ihi e.on h1 (by omega))
           rw[dU] at this;cases this
     have:=all p hp;rw[hI.out] at this;cases this
   · obtain⟨o,ho,gJ,YA,hlt⟩:=mem_ready hI.size hi
     obtain⟨c,hx,Gr,hfr⟩:=hI.st
     have hip:p < i->SK (Ik ops.toList []) i p=false:=by
       intro h1;cases hd:SK (Ik ops.toList []) i p with
       | false=>rfl
       | true =>
         have:=Yb hI.closed (Ch ho) YA hd;rw[hI.out] at this;cases this
     have hMi:(L.setIfInBounds i true).getD i false=true:=by
       have:i < L.size:=by rw[hI.size];exact hlt
       simp[this]
     have sB:∀j,j≠i->(L.setIfInBounds i true).getD j false=L.getD j false:=by
       intro j hj;simp only[Array.getD_eq_getD_getElem?];rw[Array.getElem?_setIfInBounds_ne (λe=>hj e.symm)]
     have hle:∀j,L.getD j false=true->(L.setIfInBounds i true).getD j false=true:=by
       intro j hj;by_cases e:j=i;subst e;exact hMi;rw[sB j e];exact hj
     have Yu:NS ops.toList (λj=>(L.setIfInBounds i true).getD j false):=by
       intro j y hy hj e he hb;by_cases ej:j=i;subst ej;rw[Ch ho] at hy;cases hy;exact hle _ (YA e he hb);have hj2:L.getD j false=true:=by rw[<- sB j ej];exact hj
       exact hle _ (hI.closed j y hy hj2 e he hb)
     have adG:iF (λj=>(L.setIfInBounds i true).getD j false) ops.size=fuel:=by
       have:=(rI (L:=λj=>L.getD j false) (M:=λj=>(L.setIfInBounds i true).getD j false) gJ hMi sB ops.size).1 hlt;omega
     have awR:=rV (f0:=f0) (vals:=vals) (L:=λj=>L.getD j false) (M:=λj=>(L.setIfInBounds i true).getD j false) Hx hI.closed ho gJ hMi sB
     have jF:∀x∈o.op.operands,ZK G c w (IA f0 (Cl ops) vals (λ_=>true) i) a.eval x:=by
       intro x hxo v hv;cases x with
       | tmp t =>
         have adM:t∈o.looksAt ops:=by
           unfold Oper.looksAt;rw[List.mem_append];left;rw[List.mem_filterMap];exact⟨.tmp t,Array.mem_toList_iff.2 hxo,rfl⟩
         have he:=SM (f0:=f0) (vals:=vals) Hx hI.closed ho gJ YA adM
         have:Bg G (IA f0 (Cl ops) vals (λj=>L.getD j false) ops.size) (.tmp t)=some v:=by
           rw[<- hv];simp only[Bg,List.getD_eq_getElem?_getD,he]
         exact Gf Gr hfr this
       | const z=>exact Gf (fr:=IA f0 (Cl ops) vals (λj=>L.getD j false) ops.size) Gr hfr hv
       | global g=>exact Gf (fr:=IA f0 (Cl ops) vals (λj=>L.getD j false) ops.size) Gr hfr hv
       | func f=>exact Gf (fr:=IA f0 (Cl ops) vals (λj=>L.getD j false) ops.size) Gr hfr hv
     have Wx:CC ops (IA f0 (Cl ops) vals (λ_=>true) i) o=Region.wanted o (yielded ops a.tmps):=by
       refine NU (c:=c) (w:=w) (λj want hg d hd=>⟨_,hfr,?_⟩);refine SM Hx hI.closed ho gJ YA ?_;unfold Oper.looksAt;rw[List.mem_append];right;rw[hg];simp[hd]
     have dO:OG P ops o (wpAny P .any ops Q fuel (L.setIfInBounds i true)) Q a w->wpOp P ops Q i (wpAny P .any ops Q fuel (L.setIfInBounds i true)) a w:=by
       intro h;unfold wpOp;rw[ho];unfold OG at h;simp only;split;rename_i hw;rw[if_pos hw] at h;exact .inl h;rename_i hw;rw[if_neg hw] at h;exact h
     refine dO ?_;by_cases hpe:i=p;subst hpe;refine awP o ho c w a _ _ Gr jF Wx ?_;intro u w' c' YD Po hu;exact hQ _ _ _ ⟨c',hx.trans YD,Po,hI.defers,u,rfl,hu⟩;refine hl i o ho hpe hip c w a _ _ Gr jF Wx ?_;intro u w' c' YD Po hu;refine ih _ _ _ ⟨by simp[hI.size],Yu,⟨c',hx.trans YD,Po,?_⟩,by cases o.dst<;>exact hI.defers,?_⟩ adG
     rw[awR];exact SH (hfr.mono YD) hu;rw[sB p (λe=>hpe e.symm)];exact hI.out
def pY(hm:P.follows .mixedOrders=true){id:Nat}{fr':List AV}(Hx:MJ ops=true)(hp:p < ops.size)
   (hl:∀i o,ops[i]?=some o->i≠p->(p < i->SK (Ik ops.toList []) i p=false)->Sound P G (.op ops o (IA f0 (Cl ops) vals (λ_=>true) i) s0 (.ret (vals i)) s0))
   (awP:∀o,ops[p]?=some o->Sound P G (.op ops o (IA f0 (Cl ops) vals (λ_=>true) p) s0 (.pan v) s1)):Sound P G (.code (.region id ops true) f0 s0 (.pan v) fr' s1):=by
 intro cx w a Q hs hf hd hQ;refine wp_region_any hm ?_;obtain⟨x,st⟩:=hs.same (iC w)
 have gf:∀j,(Array.replicate ops.size false).getD j false=false:=by
   intro j;simp only[Array.getD_eq_getD_getElem?,Array.getElem?_replicate];split<;>simp
 refine abO Hx hp hl awP Q hQ ops.size _ a _ ⟨by simp,?_,⟨_,x,st,?_⟩,hd,gf p⟩ ?_;intro i o ho hL;exact absurd (show(Array.replicate ops.size false).getD i false=true from hL) (by rw[gf i];simp)
 · have:IA f0 (Cl ops) vals (λj=>(Array.replicate ops.size false).getD j false) ops.size=f0:=by
     have key:∀n,IA f0 (Cl ops) vals (λj=>(Array.replicate ops.size false).getD j false) n=f0:=by
       intro n
       induction n with
       | zero=>rfl
       | succ n ih =>
         simp only[IA,ih];rw[if_neg];rw[gf n];simp
     exact key _
   rw[this];exact hf.mono x
 · have key:∀n,iF (λj=>(Array.replicate ops.size false).getD j false) n=n:=by
     intro n
     induction n with
     | zero=>rfl
     | succ n ih =>
       simp only[iF,ih,gf n];simp
   exact key _
end
end AI
namespace AI
open Go Go.RowKit
abbrev HS:=Option (List Hn×List Cd×List AV×AS)
def asV(cd:List Cd):HS->HS
 | some (hs,cd',fr,s)=>some (hs,cd++cd',fr,s)
 | none=>none
abbrev HC:=Option (AX×List Hn×List Cd×List AV×AS)
def aI(cd:List Cd):HC->HC
 | some (e,hs,cd',fr,s)=>some (e,hs,cd++cd',fr,s)
 | none=>none
def amC(P:Program)(G:Bc)(ops:Array Oper)(fr:List AV)(s:AS)(o:Oper):List Hn->HO
 | .p v s1::hs=>(match CC ops fr o with
   | true=>(match Uy P G fr s o with
     | some (.ent f args)=>some (v,s1,hs,[.asK f args s v s1])
     | some (.pan v')=>some (v',s,hs,[])
     | _=>none)
   | false=>none)
 | .q v pre tp Rc tu::hs=>(match CC ops fr o with
   | true=>(match Uy P G fr s o with
     | some (.ent f args)=>some (v,(s.V8 Rc).Tn tu,hs,[.E7 f args (.pan v) pre tp Rc tu,.zM (Yo s pre) (OF pre) (aE s.F tp) (O7 tp)])
     | _=>none)
   | false=>none)
 | _=>none
def acW(P:Program)(G:Bc)(ops:Array Oper):List Oper->List Hn->List AV->AS->HC
 | [],hs,fr,s=>some (.normal,hs,[],fr,s)
 | o::l,hs,fr,s=>(match amC P G ops fr s o hs with
   | some (v,s1,RT,cd)=>some (.pan v,RT,cd,fr,s1)
   | none=>(match aH P G ops fr s o hs with
     | some (v,s1,RT,cd)=>aI cd (acW P G ops l RT (Jw fr o.dst v) s1)
     | none=>none))
def jB(P:Program)(G:Bc)(ops:Array Oper):List Oper->List Hn->List AV->AS->HS
 | [],hs,fr,s=>some (hs,[],fr,s)
 | o::l,hs,fr,s=>(match iZ P G ops fr s o hs with
   | some (v,s1,RT,cd)=>asV cd (jB P G ops l RT (Jw fr o.dst v) s1)
   | none=>none)
def steady(op:Op):Bool:=match quiet op with
 | true=>true
 | false=>(match op with
   | .call cl=>(match cl.callee with | .value _=>true | _=>false)
   | _=>false)
def Q9:List Oper->Bool
 | []=>true
 | o::l=>(match steady o.op with | true=>Q9 l | false=>false)
def aBX:HS->HC
 | some (hs,cd,fr,s)=>some (.normal,hs,cd,fr,s)
 | none=>none
def aBW(P:Program)(G:Bc)(ops:Array Oper)(hs:List Hn)(fr:List AV)(s:AS):HC:=match rsv P ops.toList with
 | some r=>(match hTr P G ops ops.toList s.nx hs fr (s.hold r) with
   | some (hs',cd,t,fr',s')=>(match L8 G ops s.nx ops.toList t with
     | true=>(match XA P ops t s' s.nx r with
       | true=>some (.normal,hs',cd,fr',s')
       | false=>none)
     | false=>none)
   | none=>none)
 | none=>none
def acQ(P:Program)(G:Bc)(ops:Array Oper)(c:Nat)(hs:List Hn)(fr:List AV)(s:AS):HC:=match Nat.blt c ops.size with
 | true=>(match UX (Ik ops.toList []) c ops.toList 0 with
   | true=>(match wJ P G ops c ops.toList 0 hs fr s with
     | some (hs',cd,_,fr',s')=>some (.normal,hs',cd,fr',s')
     | none=>none)
   | false=>none)
 | false=>none
def asR(P:Program)(G:Bc)(ops:Array Oper)(hs:List Hn)(fr:List AV)(s:AS):HC:=match wH P G ops ops.toList hs fr s with
 | some (hs',cd,t,Ts,fr',s')=>(match kO G ops (Ik ops.toList []) Ts ops.toList t 0 with
   | true=>some (.normal,hs',cd,fr',s')
   | false=>none)
 | none=>none
abbrev HQ:=Option (List AV×List Hn×List Cd×Option (AV×AS))
def dW(v:AV)(cd:List Cd):HQ->HQ
 | some (vs,hs,vU,r)=>some (v::vs,hs,cd++vU,r)
 | none=>none
def atA(r:AV×AS)(cd:List Cd):HQ->HQ
 | some (vs,hs,vU,none)=>some (.sc undef::vs,hs,cd++vU,some r)
 | _=>none
def behind(ms:List Nat)(p i:Nat):Bool:=match Nat.blt p i with
 | true=>SK ms i p
 | false=>false
def Yt(P:Program)(G:Bc)(ops:Array Oper)(ms:List Nat)(p:Nat)(s:AS):List Oper->Nat->List Hn->List AV->HQ
 | [],_,hs,_=>some ([],hs,[],none)
 | o::l,i,hs,fr=>(match Nat.beq i p with
   | true=>(match amC P G ops fr s o hs with
     | some (v,s2,aL,cd)=>atA (v,s2) cd (Yt P G ops ms p s l (i+1) aL (Jw fr o.dst (.sc undef)))
     | none=>none)
   | false=>(match behind ms p i with
     | true=>dW (.sc undef) [] (Yt P G ops ms p s l (i+1) hs (Jw fr o.dst (.sc undef)))
     | false=>(match steady o.op with
       | true=>(match iZ P G ops fr s o hs with
         | some (v,_,aL,cd)=>dW v cd (Yt P G ops ms p s l (i+1) aL (Jw fr o.dst v))
         | none=>none)
       | false=>none)))
def acY(P:Program)(G:Bc)(ops:Array Oper)(p:Nat)(hs:List Hn)(fr:List AV)(s:AS):HC:=match Yt P G ops (Ik ops.toList []) p s ops.toList 0 hs fr with
 | some (_,aL,cd,some (v,s2))=>some (.pan v,aL,cd,fr,s2)
 | _=>none
def asT(P:Program)(G:Bc)(ops:Array Oper)(fr:List AV)(s:AS):List Hn->HC
 | .zq p::hs=>acY P G ops p hs fr s
 | .z c::hs=>acQ P G ops c hs fr s
 | .za::hs=>asR P G ops hs fr s
 | hs=>(match Q9 ops.toList with
   | true=>aBX (jB P G ops ops.toList hs fr s)
   | false=>aBW P G ops hs fr s)
def adA(P:Program)(G:Bc)(ops:Array Oper)(d:Bool)(hs:List Hn)(fr:List AV)(s:AS):HC:=match d with
 | false=>acW P G ops ops.toList hs fr s
 | true=>(match MJ ops with
   | true=>asT P G ops fr s hs
   | false=>none)
def Nh(P:Program)(G:Bc):Code->List Hn->List AV->AS->HC
 | .skip,hs,fr,s=>some (.normal,hs,[],fr,s)
 | .exit id,hs,fr,s=>some (.exit id,hs,[],fr,s)
 | .ret,hs,fr,s=>some (.ret,hs,[],fr,s)
 | .seq x y,hs,fr,s=>(match Nh P G x hs fr s with
   | some (.normal,RT,cd,Wr,s1)=>aI cd (Nh P G y RT Wr s1)
   | r=>r)
 | .cond q x y,hs,fr,s=>(match AZ G fr q with
   | some (.sc (.bool true))=>Nh P G x hs fr s
   | some (.sc (.bool false))=>Nh P G y hs fr s
   | _=>none)
 | .block id c,hs,fr,s=>(match Nh P G c hs fr s with
   | some (e,RT,cd,Wr,s1)=>some (EZ id e,RT,cd,Wr,s1)
   | none=>none)
 | .region _ ops d,hs,fr,s=>(match hs with
   | .n l::hs=>(match nzs l fr s with
     | some (fr2,s2)=>adA P G ops d hs fr2 s2
     | none=>none)
   | .f id b b2::hs=>(match look id s.h with
     | some b0=>aI [.zM [some b0] [some b] [] [],.rd s.nr b b2] (adA P G ops d hs fr ⟨uJ id b2 s.h,s.nx,(s.nr,0)::s.F,s.nr+1⟩)
     | none=>none)
   | hs=>adA P G ops d hs fr s)
 | _,_,_,_=>none
section
variable {P:Program} {G:Bc} {ops:Array Oper}
def sC{fr:List AV}{s s1:AS}{o:Oper}{hs hs':List Hn}{v:AV}{cd:List Cd}(h:amC P G ops fr s o hs=some (v,s1,hs',cd))(hc:RD P G cd):J P G (XS P G) H0 (.op ops o fr s (.pan v) s1):=by
 unfold amC at h;split at h;rw[Nr] at h;split at h;rename_i hw;split at h;rename_i h1;cases h;exact .Sj hw h1 (.ext hc.1);rename_i h1;cases h;exact .atK hw h1;cases h;cases h;rw[Nr] at h;split at h;rename_i hw;split at h;rename_i h1;cases h;exact .Sj hw h1 (.ext (hc.1 s hc.2.1.1 hc.2.1.2));cases h;cases h;cases h
def amA{l:List Oper}{k:Nat}(hk:l=ops.toList.drop k){hs hs':List Hn}{fr fr':List AV}{s s':AS}{e:AX}{cd:List Cd}(h:acW P G ops l hs fr s=some (e,hs',cd,fr',s'))(hc:RD P G cd):J P G (XS P G) H0 (.ops ops (List.range' k l.length) fr s e fr' s'):=by
 induction l generalizing k hs fr s cd with
 | nil=>simp only[acW] at h;cases h;exact .afH
 | cons o l ih =>
   obtain⟨k1,k2⟩:=drop_cons hk;simp only[acW] at h;split at h;rename_i v s1 RT zL h1;cases h;rw[List.length_cons,List.range'_succ];exact .afI (by rw[<- Array.getElem?_toList];exact k1) (sC h1 hc);split at h;rename_i v s1 RT zL h1;unfold aI at h;split at h;rename_i e2 aL vU fr2 s2 h2;cases h;obtain⟨c1,c2⟩:=hc.Wk;rw[List.length_cons,List.range'_succ];exact .tE (by rw[<- Array.getElem?_toList];exact k1) (Pn h1 c1) (ih k2 h2 c2);cases h;cases h
def amB{l:List Oper}{q:Nat}(Gr:Q9 l=true){hs hs':List Hn}{fr fr':List AV}{s s':AS}{cd:List Cd}(h:jB P G ops l hs fr s=some (hs',cd,fr',s'))(hc:RD P G cd):s'=s/\∃t,S1 P G (XS P G) H0 ops q l fr s t fr' s/\∀x∈t,x.2.1=s:=by
 induction l generalizing hs fr cd s with
 | nil=>simp only[jB] at h;cases h;exact⟨rfl,[],.nil,λx hx=>by cases hx⟩
 | cons o l ih =>
   simp only[Q9] at Gr;split at Gr
   · rename_i dY
     simp only[jB] at h;split at h
     · rename_i v s1 RT zL h1
       unfold asV at h;split at h
       · rename_i aL vU fr2 s2 h2
         cases h;obtain⟨c1,c2⟩:=hc.Wk;obtain⟨h1,hA⟩:=SN h1;have hj:=Pn h1 c1
         have mY:BX o.op=false:=by
           cases ha:BX o.op with
           | false=>rfl
           | true=>obtain⟨e,he⟩:=KS ha;rw[he] at dY;simp[steady,quiet] at dY
         have RT:s1=s:=by
           cases hq:quiet o.op with
           | true=>exact(Kc hq hj).1
           | false =>
             unfold steady at dY;rw[hq] at dY;simp only at dY;split at dY;rename_i cl jE;split at dY;rename_i f H9;unfold aH at h1;split at h1;unfold wF at h1;rw[jE] at h1;simp only[H9] at h1;unfold Yr at h1;split at h1;split at h1;cases h1;rfl;cases h1;have:=hA (by rw[jE];simp[N4,H9]);simp[eF] at this;have:=hA (by rw[jE];simp[N4,H9]);simp[eF] at this;have:=hA (by rw[jE];simp[N4,H9]);simp[eF] at this;cases h1;cases h1;rfl;cases dY;cases dY
         subst RT;obtain⟨e,t,ht,Hv⟩:=ih Gr h2 c2;subst e
         exact⟨rfl,_,.cons mY hj ht,λx hx=>by
           rcases List.mem_cons.1 hx with rfl | hx
           rfl;exact Hv x hx⟩
       cases h
     cases h
   cases Gr
def V4{l:List Oper}(Gr:Q9 l=true){i:Nat}{o:Oper}(ho:l[i]?=some o):steady o.op=true:=by
 induction l generalizing i with
 | nil=>simp at ho
 | cons x l ih =>
   simp only[Q9] at Gr;split at Gr;rename_i dY;cases i with
   | zero=>simp at ho;subst ho;exact dY
   | succ i=>exact ih Gr (by simpa using ho)
   cases Gr
def nS{X:WR}{H:Ty}{id:Nat}{fr fr':List AV}{s:AS}{t:List (List AV×AS×AV)}(Hx:MJ ops=true)(Gr:Q9 ops.toList=true)(h:S1 P G X H ops s.nx ops.toList fr s t fr' s)(Hv:∀x∈t,x.2.1=s):J P G X H (.code (.region id ops true) fr s .normal fr' s):=by
 have hlen:t.length=ops.size:=by rw[h.len,Array.length_toList]
 obtain⟨h0,TL⟩:=h.at
 have hsa:∀i,FN t s i=s:=by
   intro i;unfold FN;split;rename_i x hx;exact Hv x (List.mem_of_getElem? hx);rfl
 have oM:∀i o,ops[i]?=some o->Cl ops i=o.dst:=λi o ho=>by unfold Cl;rw[ho];rfl
 obtain⟨Yw,Yx⟩:=h.dM (Cl ops) (KE t) fr 0 rfl (λi o ho=>by rw[Nat.zero_add];exact oM i o (by rw[<- Array.getElem?_toList];exact ho)) (λi=>.inl (by rw[Nat.zero_add]));rw[Nat.zero_add,Array.length_toList] at Yw
 have mY:∀(i:Nat) (o:Oper),ops[i]?=some o->BX o.op=false:=by
   intro i o ho;have:=V4 Gr (Ch ho);cases ha:BX o.op with
   | false=>rfl
   | true=>obtain⟨e,he⟩:=KS ha;rw[he] at this;simp[steady,quiet] at this
 have hj:∀i o,ops[i]?=some o->J P G X H (.op ops o (IA fr (Cl ops) (KE t) (λ_=>true) i) s (.ret (KE t i)) s):=by
   intro i o ho;obtain⟨fi,h1,h2⟩:=TL i o (Ch ho);have:=Yx i _ h1;simp only[Nat.zero_add] at this;rcases h2 with ⟨_,h2⟩ | ⟨h2,_⟩
   rw[<- this];rw[hsa,hsa] at h2;exact h2;rw[mY i o ho] at h2;cases h2
 have key:=J.draw (P:=P) (G:=G) (X:=X) (H:=H) (id:=id) (f0:=fr) (s0:=s) [] (KE t) (λ_=>s) rfl Hx (λi o ho _=>hj i o ho) (λi o ho hq=>⟨rfl,by
   obtain⟨_,h2⟩:=Kc hq (hj i o ho);rcases h2 with h2 | ⟨hw,h2⟩
   exact .inl h2;exact .inr ⟨hw,λk _ _=>h2⟩⟩) (λi o e ho he=>by have:=mY i o ho;rw[he] at this;cases this)
 rw[<- Yw] at key;exact key
def jA{fr:List AV}{s s1:AS}{o:Oper}{hs RT:List Hn}{v:AV}{cd:List Cd}(dY:steady o.op=true)(h:iZ P G ops fr s o hs=some (v,s1,RT,cd))(hc:RD P G cd):J P G (XS P G) H0 (.op ops o fr s (.ret v) s):=by
 obtain⟨h1,hA⟩:=SN h;have hj:=Pn h1 hc
 have RT:s1=s:=by
   cases hq:quiet o.op with
   | true=>exact(Kc hq hj).1
   | false =>
     unfold steady at dY;rw[hq] at dY;simp only at dY;split at dY;rename_i cl jE;split at dY;rename_i f H9;unfold aH at h1;split at h1;unfold wF at h1;rw[jE] at h1;simp only[H9] at h1;unfold Yr at h1;split at h1;split at h1;cases h1;rfl;cases h1;have:=hA (by rw[jE];simp[N4,H9]);simp[eF] at this;have:=hA (by rw[jE];simp[N4,H9]);simp[eF] at this;have:=hA (by rw[jE];simp[N4,H9]);simp[eF] at this;cases h1;cases h1;rfl;cases dY;cases dY
 rw[RT] at hj;exact hj
def acG{f0:List AV}{dst:Nat->Option Tmp}{vals:Nat->AV}{k:Nat}:IA f0 dst vals (λ_=>true) (k+1)=Jw (IA f0 dst vals (λ_=>true) k) (dst k) (vals k):=by
 simp only[IA,if_true]
def acX{p:Nat}{s:AS}{f0:List AV}{vals:Nat->AV}:∀{l:List Oper} {i:Nat} {hs hs':List Hn} {fr:List AV} {vs:List AV} {cd:List Cd} {r:Option (AV×AS)},Yt P G ops (Ik ops.toList []) p s l i hs fr=some (vs,hs',cd,r)->l=ops.toList.drop i->RD P G cd->fr=IA f0 (Cl ops) vals (λ_=>true) i->(∀j,vals (i+j)=vs.getD j (.sc undef)) ->
   (∀j o,i<=j->ops[j]?=some o->j≠p->(p < j->SK (Ik ops.toList []) j p=false)->J P G (XS P G) H0 (.op ops o (IA f0 (Cl ops) vals (λ_=>true) j) s (.ret (vals j)) s)) /\
   (i<=p->∀v s2,r=some (v,s2)->∃o,ops[p]?=some o/\J P G (XS P G) H0 (.op ops o (IA f0 (Cl ops) vals (λ_=>true) p) s (.pan v) s2))/\(p < i->r=none):=by
 intro l
 induction l with
 | nil =>
   intro i hs hs' fr vs cd r h hl hc hfr hv;simp only[Yt] at h;cases h
   have hsz:ops.size<=i:=by
     have:=congrArg List.length hl;simp only[List.length_nil,List.length_drop,Array.length_toList] at this;omega
   exact⟨λj o hj ho=>by have:=(Array.getElem?_eq_some_iff.1 ho).1;omega,(λ_ v s2 e=>by cases e),λ_=>rfl⟩
 | cons o l ih =>
   intro i hs hs' fr vs cd r h hl hc hfr hv;obtain⟨k1,k2⟩:=drop_cons hl;have ho:ops[i]?=some o:=by rw[<- Array.getElem?_toList];exact k1
   have hd:Cl ops i=o.dst:=by unfold Cl;rw[ho];rfl
   have next:∀{v0:AV} {vs2:List AV},vs=v0::vs2->vals i=v0/\Jw fr o.dst v0=IA f0 (Cl ops) vals (λ_=>true) (i+1)/\∀j,vals (i+1+j)=vs2.getD j (.sc undef):=by
     intro v0 vs2 e;subst e;have h0:vals i=v0:=by have:=hv 0;simpa using this
     refine⟨h0,?_,λj=>?_⟩;rw[acG,hd,h0,hfr];have:=hv (j+1);rw[show i+1+j=i+(j+1) by omega,this];simp
   simp only[Yt] at h;split at h
   · rename_i hb
     have hip:=Nat.eq_of_beq_eq_true hb;split at h
     · rename_i v s2 aL zL h1
       unfold atA at h;split at h
       · rename_i vs2 hs3 vU h2
         cases h;obtain⟨c1,c2⟩:=hc.Wk;obtain⟨n1,n2,n3⟩:=next rfl
         obtain⟨q1,q2,q3⟩:=ih h2 k2 c2 n2 n3;refine⟨λj o' hj Wv hjp wL=>?_,λ_ v' s2' e=>?_,λh=>by omega⟩;exact q1 j o' (by omega) Wv hjp wL;cases e;refine⟨o,hip▸ho,?_⟩;have:=sC h1 c1;rw[hfr,hip] at this;exact this
       cases h
     cases h
   · rename_i hb
     have hip:=Nat.ne_of_beq_eq_false hb;split at h
     · rename_i hbe
       unfold dW at h;split at h
       · rename_i vs2 hs3 vU r2 h2
         cases h;obtain⟨n1,n2,n3⟩:=next rfl
         obtain⟨q1,q2,q3⟩:=ih h2 k2 hc n2 n3;unfold behind at hbe;split at hbe;rename_i hlt;have hlt:p < i:=Nat.le_of_ble_eq_true hlt;refine⟨λj o' hj Wv hjp wL=>?_,λh=>by omega,λ_=>q3 (by omega)⟩;by_cases e:j=i;subst e;rw[wL hlt] at hbe;cases hbe;exact q1 j o' (by omega) Wv hjp wL;cases hbe
       cases h
     · split at h
       · rename_i Gr
         split at h
         · rename_i v s1 aL zL h1
           unfold dW at h;split at h
           · rename_i vs2 hs3 vU r2 h2
             cases h;obtain⟨c1,c2⟩:=hc.Wk;obtain⟨n1,n2,n3⟩:=next rfl
             obtain⟨q1,q2,q3⟩:=ih h2 k2 c2 n2 n3;refine⟨λj o' hj Wv hjp wL=>?_,λh v' s2' e=>q2 (by omega) v' s2' e,λh=>q3 (by omega)⟩;by_cases e:j=i;subst e;rw[ho] at Wv;cases Wv;have:=jA Gr h1 c1;rw[hfr] at this;rw[n1];exact this;exact q1 j o' (by omega) Wv hjp wL
           cases h
         cases h
       cases h
def acZ{id p:Nat}(Hx:MJ ops=true){hs hs':List Hn}{fr fr':List AV}{s s':AS}{e:AX}{cd:List Cd}(h:acY P G ops p hs fr s=some (e,hs',cd,fr',s'))(hc:RD P G cd):J P G (XS P G) H0 (.code (.region id ops true) fr s e fr' s'):=by
 unfold acY at h;split at h;rename_i vs aL zL v s2 h1;cases h;obtain⟨q1,q2,_⟩:=acX (f0:=fr) (vals:=λj=>vs.getD j (.sc undef)) h1 rfl hc rfl (λj=>by rw[Nat.zero_add]);obtain⟨o,ho,hj⟩:=q2 (Nat.zero_le _) _ _ rfl;refine .sem λhm=>pY (vals:=λj=>vs.getD j (.sc undef)) hm Hx (Array.getElem?_eq_some_iff.1 ho).1 (λi o' Wv hi hd=>sound (TJ hm) (q1 i o' (Nat.zero_le _) Wv hi hd)) (λo' Wv=>?_);rw[ho] at Wv;cases Wv;exact sound (TJ hm) hj;cases h
def dQ{ops:Array Oper}{id:Nat}{d:Bool}{hs hs':List Hn}{fr fr':List AV}{s s':AS}{e:AX}{cd:List Cd}(h:adA P G ops d hs fr s=some (e,hs',cd,fr',s'))(hc:RD P G cd):J P G (XS P G) H0 (.code (.region id ops d) fr s e fr' s'):=by
 unfold adA at h;cases d with
 | false =>
   simp only at h;have:=amA (ops:=ops) (k:=0) (by simp) h hc;refine .region ?_;rw[Array.length_toList] at this;rw[List.range_eq_range'];exact this
 | true =>
   simp only at h;split at h;rename_i Hx;unfold asT at h;split at h;exact acZ Hx h hc;unfold acQ at h;split at h;rename_i sE;split at h;rename_i hl;split at h;rename_i OI;cases h;exact wA Hx sE hl OI hc;cases h;cases h;cases h;unfold asR at h;split at h;rename_i OI;split at h;rename_i hrd;cases h;exact abL Hx OI hrd hc;cases h;cases h;split at h;rename_i Gr;unfold aBX at h;split at h;rename_i h1;cases h;obtain⟨e,t,ht,Hv⟩:=amB (q:=s.nx) Gr h1 hc;subst e;exact nS Hx Gr ht Hv;cases h;unfold aBW at h;split at h;rename_i r hr;split at h;rename_i RT zL t Wr s1 wO;split at h;rename_i hi;split at h;rename_i adT;cases h;exact abN Hx hr wO hc hi adT;cases h;cases h;cases h;cases h;cases h
def acP(c:Code){hs hs':List Hn}{fr fr':List AV}{s s':AS}{e:AX}{cd:List Cd}(h:Nh P G c hs fr s=some (e,hs',cd,fr',s'))(hc:RD P G cd):J P G (XS P G) H0 (.code c fr s e fr' s'):=by
 induction c generalizing hs hs' fr fr' s s' e cd with
 | skip=>simp only[Nh] at h;cases h;exact .skip
 | exit id=>simp only[Nh] at h;cases h;exact .exit
 | ret=>simp only[Nh] at h;cases h;exact .ret
 | seq x y ihx ihy =>
   simp only[Nh] at h;cases hx:Nh P G x hs fr s with
   | none=>rw[hx] at h;cases h
   | some r =>
     obtain⟨e1,RT,zL,Wr,s1⟩:=r;rw[hx] at h;cases e1 with
     | normal =>
       simp only at h;unfold aI at h;split at h;rename_i e2 aL vU fr2 s2 h2;cases h;obtain⟨c1,c2⟩:=hc.Wk;exact .seq (ihx hx c1) (ihy h2 c2);cases h
     | exit id=>simp only at h;cases h;exact .qI (ihx hx hc) (by simp)
     | ret=>simp only at h;cases h;exact .qI (ihx hx hc) (by simp)
     | pan v=>simp only at h;cases h;exact .qI (ihx hx hc) (by simp)
 | cond q x y ihx ihy =>
   simp only[Nh,Ct] at h;split at h;rename_i hq;exact .cond hq (ihx h hc);rename_i hq;exact .cond hq (ihy h hc);cases h
 | block id c ih =>
   simp only[Nh] at h;split at h;rename_i h1;cases h;exact .block (ih h1 hc);cases h
 | region id ops d =>
   simp only[Nh] at h;split at h;split at h;rename_i hz;exact .Zz (λcx w vs h1 h2=>pH hz cx w vs h1 h2) (dQ h hc);cases h;split at h;rename_i b0 hb;unfold aI at h;split at h;rename_i h1;cases h;obtain⟨c1,c2⟩:=hc.Wk;refine .Zz (λcx w vs hs hf=>?_) (dQ h1 c2);have hbb:b0=_:=Option.some.inj (List.cons.inj c1.1.1).1;subst hbb;obtain⟨x,st⟩:=hs.tok;exact⟨_,x,st.xL hb (λo ho=>c1.2.1 _ _ _ (by simp[hs.JY]) ho),hf.mono x⟩;cases h;cases h;exact dQ h hc
 | _=>simp only[Nh] at h;cases h
def SO:Code->Bool
 | .loop _=>true
 | .seq x y=>SO x||SO y
 | .cond _ x y=>SO x||SO y
 | .block _ c=>SO c
 | _=>false
abbrev HP:=Option (Code×List Hn×List Cd×List AV×AS)
end
end AI
namespace AI
open Go Go.RowKit
structure PC(P:Program)(G:Bc) where
 hn:Hn
 cd:List Cd
 ok:RD P G cd
def pHs{P:Program}{G:Bc}:List (PC P G)->List Hn
 | []=>[]
 | p::l=>p.hn::pHs l
def nB{P:Program}{G:Bc}:List (PC P G)->List Cd
 | []=>[]
 | p::l=>p.cd++nB l
def RD.join{P:Program}{G:Bc}{l m:List Cd}(h:RD P G l)(k:RD P G m):RD P G (l++m):=by
 induction l with
 | nil=>exact k
 | cons c l ih=>exact⟨h.1,ih h.2⟩
def Pu{P:Program}{G:Bc}(l:List (PC P G)):RD P G (nB l):=by
 induction l with
 | nil=>trivial
 | cons p l ih=>exact p.ok.join ih
inductive KI where
 | code (c:Code)
 | iN (id:Nat)
def Ee(P:Program)(G:Bc):List KI->(AX->List AV->AS->Prop)->AX->List AV->AS->Prop
 | [],Q=>Q
 | .code k::ks,Q=>auC P G (XS P G) H0 k (Ee P G ks Q)
 | .iN id::ks,Q=>EM id (Ee P G ks Q)
inductive Sq where
 | at (id:Nat) (c:Code) (ks:List KI)
 | fin (e:AX)
abbrev HR:=Option (Sq×List Hn×List Cd×List AV×AS)
def acV(cd:List Cd):HR->HR
 | some (c,hs,cd',fr,s)=>some (c,hs,cd++cd',fr,s)
 | none=>none
def RH(r:Code->List KI->List Hn->List AV->AS->HR):List KI->AX->List Hn->List AV->AS->HR
 | [],e,hs,fr,s=>some (.fin e,hs,[],fr,s)
 | .code k::ks,.normal,hs,fr,s=>r k ks hs fr s
 | .code _::ks,e,hs,fr,s=>RH r ks e hs fr s
 | .iN id::ks,.exit Rq,hs,fr,s=>(match Nat.beq Rq id with
   | true=>RH r ks .normal hs fr s
   | false=>RH r ks (.exit Rq) hs fr s)
 | .iN _::ks,e,hs,fr,s=>RH r ks e hs fr s
def TK(P:Program)(G:Bc):Nat->Code->List KI->List Hn->List AV->AS->HR
 | 0,_,_,_,_,_=>none
 | n+1,c,ks,hs,fr,s=>(match SO c with
   | false=>(match Nh P G c hs fr s with
     | some (e,RT,cd,Wr,s1)=>acV cd (RH (TK P G n) ks e RT Wr s1)
     | none=>none)
   | true=>(match c with
     | .seq x y=>TK P G n x (.code y::ks) hs fr s
     | .block id (.loop c)=>some (.at id c ks,hs,[],fr,s)
     | .block id c=>TK P G n c (.iN id::ks) hs fr s
     | .cond q x y=>(match AZ G fr q with
       | some (.sc (.bool true))=>TK P G n x ks hs fr s
       | some (.sc (.bool false))=>TK P G n y ks hs fr s
       | _=>none)
     | _=>none))
section
variable {P:Program} {G:Bc}
def SqQ(P:Program)(G:Bc)(Q:AX->List AV->AS->Prop)(fr:List AV)(s:AS):Sq->Prop
 | .at id c ks=>WL P G (XS P G) H0 c fr s (EM id (Ee P G ks Q))
 | .fin e=>Q e fr s
def Oy{k:Code}{ks:List KI}{Q:AX->List AV->AS->Prop}{e:AX}{fr:List AV}{s:AS}(he:e≠.normal)(h:Ee P G ks Q e fr s):Ee P G (.code k::ks) Q e fr s:=by
 cases e with
 | normal=>exact absurd rfl he
 | exit id=>exact h
 | ret=>exact h
 | pan v=>exact h
def dP{r:Code->List KI->List Hn->List AV->AS->HR}{Q:AX->List AV->AS->Prop}
   (hr:∀(c:Code) (ks:List KI) {sp:Sq} {hs hs':List Hn} {fr fr':List AV} {s s':AS} {cd:List Cd},r c ks hs fr s=some (sp,hs',cd,fr',s')->RD P G cd->SqQ P G Q fr' s' sp->W P G (XS P G) H0 c fr s (Ee P G ks Q)) :
   ∀(ks:List KI) (e:AX) {sp:Sq} {hs hs':List Hn} {fr fr':List AV} {s s':AS} {cd:List Cd},RH r ks e hs fr s=some (sp,hs',cd,fr',s')->RD P G cd->SqQ P G Q fr' s' sp->Ee P G ks Q e fr s:=by
 intro ks
 induction ks with
 | nil=>intro e sp hs hs' fr fr' s s' cd h hc hk;simp only[RH] at h;cases h;exact hk
 | cons k ks ih =>
   intro e sp hs hs' fr fr' s s' cd h hc hk;cases k with
   | code c =>
     cases e with
     | normal=>simp only[RH] at h;exact hr c ks h hc hk
     | exit id=>simp only[RH] at h;exact Oy (by simp) (ih _ h hc hk)
     | ret=>simp only[RH] at h;exact Oy (by simp) (ih _ h hc hk)
     | pan v=>simp only[RH] at h;exact Oy (by simp) (ih _ h hc hk)
   | iN id =>
     show Ee P G ks Q (EZ id e) fr s;cases e with
     | normal=>simp only[RH] at h;exact ih _ h hc hk
     | ret=>simp only[RH] at h;exact ih _ h hc hk
     | pan v=>simp only[RH] at h;exact ih _ h hc hk
     | exit Rq =>
       simp only[RH] at h;split at h;rename_i hb;have:=beq_true hb;subst this;have e1:EZ Rq (.exit Rq)=.normal:=by simp[EZ]
       rw[e1];exact ih _ h hc hk;rename_i hb;have:=beq_false hb;have e1:EZ id (.exit Rq)=.exit Rq:=by simp[EZ,this]
       rw[e1];exact ih _ h hc hk
def dR{Q:AX->List AV->AS->Prop}:∀(n:Nat) (c:Code) (ks:List KI) {sp:Sq} {hs hs':List Hn} {fr fr':List AV} {s s':AS} {cd:List Cd},TK P G n c ks hs fr s=some (sp,hs',cd,fr',s')->RD P G cd->SqQ P G Q fr' s' sp->W P G (XS P G) H0 c fr s (Ee P G ks Q):=by
 intro n
 induction n with
 | zero=>intro c ks sp hs hs' fr fr' s s' cd h;simp only[TK] at h;cases h
 | succ n ih =>
   intro c ks sp hs hs' fr fr' s s' cd h hc hk;simp only[TK] at h;split at h;split at h;rename_i e RT zL Wr s1 h1;unfold acV at h;split at h;rename_i h2;cases h;obtain⟨c1,c2⟩:=hc.Wk;exact⟨_,_,_,acP c h1 c1,dP ih ks e h2 c2 hk⟩;cases h;cases h;split at h;exact aAU (ih _ _ h hc hk);cases h;exact qZ (auU hk);exact qZ (ih _ _ h hc hk);rw[Ct] at h;split at h;rename_i hq;exact akT hq (ih _ _ h hc hk);rename_i hq;exact akS hq (ih _ _ h hc hk);cases h;cases h
end
end AI
namespace AI
open Go Go.RowKit
def sub:Code->List Nat->Code
 | c,[]=>c
 | .seq x _,0::l=>sub x l
 | .seq _ y,_::l=>sub y l
 | .cond _ x _,0::l=>sub x l
 | .cond _ _ y,_::l=>sub y l
 | .block _ c,_::l=>sub c l
 | .loop c,_::l=>sub c l
 | c,_=>c
def A0(fn:Func):Code:=fn.body.getD .skip
def obv(n:Nat):AV->Bool
 | .sc _=>true
 | .any=>true
 | .ptr id _=>Nat.blt id n
 | .mp id=>Nat.blt id n
 | .msl id _ _=>Nat.blt id n
 | _=>false
theorem ayP{n m:Nat}{a:AV}(h:obv n a=true):Fits n m a a:=by
 refine .under ?_;cases a<;>simp only[obv] at h<;>first | rfl | (cases h;done) | exact decide_eq_true (Nat.le_of_ble_eq_true h)
structure FP(n m:Nat) where
 a:AV
 b:AV
 h:Fits n m a b
structure FB(n m:Nat) where
 a:Bl
 b:Bl
 h:Tf n m a b
def rR{n m:Nat}:List (FP n m)->List AV
 | []=>[]
 | p::l=>p.a::rR l
def mW{n m:Nat}:List (FP n m)->List AV
 | []=>[]
 | p::l=>p.b::mW l
abbrev MR:=Option (List AV×List AV)
def sX(b:AV):MR->MR
 | some (l,as)=>some (b::l,as)
 | none=>none
def aeT(a b:AV):MR->MR
 | some (l,as)=>some (b::l,a::as)
 | none=>none
def ayD(r:List AV->MR)(a:AV):List AV->MR
 | b::bs=>aeT a b (r bs)
 | []=>none
def sY(r:List AV->MR)(a:AV)(bs:List AV):MR:=match UG a with
 | true=>sX .any (r bs)
 | false=>none
section
variable {n m:Nat} {r:List AV->MR} {l:List AV} (hr:∀(fps:List (FP n m)) l2,r (mW fps)=some (l2,rR fps)->KX n m l l2) {a:AV} {fps:List (FP n m)} {l2:List AV}
include hr
theorem anF(h:ayD r a (mW fps)=some (l2,rR fps)):KX n m (a::l) l2:=by
 cases fps with
 | nil=>cases h
 | cons p fps =>
   simp only[mW,ayD] at h;unfold aeT at h;split at h
   · rename_i l3 as h1
     simp only[rR,Option.some.injEq,Prod.mk.injEq,List.cons.injEq] at h;obtain⟨rfl,rfl,rfl⟩:=h;exact .cons p.h (hr fps _ h1)
   · cases h
theorem jN(h:sY r a (mW fps)=some (l2,rR fps)):KX n m (a::l) l2:=by
 unfold sY at h;split at h
 · rename_i hd
   unfold sX at h;split at h
   · rename_i l3 as h1
     cases h;exact .cons (.drop hd) (hr fps _ h1)
   · cases h
 · cases h
end
def aD(m:Nat):List (Nat×Nat)->List (Nat×Nat)
 | []=>[]
 | x::l=>match Nat.blt x.1 m with
   | true=>x::aD m l
   | false=>aD m l
theorem acE{m r n:Nat}{l:List (Nat×Nat)}(h:Fo r (aD m l)=some n):Fo r l=some n/\r < m:=by
 induction l with
 | nil=>cases h
 | cons x l ih =>
   simp only[aD] at h;split at h
   · rename_i hb
     simp only[Fo] at h ⊢;split at h
     · rename_i h1
       have:=beq_true h1;subst this;cases h;exact⟨rfl,Nat.le_of_ble_eq_true hb⟩
     · exact ih h
   · rename_i hb
     obtain⟨h1,h2⟩:=ih h;refine⟨?_,h2⟩;simp only[Fo];split
     · rename_i h3
       have:=beq_true h3;subst this;rw[show Nat.blt x.1 m=true from Nat.ble_eq_true_of_le h2] at hb;cases hb
     · exact h1
section
variable {P:Program} {G:Bc}
def Frg(G:Bc)(s0:AS)(fr':List AV)(s':AS)(fr2:List AV)(s2:AS):Prop:=∀(cx:Cx) (w:World) (c':Cx) (w':World) (vs:List Value),Ext cx w c' w'->St G cx w s0->St G c' w' s'->CU c' w' fr' vs->∃c2,Ext cx w c2 w'/\St G c2 w' s2/\CU c2 w' fr2 vs
abbrev RR:=Option (List AV×AS×List AV×List Bl)
theorem abP{l:List (Nat×Bl)}{N n:Nat}(h:Kt l N):Kt (UK n l) n:=by
 induction l generalizing N with
 | nil=>trivial
 | cons e l ih =>
   simp only[UK];split
   · exact ih h.2
   · rename_i hb
     refine⟨?_,h.2⟩;have:¬n<=e.1:=λhle=>by rw[Nat.ble_eq_true_of_le hle] at hb;cases hb
     omega
def Ua(P:Program)(G:Bc)(L:Code)(s0:AS)(Q:AX->List AV->AS->Prop):AX->List AV->AS->Prop
 | .normal,fr',s'=>∃fr2 s2,Frg G s0 fr' s' fr2 s2/\WL P G (XS P G) H0 L fr2 s2 Q
 | .exit id,fr',s'=>∃fr2 s2,Frg G s0 fr' s' fr2 s2/\Q (.exit id) fr2 s2
 | e,fr',s'=>Q e fr' s'
theorem cO{L:Code}{fr:List AV}{s:AS}{Q:AX->List AV->AS->Prop}(h:W P G (XS P G) H0 L fr s (Ua P G L s Q)):WL P G (XS P G) H0 L fr s Q:=by
 obtain⟨e,fr',s',hj,h2⟩:=h;cases e with
 | normal =>
   obtain⟨fr2,s2,hf,e3,fr3,s3,h3,h4⟩:=h2;exact⟨e3,fr3,s3,.loopN (.scope hj (λ_ h=>by cases h) (λcx w c' w' vs hx hs hs' hfr=>hf cx w c' w' vs hx hs hs' hfr)) h3,h4⟩
 | exit id =>
   obtain⟨fr2,s2,hf,h4⟩:=h2;exact⟨_,_,_,.loopX (.scope hj (λ_ h=>by cases h) (λcx w c' w' vs hx hs hs' hfr=>hf cx w c' w' vs hx hs hs' hfr)) (by simp),h4⟩
 | ret=>exact⟨_,_,_,.loopX hj (by simp),h2⟩
 | pan v=>exact⟨_,_,_,.loopX hj (by simp),h2⟩
def RV(P:Program)(fn:Func)(m:Nat)(Q:AX->List AV->AS->Prop)(v:AV)(s2:AS):Prop:=∀fr s,JF P s fn fr=some v->s.cut m=s2->Q .ret fr s
def Uu(m:Nat)(Q:AX->List AV->AS->Prop)(v:AV)(s2:AS):Prop:=∀fr s,s.cut m=s2->Q (.pan v) fr s
theorem yN{ks:List KI}{Q:AX->List AV->AS->Prop}{fr:List AV}{s:AS}(h:Q .ret fr s):Ee P G ks Q .ret fr s:=by
 induction ks with
 | nil=>exact h
 | cons k ks ih=>cases k<;>exact ih
theorem yM{ks:List KI}{Q:AX->List AV->AS->Prop}{fr:List AV}{s:AS}{v:AV}(h:Q (.pan v) fr s):Ee P G ks Q (.pan v) fr s:=by
 induction ks with
 | nil=>exact h
 | cons k ks ih=>cases k<;>exact ih
theorem RV.body{fn:Func}{m:Nat}{Q:CR->AS->Prop}{v:AV}{s2:AS}(h:Q (.ret v) s2):RV P fn m (UD P fn m Q) v s2:=λfr s h1 h2=>⟨v,h1,by rw[h2];exact h⟩
theorem Uu.body{fn:Func}{m:Nat}{Q:CR->AS->Prop}{v:AV}{s2:AS}(h:Q (.pan v) s2):Uu m (UD P fn m Q) v s2:=λfr s h2=>by show Q (.pan v) (s.cut m);rw[h2];exact h
theorem RV.outer{fn:Func}{m id:Nat}{ks:List KI}{Q:AX->List AV->AS->Prop}{v:AV}{s2:AS}(h:RV P fn m Q v s2):RV P fn m (EM id (Ee P G ks Q)) v s2:=λfr s h1 h2=>yN (h fr s h1 h2)
theorem Uu.outer{m id:Nat}{ks:List KI}{Q:AX->List AV->AS->Prop}{v:AV}{s2:AS}(h:Uu m Q v s2):Uu m (EM id (Ee P G ks Q)) v s2:=λfr s h1=>yM (h fr s h1)
theorem RV.Gb{fn:Func}{m:Nat}{L:Code}{s0:AS}{Q:AX->List AV->AS->Prop}{v:AV}{s2:AS}(h:RV P fn m Q v s2):RV P fn m (Ua P G L s0 Q) v s2:=h
theorem Uu.Gb{m:Nat}{L:Code}{s0:AS}{Q:AX->List AV->AS->Prop}{v:AV}{s2:AS}(h:Uu m Q v s2):Uu m (Ua P G L s0 Q) v s2:=h
def aED(P:Program)(fn:Func)(m:Nat):HR->Option (List Cd×AV×AS)
 | some (.fin .ret,[],cd,fr,s)=>(match JF P s fn fr with
   | some v=>some (cd,v,s.cut m)
   | none=>none)
 | _=>none
def VB(P:Program)(G:Bc)(_l:List (PC P G))(Q:AX->List AV->AS->Prop)(r:HR)(X:Prop):Prop:=∀sp cd fr' s',r=some (sp,[],cd,fr',s')->RD P G cd->SqQ P G Q fr' s' sp->X
theorem Ac{c:Code}{fr:List AV}{s:AS}{Q:AX->List AV->AS->Prop}(n:Nat)(l:List (PC P G)):VB P G l Q (TK P G n c [] (pHs l) fr s) (W P G (XS P G) H0 c fr s Q):=λ_ _ _ _ h hc hk=>dR n c [] h hc hk
theorem fI{id:Nat}{ks:List KI}{fr:List AV}{s:AS}{Q:AX->List AV->AS->Prop}(n:Nat)(l:List (PC P G)):VB P G l Q (RH (TK P G n) ks .normal (pHs l) fr s) (EM id (Ee P G ks Q) (.exit id) fr s):=λ_ _ _ _ h hc hk=>by
 show Ee P G ks Q (EZ id (.exit id)) fr s;have:EZ id (.exit id)=.normal:=by simp[EZ]
 rw[this];exact dP (dR n) ks _ h hc hk
theorem go_ret{r:HR}{X:Prop}{Q:AX->List AV->AS->Prop}(fn:Func)(m:Nat){l:List (PC P G)}(v:AV)(s2:AS)(R:VB P G l Q r X)(h:aED P fn m r=some (nB l,v,s2))(k:RV P fn m Q v s2):X:=by
 unfold aED at h;split at h
 · rename_i cd fr' s'
   split at h
   · rename_i v' hv
     simp only[Option.some.injEq,Prod.mk.injEq] at h;obtain⟨rfl,rfl,rfl⟩:=h;exact R _ _ _ _ rfl (Pu l) (k _ _ hv rfl)
   · cases h
 · cases h
def nT(a:AV):AV:=match UG a with
 | true=>.any
 | false=>a
theorem wB{a:AV}{c:Cx}{w:World}{v:Value}(hr:Rp c w a v):Rp c w (nT a) v:=by
 unfold nT;split
 · rename_i h;exact .any (TF hr h)
 · exact hr
inductive Lp(γ δ ρ:Type) where
 | nx (x:γ)
 | ex (x:δ)
 | rt (r:ρ)
section loops
variable {α γ δ ρ:Type}
def PW(k:γ->Option (δ⊕ρ)):Lp γ δ ρ->Option (δ⊕ρ)
 | .nx x=>k x
 | .ex d=>some (.inl d)
 | .rt r=>some (.inr r)
def CL(body:Nat->α->γ->Option (Lp γ δ ρ))(done:γ->δ):List α->Nat->γ->Option (δ⊕ρ)
 | [],_,x=>some (.inl (done x))
 | y::l,i,x=>(body i y x).bind (PW (CL body done l (i+1)))
def EK(body:γ->Option (Lp γ δ ρ)):Nat->γ->Option (δ⊕ρ)
 | 0,_=>none
 | n+1,x=>(body x).bind (PW (EK body n))
def Rt{β:Type}(n:Nat)(x:Option β):Option β:=if n<=9223372036854775807 then x else none
theorem ayA{β:Type}{n:Nat}{x:Option β}{r:β}(h:Rt n x=some r):n<=9223372036854775807/\x=some r:=by
 unfold Rt at h;split at h
 · rename_i h1;exact⟨h1,h⟩
 · cases h
theorem aJD{β:Type}{b:Bool}{t f:Option β}{r:β}(h:cond b t f=some r):(b=true/\t=some r)\/(b=false/\f=some r):=by
 cases b
 · exact .inr ⟨rfl,h⟩
 · exact .inl ⟨rfl,h⟩
theorem cY{β κ:Type}{m:Option κ}{k:κ->Option β}{r:β}(h:m.bind k=some r):∃y,m=some y/\k y=some r:=by
 cases m with
 | none=>cases h
 | some y=>exact⟨y,rfl,h⟩
def LQ(Qx:δ->Prop)(Qr:ρ->Prop):δ⊕ρ->Prop
 | .inl x=>Qx x
 | .inr r=>Qr r
def RQ(Qn:γ->Prop)(Qx:δ->Prop)(Qr:ρ->Prop):Lp γ δ ρ->Prop
 | .nx x=>Qn x
 | .ex x=>Qx x
 | .rt r=>Qr r
theorem akQ{J:Type}{L:Code}{Q:AX->List AV->AS->Prop}{body:Nat->α->γ->Option (Lp γ δ ρ)}{done:γ->δ}(l:List α)(F:Nat->γ->J->List AV)(S:Nat->γ->J->AS)(Ok:J->Prop)(Qx:δ->Prop)(Qr:ρ->Prop)
   (hz:∀i x j,Ok j->l.length<=i->Qx (done x)->WL P G (XS P G) H0 L (F i x j) (S i x j) Q)
   (hs:∀i y x j r,Ok j->l[i]?=some y->i < l.length->body i y x=some r->RQ (λx'=>∀j',Ok j'->WL P G (XS P G) H0 L (F (i+1) x' j') (S (i+1) x' j') Q) Qx Qr r->WL P G (XS P G) H0 L (F i x j) (S i x j) Q) :
   ∀{x:γ} {res:δ⊕ρ} (i0:Nat),CL body done (l.drop i0) i0 x=some res->LQ Qx Qr res->∀j,Ok j->WL P G (XS P G) H0 L (F i0 x j) (S i0 x j) Q:=by
 have key:∀(k:List α) (i:Nat) (x:γ) (res:δ⊕ρ),l.drop i=k->CL body done k i x=some res->LQ Qx Qr res->∀j,Ok j->WL P G (XS P G) H0 L (F i x j) (S i x j) Q:=by
   intro k
   induction k with
   | nil =>
     intro i x res hd h hq j hj;simp only[CL,Option.some.injEq] at h;subst h;exact hz i x j hj (List.drop_eq_nil_iff.1 hd) hq
   | cons y k ih =>
     intro i x res hd h hq j hj
     have hi:i < l.length:=by
       rcases Nat.lt_or_ge i l.length with h1 | h1
       · exact h1
       · rw[List.drop_eq_nil_of_le h1] at hd;cases hd
     have hy:l[i]?=some y:=by rw[<- List.head?_drop,hd];rfl
     have hd2:l.drop (i+1)=k:=by rw[<- List.tail_drop,hd];rfl
     obtain⟨r,hb,h⟩:=cY h;refine hs i y x j r hj hy hi hb ?_;cases r with
     | nx x'=>exact λj' hj'=>ih (i+1) x' res hd2 h hq j' hj'
     | ex d=>simp only[PW,Option.some.injEq] at h;subst h;exact hq
     | rt v=>simp only[PW,Option.some.injEq] at h;subst h;exact hq
 intro x res i0 h hq j hj;exact key _ i0 x res rfl h hq j hj
theorem akR{J:Type}{L:Code}{Q:AX->List AV->AS->Prop}{body:γ->Option (Lp γ δ ρ)}(F:γ->J->List AV)(S:γ->J->AS)(Ok:J->Prop)(Qx:δ->Prop)(Qr:ρ->Prop)
   (hs:∀x j r,Ok j->body x=some r->RQ (λx'=>∀j',Ok j'->WL P G (XS P G) H0 L (F x' j') (S x' j') Q) Qx Qr r->WL P G (XS P G) H0 L (F x j) (S x j) Q) :
   ∀(n:Nat) {x:γ} {res:δ⊕ρ},EK body n x=some res->LQ Qx Qr res->∀j,Ok j->WL P G (XS P G) H0 L (F x j) (S x j) Q:=by
 intro n
 induction n with
 | zero=>intro x res h;cases h
 | succ n ih =>
   intro x res h hq j hj;obtain⟨r,hb,h⟩:=cY h;refine hs x j r hj hb ?_;cases r with
   | nx x'=>exact λj' hj'=>ih h hq j' hj'
   | ex d=>simp only[PW,Option.some.injEq] at h;subst h;exact hq
   | rt v=>simp only[PW,Option.some.injEq] at h;subst h;exact hq
def L6(body:γ->Option (Lp γ δ ρ))(x:γ):Option (δ⊕ρ):=open Classical in if h:∃n r,EK body n x=some r then some (Classical.choose (Classical.choose_spec h)) else none
theorem alT{body:γ->Option (Lp γ δ ρ)}{x:γ}{r:δ⊕ρ}(h:L6 body x=some r):∃n,EK body n x=some r:=by
 unfold L6 at h;split at h
 · rename_i hx
   have:=Classical.choose_spec (Classical.choose_spec hx);rw[Option.some.inj h] at this;exact⟨_,this⟩
 · cases h
theorem YF{body:γ->Option (Lp γ δ ρ)}:∀{n m:Nat} {x:γ} {r:δ⊕ρ},EK body n x=some r->n<=m->EK body m x=some r:=by
 intro n
 induction n with
 | zero=>intro m x r h;cases h
 | succ n ih =>
   intro m x r h hm;cases m with
   | zero=>omega
   | succ m =>
     obtain⟨a,ha,h⟩:=cY h;simp only[EK,ha,Option.bind_some];cases a with
     | nx x'=>exact ih h (by omega)
     | ex d=>exact h
     | rt v=>exact h
theorem Fc{body:γ->Option (Lp γ δ ρ)}{n:Nat}{x:γ}{r:δ⊕ρ}(h:EK body n x=some r):L6 body x=some r:=by
 unfold L6;have hx:∃n r,EK body n x=some r:=⟨n,r,h⟩;rw[dif_pos hx];have h2:=Classical.choose_spec (Classical.choose_spec hx);have h3:=YF h (Nat.le_max_left n (Classical.choose hx));have h4:=YF h2 (Nat.le_max_right n (Classical.choose hx));rw[h3] at h4;rw[Option.some.inj h4]
end loops
end
end AI
