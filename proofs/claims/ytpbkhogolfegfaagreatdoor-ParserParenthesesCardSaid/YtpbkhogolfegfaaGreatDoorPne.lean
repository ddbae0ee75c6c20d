/- Part of a proof: see the last text. -/
import Derived.Test.YtpbkhogolfegfaaGreatDoorPnd
import Derived.LoopN
set_option linter.unusedVariables false
set_option linter.unusedSimpArgs false
set_option linter.defProp false
noncomputable section
open Array renaming all_eq_true_iff_forall_mem->blT,ext'->bjQ,getD_eq_getD_getElem?->bkD,getElem?_eq_getElem->bkQ,getElem?_eq_some_iff->aOA,getElem?_replicate->bmC,getElem?_toList->biZ,replicate->bkZ,toList_append->bnK,toList_replicate->boD
open Bool renaming and_eq_true->bcA,eq_iff_iff->bjP,false_eq_true->biT,false_or->bpU,not_true->bpT
open Go.Instr renaming sureAddr->blJ
open Go.IntKind renaming i64->bmJ
open Go.IntWalk renaming i64_in->bnF
open Go.Oper renaming looksAt->bqG,wp->boB
open Go.Region renaming ready->boA,wanted->bkX
open Go.Result renaming andThen_ok->biS
open Go.Sem renaming run_bind->biV,run_pure->bjX
open Int renaming natCast_nonneg->brA,ofNat_le->brF
open List renaming ext_getElem?->bmP,getElem?_eq_some_iff->abH,getElem?_take->blN,length_cons->Yy,length_take->bjG,mem_append->bjK,mem_cons->biX,mem_filter->brR,mem_of_mem_take->bkL,mem_range->blD,rec->bsU,replicate->bkT,size_toArray->bkR
open List.cons renaming inj->bqS
open Nat renaming add_assoc->blQ,add_mul->blG,beq->bjO,beq_refl->bmB,ble->bmR,ble_eq_true_of_le->blI,eq_of_beq_eq_true->bkB,le_of_ble_eq_true->bcG,le_refl->aOC,lt_or_ge->blL,zero_add->bcD
open Option renaming bind_some->NF,getD_some->bmU,map_some->biQ,rec->bsA
open Option.some renaming injEq->aOE
namespace AI
open Go Go.RowKit
inductive AX where
 | normal
 | exit (id:Nat)
 | ret
 | pan (v:AV)
inductive CR where
 | ret (v:AV)
 | pan (v:AV)
def Cw(ops:Array Oper)(fr:List AV)(o:Oper):Bool:=match o.guard with
 | none=>true
 | some (j,want)=>match (ops[j]?).bind (·.dst) with
   | some d=>match fr[d]? with
     | some (.sc (.bool b))=>b == want
     | _=>false
   | none=>false
def F3(id:Nat):AX->AX
 | .exit S4=>if S4=id then .normal else .exit S4
 | e=>e
def TE(P:Program)(s:AS)(fr:List AV):ResultVar->Option AV
 | .tmp t=>some (fr.getD t (.sc undef))
 | .cell t ty=>JL P s ty (fr.getD t (.sc undef))
def OX(P:Program)(s:AS)(fr:List AV):List ResultVar->Option (List AV)
 | []=>some []
 | r::rs=>match TE P s fr r,OX P s fr rs with
   | some a,some as=>some (a::as)
   | _,_=>none
def F8(P:Program)(s:AS)(fn:Func)(fr:List AV):Option AV:=match OX P s fr fn.results.toList with
 | some [a]=>some a
 | some as=>some (.E9 as)
 | none=>none
inductive Jd where
 | code (c:Code) (fr:List AV) (s:AS) (e:AX) (fr':List AV) (s':AS)
 | loop (c:Code) (fr:List AV) (s:AS) (e:AX) (fr':List AV) (s':AS)
 | ops (ops:Array Oper) (l:List Nat) (fr:List AV) (s:AS) (e:AX) (fr':List AV) (s':AS)
 | op (ops:Array Oper) (o:Oper) (fr:List AV) (s:AS) (r:CR) (s':AS)
 | call (f:FuncId) (args:List AV) (s:AS) (r:CR) (s':AS)
def Cb(ops:Array Oper)(i:Nat):Option Tmp:=(ops[i]?).bind (·.dst)
def fT(ops:Array Oper)(i:Nat):Prop:=∃o,ops[i]?=some o/\calm o.op=false
def Win(ops:Array Oper)(i k:Nat):Prop:=(∀l,fT ops l->UI (Ig ops.toList []) i l=true->l < k)/\(∀l,fT ops l->UI (Ig ops.toList []) l i=true->k<=l)
abbrev Yl:=FuncId->List AV->AS->CR->AS->Prop
abbrev UY:=FuncId->List AV->Option (FuncId×List AV×(CR->Option CR))
def aLW(P:Program)(G:AK)(t tx:TypeId)(a b:AV)(s:AS)(v:AV)(s':AS):Prop:=∀(c:Cx) (w:World) (va vb:Value) (ty:TypeId),St G c w s->Rp c w a va->Rp c w b vb ->
 ∃u w' c',(Builtin.append_ #[t,tx] ty #[va,vb]).run P w=.ok u w'/\Ext c w c' w'/\St G c' w' s'/\Rp c' w' v u
def aUQ(G:AK)(c:Cx)(w:World)(r:CR)(s':AS)(e:Ending)(w':World):Prop :=
 ∃c',Ext c w c' w'/\St G c' w' s'/\match r with
   | .ret v=>∃u,e=.returned u/\Rp c' w' v u
   | .pan v=>∃u,e=.panicked [{ v:=u,recovered:=false }]/\Rp c' w' v u
def Vs(G:AK)(c:Cx)(w:World)(e:AX)(fr':List AV)(s':AS)(e':Exit)(a':Act)(w':World):Prop :=
 ∃c',Ext c w c' w'/\St G c' w' s'/\a'.defers=[]/\match e with
   | .normal=>e'=.normal/\Cv c' w' fr' a'.tmps.toList
   | .exit id=>e'=.exit id/\Cv c' w' fr' a'.tmps.toList
   | .ret=>e'=.ret/\Cv c' w' fr' a'.tmps.toList
   | .pan v=>∃u,e'=.panic [{ v:=u,recovered:=false }]/\Rp c' w' v u
def Vs.ext{G:AK}{c c1:Cx}{w w1:World}{e:AX}{fr':List AV}{s':AS}{e':Exit}{a':Act}{w':World}(x:Ext c w c1 w1)(h:Vs G c1 w1 e fr' s' e' a' w'):Vs G c w e fr' s' e' a' w':=by
 obtain⟨c',h1,h2⟩:=h;exact⟨c',x.trans h1,h2⟩
def Ny(P:Program)(ops:Array Oper)(o:Oper)(K:Act->World->Prop)(Q:Exit->Act->World->Prop)(a:Act)(w:World):Prop :=
 if bkX o (yielded ops a.tmps) then o.wp P a w K Q else K (a.put o.dst undef) w
def Sound(P:Program)(G:AK):Jd->Prop
 | .code c fr s e fr' s'=>∀(cx:Cx) (w:World) (a:Act) (Q:Exit->Act->World->Prop),St G cx w s->Cv cx w fr a.tmps.toList->a.defers=[]->(∀e' a' w',Vs G cx w e fr' s' e' a' w'->Q e' a' w')->c.wp P Q a w
 | .loop c fr s e fr' s'=>∃n,∀(cx:Cx) (w:World) (a:Act) (Q:Exit->Act->World->Prop),St G cx w s->Cv cx w fr a.tmps.toList->a.defers=[]->(∀e' a' w',Vs G cx w e fr' s' e' a' w'->Q e' a' w')->Code.rounds P c Q n a w
 | .ops ops l fr s e fr' s'=>∀(cx:Cx) (w:World) (a:Act) (Q:Exit->Act->World->Prop),St G cx w s->Cv cx w fr a.tmps.toList->a.defers=[]->(∀e' a' w',Vs G cx w e fr' s' e' a' w'->Q e' a' w')->wpOps P ops Q l a w
 | .op ops o fr s r s'=>∀(cx:Cx) (w:World) (a:Act) (K:Act->World->Prop) (Q:Exit->Act->World->Prop),St G cx w s->(∀x∈o.op.operands,kE G cx w fr a.eval x)->Cw ops fr o=bkX o (yielded ops a.tmps) ->
     (match r with
       | .ret v=>∀u w' c',Ext cx w c' w'->St G c' w' s'->Rp c' w' v u->K (a.put o.dst u) w'
       | .pan v=>∀u w' c',Ext cx w c' w'->St G c' w' s'->Rp c' w' v u->Q (.panic [{ v:=u,recovered:=false }]) a w')->Ny P ops o K Q a w
 | .call f args s r s'=>∀(cx:Cx) (w:World) (vs:List Value),St G cx w s->Cv cx w args vs->Calls P f vs.toArray w (aUQ G cx w r s')
inductive J(P:Program)(G:AK)(X:Yl)(H:UY):Jd->Prop where
 | skip {fr:List AV} {s:AS}:J P G X H (.code .skip fr s .normal fr s)
 | exit {id:Nat} {fr:List AV} {s:AS}:J P G X H (.code (.exit id) fr s (.exit id) fr s)
 | ret {fr:List AV} {s:AS}:J P G X H (.code .ret fr s .ret fr s)
 | seq {x y:Code} {fr Yi fr':List AV} {s s1 s':AS} {e:AX} (h1:J P G X H (.code x fr s .normal Yi s1)) (h2:J P G X H (.code y Yi s1 e fr' s')):J P G X H (.code (.seq x y) fr s e fr' s')
 | adJ {x y:Code} {fr fr':List AV} {s s':AS} {e:AX} (h1:J P G X H (.code x fr s e fr' s')) (he:e≠.normal):J P G X H (.code (.seq x y) fr s e fr' s')
 | cond {q:Operand} {x y:Code} {t:Bool} {fr fr':List AV} {s s':AS} {e:AX} (hq:AZ G fr q=some (.sc (.bool t))) (h:J P G X H (.code (if t then x else y) fr s e fr' s')):J P G X H (.code (.cond q x y) fr s e fr' s')
 | block {id:Nat} {c:Code} {fr fr':List AV} {s s':AS} {e:AX} (h:J P G X H (.code c fr s e fr' s')):J P G X H (.code (.block id c) fr s (F3 id e) fr' s')
 | loop {c:Code} {fr fr':List AV} {s s':AS} {e:AX} (h:J P G X H (.loop c fr s e fr' s')):J P G X H (.code (.loop c) fr s e fr' s')
 | loopN {c:Code} {fr Yi fr':List AV} {s s1 s':AS} {e:AX} (h1:J P G X H (.code c fr s .normal Yi s1)) (h2:J P G X H (.loop c Yi s1 e fr' s')):J P G X H (.loop c fr s e fr' s')
 | loopX {c:Code} {fr fr':List AV} {s s':AS} {e:AX} (h1:J P G X H (.code c fr s e fr' s')) (he:e≠.normal):J P G X H (.loop c fr s e fr' s')
 | region {id:Nat} {ops:Array Oper} {fr fr':List AV} {s s':AS} {e:AX} (h:J P G X H (.ops ops (List.range ops.size) fr s e fr' s')):J P G X H (.code (.region id ops false) fr s e fr' s')
 | auI {ops:Array Oper} {fr:List AV} {s:AS}:J P G X H (.ops ops [] fr s .normal fr s)
 | agW {ops:Array Oper} {i:Nat} {l:List Nat} {o:Oper} {v:AV} {fr fr':List AV} {s s1 s':AS} {e:AX} (ho:ops[i]?=some o) (h:J P G X H (.op ops o fr s (.ret v) s1)) (t:J P G X H (.ops ops l (IW fr o.dst v) s1 e fr' s')):J P G X H (.ops ops (i::l) fr s e fr' s')
 | auJ {ops:Array Oper} {i:Nat} {l:List Nat} {o:Oper} {v:AV} {fr:List AV} {s s1:AS} (ho:ops[i]?=some o) (h:J P G X H (.op ops o fr s (.pan v) s1)):J P G X H (.ops ops (i::l) fr s (.pan v) fr s1)
 | Pj {ops:Array Oper} {o:Oper} {fr:List AV} {s s':AS} {v:AV} (hw:Cw ops fr o=true) (h:RZ P G fr s o=some (.val v s')):J P G X H (.op ops o fr s (.ret v) s')
 | acP {ops:Array Oper} {o:Oper} {fr:List AV} {s s':AS} {v v2:AV} (hq:quiet o.op=false) (h:J P G X H (.op ops o fr s (.ret v) s')) (hv:∀cx w u,Rp cx w v u->Rp cx w v2 u):J P G X H (.op ops o fr s (.ret v2) s')
 | rO {ops:Array Oper} {o:Oper} {fr:List AV} {s s1 s2:AS} {v:AV} (hq:quiet o.op=false) (h:J P G X H (.op ops o fr s (.ret v) s1)) (hs:∀cx w,St G cx w s1->St G cx w s2):J P G X H (.op ops o fr s (.ret v) s2)
 | auG {ops:Array Oper} {o:Oper} {fr:List AV} {s s':AS} {cl:Call} {x y:Operand} {t tx:TypeId} {a b v:AV} (hw:Cw ops fr o=true) (ho:o.op=.call cl) (He:cl.callee=.builtin .append) (hx:cl.args.toList=[x,y]) (ht:cl.argTypes.toList=[t,tx]) (ha:AZ G fr x=some a) (hb:AZ G fr y=some b) (h:aLW P G t tx a b s v s'):J P G X H (.op ops o fr s (.ret v) s')
 | acO {ops:Array Oper} {o:Oper} {fr:List AV} {s:AS} (hw:Cw ops fr o=false):J P G X H (.op ops o fr s (.ret (.sc undef)) s)
 | T7 {ops:Array Oper} {o:Oper} {fr:List AV} {s s':AS} {f:FuncId} {args:List AV} {r:CR} (hw:Cw ops fr o=true) (h:RZ P G fr s o=some (.ent f args)) (hc:J P G X H (.call f args s r s')):J P G X H (.op ops o fr s r s')
 | aJO {ops:Array Oper} {o:Oper} {fr:List AV} {s:AS} {v:AV} (hw:Cw ops fr o=true) (h:RZ P G fr s o=some (.pan v)):J P G X H (.op ops o fr s (.pan v) s)
 | draw {id:Nat} {ops:Array Oper} {f0:List AV} {s0:AS} (rs:List Ao) (vals:Nat->AV) (Oa:Nat->AS) (h0:Oa 0=s0.hold rs) (Hz:Nb ops=true)
     (hl:∀i o,ops[i]?=some o->calm o.op=false->J P G X H (.op ops o (IJ f0 (Cb ops) vals (λ_=>true) i) (Oa i) (.ret (vals i)) (Oa (i+1))))
     (hq:∀i o,ops[i]?=some o->quiet o.op=true->Oa (i+1)=Oa i/\((Cw ops (IJ f0 (Cb ops) vals (λ_=>true) i) o=false/\vals i=.sc undef)\/(Cw ops (IJ f0 (Cb ops) vals (λ_=>true) i) o=true/\∀k,k<=ops.size->Win ops i k->RZ P G (IJ f0 (Cb ops) vals (λ_=>true) i) (Oa k) o=some (.val (vals i) (Oa k)))))
     (ha:∀i o e,ops[i]?=some o->o.op=.alloc e->Oa (i+1)=Oa i/\((Cw ops (IJ f0 (Cb ops) vals (λ_=>true) i) o=false/\vals i=.sc undef)\/(Cw ops (IJ f0 (Cb ops) vals (λ_=>true) i) o=true/\∃z,M1 P e=some z/\rk ops i < rs.length/\vals i=.ptr (s0.nx+rk ops i) 0/\∀k,k<=ops.size->Win ops i k->(Oa k).get (s0.nx+rk ops i)=some (.cells (cellsOf z))))) :
     J P G X H (.code (.region id ops true) f0 s0 .normal (IJ f0 (Cb ops) vals (λ_=>true) ops.size) (Oa ops.size))
 | body {f:FuncId} {fn:Func} {c:Code} {args fr':List AV} {s s' s2:AS} {e:AX} {v:AV} (hf:P.funcs[f]?=some fn) (hb:fn.body=some c) (h:J P G X H (.code c (args++bkT (fn.ntmps - args.length) (.sc undef)) s e fr' s')) (he:e=.normal\/e=.ret) (hr:F8 P s' fn fr'=some v) (hk:s2=s'.cut s.nx\/s2=s'):J P G X H (.call f args s (.ret v) s2)
 | aHW {f:FuncId} {fn:Func} {c:Code} {args fr':List AV} {s s':AS} {v:AV} (hf:P.funcs[f]?=some fn) (hb:fn.body=some c) (h:J P G X H (.code c (args++bkT (fn.ntmps - args.length) (.sc undef)) s (.pan v) fr' s')):J P G X H (.call f args s (.pan v) (s'.cut s.nx))
 | ext {f:FuncId} {args:List AV} {s s':AS} {r:CR} (h:X f args s r s'):J P G X H (.call f args s r s')
 | jJ {c:Code} {fr fr2 fr':List AV} {s s2 s':AS} {e:AX} (hw:∀cx w vs,St G cx w s->Cv cx w fr vs->∃cx2,Ext cx w cx2 w/\St G cx2 w s2/\Cv cx2 w fr2 vs) (h:J P G X H (.code c fr2 s2 e fr' s')):J P G X H (.code c fr s e fr' s')
 | aKK {c:Code} {fr fr2 fr':List AV} {s s2 s':AS} {e:AX} (hw:∀cx w vs,St G cx w s->Cv cx w fr vs->∃cx2,Ext cx w cx2 w/\St G cx2 w s2/\Cv cx2 w fr2 vs) (h:J P G X H (.loop c fr2 s2 e fr' s')):J P G X H (.loop c fr s e fr' s')
 | scope {c:Code} {fr fr2 fr':List AV} {s s2 s':AS} {e:AX} (h:J P G X H (.code c fr s e fr' s')) (he:∀v,e≠.pan v) (hs:∀cx w c' w' vs,Ext cx w c' w'->St G cx w s->St G c' w' s'->Cv c' w' fr' vs->∃c2,Ext cx w c2 w'/\St G c2 w' s2/\Cv c2 w' fr2 vs):J P G X H (.code c fr s e fr2 s2)
 | aPP {f g:FuncId} {args eG:List AV} {k:CR->Option CR} {s s':AS} {r r':CR} (hh:H f args=some (g,eG,k)) (h:J P G X H (.call g eG s r s')) (hk:k r=some r'):J P G X H (.call f args s r' s')
 | sem {c:Code} {fr fr':List AV} {s s':AS} {e:AX} (h:P.follows .mixedOrders=true->Sound P G (.code c fr s e fr' s')):J P G X H (.code c fr s e fr' s')
def O0{ops:Array Oper}{fr:List AV}{o:Oper}{c:Cx}{w:World}{tmps:Array Value}(h:∀j want,o.guard=some (j,want)->∀d,(ops[j]?).bind (·.dst)=some d->∃M,Cv c w M tmps.toList/\M[d]?=fr[d]?):Cw ops fr o=bkX o (yielded ops tmps):=by
 unfold Cw bkX;cases hg:o.guard with
 | none=>rfl
 | some p =>
   obtain⟨j,want⟩:=p;simp only;unfold yielded;cases hd:(ops[j]?).bind (·.dst) with
   | none=>simp
   | some d =>
     obtain⟨M,hM,he⟩:=h j want hg d hd;simp only[NF];rw[<- he];cases hm:M[d]? with
     | none =>
       have hl:=hM.len;have h1:=List.getElem?_eq_none_iff.1 hm;have h2:tmps[d]?=none:=Array.getElem?_eq_none (by rw[<- Array.length_toList];omega);simp[h2]
     | some b =>
       obtain⟨u,hu,hr⟩:=hM.get hm;rw[biZ] at hu;rw[hu];cases hr with
       | sc hs=>cases u<;>simp
       | any hs=>cases u<;>first | (simp[bB] at hs;done) | simp
       | _=>simp
def alK(tmps:Array Value):ResultVar->Sem Value
 | .tmp t=>pure (tmps.getD t undef)
 | .cell a t=>do loadVar t (<- asAddr (tmps.getD a undef))
def Wz(fn:Func)(tmps:Array Value):results fn tmps=(do
 let vs <- fn.results.mapM (alK tmps)
 pure (if h:vs.size=1 then vs[0] else .tuple vs)):=by
 unfold results;congr 2
def uH{P:Program}{G:AK}{c:Cx}{w:World}{s:AS}{fr:List AV}{tmps:Array Value}(hs:St G c w s)(hf:Cv c w fr tmps.toList){r:ResultVar}{v:AV}(h:TE P s fr r=some v) :
   ∃u,(alK tmps r).run P w=.ok u w/\Rp c w v u:=by
 have ht:∀t,Rp c w (fr.getD t (.sc undef)) (tmps.getD t undef):=λt=>EB (G:=G) (s:=s) (a:=⟨tmps,[]⟩) (x:=.tmp t) hs hf rfl;cases r with
 | tmp t=>simp only[TE,aOE] at h;subst h;exact⟨_,rfl,ht t⟩
 | cell t ty =>
   obtain⟨u,h1,h2⟩:=uD hs h (ht t);refine⟨u,?_,h2⟩;have hr:=ht t;simp only[Instr.loadAt,biV] at h1;simp only[alK,biV];generalize tmps.getD t undef=x at hr h1;simp only[TE] at h;unfold JL at h;split at h;rename_i Rk;rw[Rk] at hr;cases hr;simpa[asAddr,blJ] using h1
   rename_i Rk;rw[Rk] at hr;cases hr;simpa[asAddr,blJ] using h1
   cases h
def uI{P:Program}{G:AK}{c:Cx}{w:World}{s:AS}{fr:List AV}{tmps:Array Value}(hs:St G c w s)(hf:Cv c w fr tmps.toList)(rs:List ResultVar){vs:List AV}(h:OX P s fr rs=some vs) :
   ∃us,(rs.mapM (alK tmps)).run P w=.ok us w/\Cv c w vs us:=by
 induction rs generalizing vs with
 | nil=>simp[OX] at h;subst h;exact⟨[],rfl,.nil⟩
 | cons r rs ih =>
   simp only[OX] at h;split at h;rename_i a as h1 h2;cases h;obtain⟨u,hu,hr⟩:=uH hs hf h1;obtain⟨us,hus,hrs⟩:=ih h2;refine⟨u::us,?_,.cons hr hrs⟩;rw[List.mapM_cons];simp only[biV,hu,biS,hus,bjX];cases h
def TF{P:Program}{G:AK}{c:Cx}{w:World}{s:AS}{fr:List AV}{tmps:Array Value}{fn:Func}{v:AV}(hs:St G c w s)(hf:Cv c w fr tmps.toList)(h:F8 P s fn fr=some v):∃u,(results fn tmps).run P w=.ok u w/\Rp c w v u:=by
 unfold F8 at h;cases hl:OX P s fr fn.results.toList with
 | none=>rw[hl] at h;cases h
 | some as =>
   rw[hl] at h;obtain⟨us,hus,hrs⟩:=uI hs hf _ hl;have hlen:=hrs.len
   have Tm:(results fn tmps).run P w=.ok (if h:us.toArray.size=1 then us.toArray[0] else .tuple us.toArray) w:=by
     rw[Wz,Array.mapM_eq_mapM_toList];simp only[biV,Sem.run_map,hus,biS,bjX]
   rw[Tm];split at h;rename_i a Rk;cases Rk;cases h;cases hrs with
   | cons h1 t=>cases t;exact⟨_,rfl,h1⟩
   rename_i as' hne Rk;cases Rk;cases h
   have:¬us.toArray.size=1:=by
     intro h1;simp at h1;obtain⟨a,ha⟩:=List.length_eq_one_iff.1 (hlen.symm.trans h1);exact hne a ha
   rw[dif_neg this];exact⟨_,rfl,.E9 hrs⟩;rename_i Rk;cases Rk
end AI
namespace AI
open Go Go.RowKit
def uU(L:Nat->Bool):Nat->Nat
 | 0=>0
 | n+1=>uU L n+if L n then 0 else 1
def uV{L:Nat->Bool}:∀(n:Nat),uU L n=0->∀i,i < n->L i=true:=by
 intro n
 induction n with
 | zero=>intro _ i hi;omega
 | succ n ih =>
   intro h i hi;simp only[uU] at h;by_cases hn:i=n;subst hn;by_cases hL:L i=true;exact hL;simp[hL] at h;exact ih (by omega) i (by omega)
def aeR{L M:Nat->Bool}{i:Nat}(h0:L i=false)(h1:M i=true)(hne:∀j,j≠i->M j=L j):∀(n:Nat),(i < n->uU L n=uU M n+1)/\(n<=i->uU L n=uU M n):=by
 intro n
 induction n with
 | zero=>exact⟨λh=>by omega,λ_=>rfl⟩
 | succ n ih =>
   refine⟨λh=>?_,λh=>?_⟩;simp only[uU];by_cases hn:n=i;subst hn;rw[ih.2 (aOC _),h0,h1];simp;rw[ih.1 (by omega),hne n hn];omega;simp only[uU];rw[ih.2 (by omega),hne n (by omega)]
def adO{ops:Array Oper}{Oa:Nat->AS}(hq:∀i o,ops[i]?=some o->calm o.op=true->Oa (i+1)=Oa i){x:Nat}:∀(y:Nat),x<=y->y<=ops.size->(∀m,x<=m->m < y->¬fT ops m)->Oa x=Oa y:=by
 intro y
 induction y with
 | zero=>intro h _ _;have:x=0:=by omega
         subst this;rfl
 | succ y ih =>
   intro h hn hl;by_cases e:x=y+1;subst e;rfl;rw[ih (by omega) (by omega) (λm h1 h2=>hl m h1 (by omega))];have ho:ops[y]?=some (ops[y]'(by omega)):=bkQ (by omega);have hy:=hl y (by omega) (by omega);refine(hq y _ ho ?_).symm;cases hqq:calm (ops[y]'(by omega)).op with
   | true=>rfl
   | false=>exact absurd ⟨_,ho,hqq⟩ hy
def mem_ready{ops:Array Oper}{L:Array Bool}(hsz:L.size=ops.size){i:Nat}(h:i∈boA .any ops L):∃o,ops[i]?=some o/\L.getD i false=false/\Met (λj=>L.getD j false) o/\i < ops.size:=by
 unfold boA at h;rw[brR,blD,bcA] at h;obtain⟨h1,h2,h3⟩:=h;have ho:ops[i]?=some (ops[i]'h1):=bkQ h1;refine⟨_,ho,?_,λe he hb=>?_,h1⟩;have:i < L.size:=by omega
 simpa[this] using h2
 rw[ho] at h3;simp only[biQ,bmU] at h3;rw[blT] at h3;have:=h3 e he;rw[hb] at this;simpa using this
def xV{ops:Array Oper}{L:Array Bool}(hsz:L.size=ops.size){i:Nat}{o:Oper}(ho:ops[i]?=some o)(hL:L.getD i false=false)(hm:Met (λj=>L.getD j false) o):i∈boA .any ops L:=by
 have h1:=(aOA.1 ho).1;unfold boA;rw[brR,blD,bcA];refine⟨h1,?_,?_⟩;have:i < L.size:=by omega
 simpa[this] using hL
 rw[ho];simp only[biQ,bmU];rw[blT];intro e he;by_cases hb:Region.binds .any e=true;have:=hm e he hb;rw[hb];simpa using this
 simp[hb]
section
variable {P:Program} {G:AK} {ops:Array Oper} {f0:List AV} {vals:Nat->AV} {Oa:Nat->AS}
structure Inv(G:AK)(ops:Array Oper)(f0:List AV)(vals:Nat->AV)(Oa:Nat->AS)(zV:Cx)(w0:World)(nh:Nat)(L:Array Bool)(a:Act)(w:World):Prop where
 size:L.size=ops.size
 closed:OV ops.toList (λj=>L.getD j false)
 st:∃c k,k<=ops.size/\(∀l,fT ops l->(L.getD l false=true↔l < k))/\Ext zV w0 c w/\St G c w (Oa k)/\Cv c w (IJ f0 (Cb ops) vals (λj=>L.getD j false) ops.size) a.tmps.toList /\
   ∀j y,ops[j]?=some y->BM y.op=true->L.getD j false=false->rk ops j < nh->c.CJ[zV.CJ.length+rk ops j]?=some none
 defers:a.defers=[]
def looks{x y:Oper}{t:Nat}(hx:x.dst=some t)(hy:t∈y.looksAt ops):Rx ops x y=true:=by
 simp[Rx,hx,hy]
def aQZ{x y:Oper}{t:Nat}(hx:t∈x.looksAt ops)(hy:y.dst=some t):Rx ops x y=true:=by
 simp[Rx,hx,hy]
def baJ{x y:Oper}{t:Nat}(hx:x.dst=some t)(hy:y.dst=some t):Rx ops x y=true:=by
 simp[Rx,hx,hy]
def agD{x y:Oper}(hx:calm x.op=false)(hy:calm y.op=false):Rx ops x y=true:=by
 simp[Rx,hx,hy]
def B6{i:Nat}{o:Oper}(h:ops[i]?=some o):ops.toList[i]?=some o:=by rw[biZ];exact h
def Yo{L:Nat->Bool}(Hz:Nb ops=true)(hc:OV ops.toList L){i j:Nat}{x y:Oper}(hx:ops[i]?=some x)(hy:ops[j]?=some y)(hm:Met L y)(hlt:i < j)(He:Rx ops x y=true):L i=true :=
 dR hc (B6 hy) hm (nK Hz hx hy hlt He)
def R5{L:Nat->Bool}(Hz:Nb ops=true)(hc:OV ops.toList L){i j:Nat}{x y:Oper}(hx:ops[i]?=some x)(hy:ops[j]?=some y)(hL:L i=false)(hlt:i < j)(He:Rx ops x y=true):L j=false:=by
 cases h:L j with
 | false=>rfl
 | true =>
   have:=dR hc (B6 hy) (hc j y (B6 hy) h) (nK Hz hx hy hlt He);rw[hL] at this;cases this
def aaV{i t:Nat}(h:Cb ops i=some t):∃o,ops[i]?=some o/\o.dst=some t:=by
 unfold Cb at h;cases ho:ops[i]? with
 | none=>rw[ho] at h;cases h
 | some o=>rw[ho] at h;exact⟨o,rfl,by simpa using h⟩
def UK{L:Nat->Bool}(Hz:Nb ops=true)(hc:OV ops.toList L){i:Nat}{o:Oper}(ho:ops[i]?=some o)(hL:L i=false)(hm:Met L o){t:Nat}(ht:t∈o.looksAt ops) :
   (IJ f0 (Cb ops) vals L ops.size)[t]?=(IJ f0 (Cb ops) vals (λ_=>true) i)[t]?:=by
 have hi:=(aOA.1 ho).1;rw[afD (j:=i) ops.size (by omega)];refine eB i (λj hj hd=>?_);obtain⟨x,hx,hxd⟩:=aaV hd;exact Yo Hz hc hx ho hm hj (looks hxd ht);intro j hj _ hd;by_cases e:j=i;subst e;exact hL;obtain⟨y,hy,hyd⟩:=aaV hd;exact R5 Hz hc ho hy hL (by omega) (aQZ ht hyd)
def afE{L M:Nat->Bool}(Hz:Nb ops=true)(hc:OV ops.toList L){i:Nat}{o:Oper}(ho:ops[i]?=some o)(hL:L i=false)(hM:M i=true)(hne:∀j,j≠i->M j=L j) :
   IJ f0 (Cb ops) vals M ops.size=IW (IJ f0 (Cb ops) vals L ops.size) o.dst (vals i):=by
 have hi:=(aOA.1 ho).1;have hdi:Cb ops i=o.dst:=by unfold Cb;rw[ho];rfl
 apply bmP;intro t;by_cases hd:o.dst=some t;rw[afD (j:=i+1) ops.size (by omega)];simp only[IJ,hM,if_true,hdi,hd];rw[Ql,Ql,bH,bH];intro j hj _ hdj;obtain⟨y,hy,hyd⟩:=aaV hdj;rw[hne j (by omega)];exact R5 Hz hc ho hy hL (by omega) (baJ hd hyd);rw[TD hd];refine eB ops.size (λj _ hdj=>hne j (λe=>hd ?_));rw[<- hdi,<- e];exact hdj
def Ext.aNT{c:Cx}{w:World}{c':Cx}{w':World}(h:Ext c w c' w'){id:Nat}{y:Option Nat}(e:c.CJ[id]?=some y):c'.CJ[id]?=some y:=by
 obtain⟨t,ht⟩:=h.CJ;rw[<- ht,List.getElem?_append_left (abH.1 e).1];exact e
def apA{nh:Nat}(Hz:Nb ops=true)
   (hl:∀i o,ops[i]?=some o->calm o.op=false->Sound P G (.op ops o (IJ f0 (Cb ops) vals (λ_=>true) i) (Oa i) (.ret (vals i)) (Oa (i+1))))
   (hq:∀i o,ops[i]?=some o->quiet o.op=true->Oa (i+1)=Oa i/\((Cw ops (IJ f0 (Cb ops) vals (λ_=>true) i) o=false/\vals i=.sc undef)\/(Cw ops (IJ f0 (Cb ops) vals (λ_=>true) i) o=true/\∀k,k<=ops.size->Win ops i k->RZ P G (IJ f0 (Cb ops) vals (λ_=>true) i) (Oa k) o=some (.val (vals i) (Oa k)))))
   (zV:Cx) (w0:World)
   (ha:∀i o e,ops[i]?=some o->o.op=.alloc e->Oa (i+1)=Oa i/\((Cw ops (IJ f0 (Cb ops) vals (λ_=>true) i) o=false/\vals i=.sc undef)\/(Cw ops (IJ f0 (Cb ops) vals (λ_=>true) i) o=true/\∃z,M1 P e=some z/\rk ops i < nh/\vals i=.ptr (zV.CJ.length+rk ops i) 0/\∀k,k<=ops.size->Win ops i k->(Oa k).get (zV.CJ.length+rk ops i)=some (.cells (cellsOf z)))))
   (Q:Exit->Act->World->Prop) (hQ:∀e' a' w',Vs G zV w0 .normal (IJ f0 (Cb ops) vals (λ_=>true) ops.size) (Oa ops.size) e' a' w'->Q e' a' w') :
   ∀(fuel:Nat) (L:Array Bool) (a:Act) (w:World),Inv G ops f0 vals Oa zV w0 nh L a w->uU (λj=>L.getD j false) ops.size=fuel->wpAny P .any ops Q fuel L a w:=by
 have hqs:∀i o,ops[i]?=some o->calm o.op=true->Oa (i+1)=Oa i:=λi o h1 h2=>by
   rcases dJ h2 with h2 | ⟨e,h2⟩
   exact(hq i o h1 h2).1;exact(ha i o e h1 h2).1
 have fin:∀(L:Array Bool) (a:Act) (w:World),Inv G ops f0 vals Oa zV w0 nh L a w->(∀i,i < ops.size->L.getD i false=true)->Q .normal a w:=by
   intro L a w hI Gu;obtain⟨c,k,hk,bJ,hx,Fl,hfr,_⟩:=hI.st;have beI:Oa k=Oa ops.size:=adO hqs ops.size hk (aOC _) (λm h1 h2 hm=>by have:=(bJ m hm).1 (Gu m h2);omega);rw[beI] at Fl;refine hQ _ _ _ ⟨c,hx,Fl,hI.defers,rfl,?_⟩
   have:IJ f0 (Cb ops) vals (λj=>L.getD j false) ops.size=IJ f0 (Cb ops) vals (λ_=>true) ops.size:=by
     apply bmP;intro t;exact eB ops.size (λi hi _=>Gu i hi)
   rw[<- this];exact hfr
 intro fuel
 induction fuel with
 | zero =>
   intro L a w hI hc;have Gu:=uV ops.size hc;refine⟨?_,fin L a w hI Gu⟩;apply List.eq_nil_iff_forall_not_mem.2;intro i hi;obtain⟨o,ho,h1,_,hlt⟩:=mem_ready hI.size hi;have:=Gu i hlt;rw[h1] at this;cases this
 | succ fuel ih =>
   intro L a w hI aWV;refine⟨λqK=>fin L a w hI (λi=>?_),λi hi=>?_⟩
   · induction i using Nat.strongRecOn with
     | _ i ihi =>
       intro hlt;cases tI:L.getD i false with
       | true=>rfl
       | false =>
         exfalso;have ho:ops[i]?=some (ops[i]'hlt):=bkQ hlt
         have:=xV hI.size ho tI (λe he hb=>by
           have h1:=xA Hz ho he hb;exact ihi e.on h1 (by omega))
         rw[qK] at this;cases this
   · obtain⟨o,ho,tI,fB,hlt⟩:=mem_ready hI.size hi
     obtain⟨c,k,hk,bJ,hx,Fl,hfr,abL⟩:=hI.st
     have hMi:(L.setIfInBounds i true).getD i false=true:=by
       have:i < L.size:=by rw[hI.size];exact hlt
       simp[this]
     have hMn:∀j,j≠i->(L.setIfInBounds i true).getD j false=L.getD j false:=by
       intro j hj;simp only[bkD];rw[Array.getElem?_setIfInBounds_ne (λe=>hj e.symm)]
     have hle:∀j,L.getD j false=true->(L.setIfInBounds i true).getD j false=true:=by
       intro j hj;by_cases e:j=i;subst e;exact hMi;rw[hMn j e];exact hj
     have eW:OV ops.toList (λj=>(L.setIfInBounds i true).getD j false):=by
       intro j y hy hj e he hb;by_cases ej:j=i;subst ej;rw[B6 ho] at hy;cases hy;exact hle _ (fB e he hb);have hj2:L.getD j false=true:=by rw[<- hMn j ej];exact hj
       exact hle _ (hI.closed j y hy hj2 e he hb)
     have arA:uU (λj=>(L.setIfInBounds i true).getD j false) ops.size=fuel:=by
       have:=(aeR (L:=λj=>L.getD j false) (M:=λj=>(L.setIfInBounds i true).getD j false) tI hMi hMn ops.size).1 hlt;omega
     have kN:=afE (f0:=f0) (vals:=vals) (L:=λj=>L.getD j false) (M:=λj=>(L.setIfInBounds i true).getD j false) Hz hI.closed ho tI hMi hMn
     have aKC:∀(k':Nat) (u:Value) (w':World) (c':Cx),k'<=ops.size->(∀l,fT ops l->((L.setIfInBounds i true).getD l false=true↔l < k'))->Ext zV w0 c' w'->Mon c w c' w' ->
         (∀j y,ops[j]?=some y->BM y.op=true->(L.setIfInBounds i true).getD j false=false->rk ops j < nh->c'.CJ[zV.CJ.length+rk ops j]?=some none)->St G c' w' (Oa k')->Rp c' w' (vals i) u->wpAny P .any ops Q fuel (L.setIfInBounds i true) (a.put o.dst u) w':=by
       intro k' u w' c' jW qJ Z2 hm' hh' NG hu;refine ih _ _ _ ⟨by simp[hI.size],eW,⟨c',k',jW,qJ,Z2,NG,?_,hh'⟩,by cases o.dst<;>exact hI.defers⟩ arA
       rw[kN];exact Qm (hfr.Dk hm') hu
     have step:∀(k':Nat) (u:Value) (w':World) (c':Cx),k'<=ops.size->(∀l,fT ops l->((L.setIfInBounds i true).getD l false=true↔l < k'))->Ext c w c' w'->St G c' w' (Oa k')->Rp c' w' (vals i) u->wpAny P .any ops Q fuel (L.setIfInBounds i true) (a.put o.dst u) w':=by
       intro k' u w' c' jW qJ Z2 NG hu;refine aKC k' u w' c' jW qJ (hx.trans Z2) Z2.mon (λj y hy qR hj hjn=>?_) NG hu;have hji:j≠i:=λe=>by subst e;rw[hMi] at hj;cases hj
       rw[hMn j hji] at hj;exact Z2.aNT (abL j y hy qR hj hjn)
     have wC:∀x∈o.op.operands,kE G c w (IJ f0 (Cb ops) vals (λ_=>true) i) a.eval x:=by
       intro x hxo v hv;cases x with
       | tmp t =>
         have arP:t∈o.looksAt ops:=by
           unfold bqG;rw[bjK];left;rw[List.mem_filterMap];exact⟨.tmp t,Array.mem_toList_iff.2 hxo,rfl⟩
         have he:=UK (f0:=f0) (vals:=vals) Hz hI.closed ho tI fB arP
         have:AZ G (IJ f0 (Cb ops) vals (λj=>L.getD j false) ops.size) (.tmp t)=some v:=by
           rw[<- hv];simp only[AZ,List.getD_eq_getElem?_getD,he]
         exact EB Fl hfr this
       | const z=>exact EB (fr:=IJ f0 (Cb ops) vals (λj=>L.getD j false) ops.size) Fl hfr hv
       | global g=>exact EB (fr:=IJ f0 (Cb ops) vals (λj=>L.getD j false) ops.size) Fl hfr hv
       | func f=>exact EB (fr:=IJ f0 (Cb ops) vals (λj=>L.getD j false) ops.size) Fl hfr hv
     have ZB:Cw ops (IJ f0 (Cb ops) vals (λ_=>true) i) o=bkX o (yielded ops a.tmps):=by
       refine O0 (c:=c) (w:=w) (λj want hg d hd=>⟨_,hfr,?_⟩);refine UK Hz hI.closed ho tI fB ?_;unfold bqG;rw[bjK];right;rw[hg];simp[hd]
     have qC:Ny P ops o (wpAny P .any ops Q fuel (L.setIfInBounds i true)) Q a w->wpOp P ops Q i (wpAny P .any ops Q fuel (L.setIfInBounds i true)) a w:=by
       intro h;unfold wpOp;rw[ho];unfold Ny at h;simp only;split;rename_i hw;rw[if_pos hw] at h;exact .inl h;rename_i hw;rw[if_neg hw] at h;exact h
     refine qC ?_;cases hqo:calm o.op with
     | false =>
       have hki:Oa k=Oa i:=by
         rcases Nat.le_total k i with aPN | aPN
         exact adO hqs i aPN (by omega) (λm h1 h2 hm=>by
           obtain⟨y,hy,hyq⟩:=hm;have:=Yo Hz hI.closed hy ho fB h2 (agD hyq hqo);have:=(bJ m ⟨y,hy,hyq⟩).1 this;omega)
         exact(adO hqs k aPN hk (λm h1 h2 hm=>by
           obtain⟨y,hy,hyq⟩:=hm;have hLm:=(bJ m ⟨y,hy,hyq⟩).2 h2;by_cases e:m=i;subst e;rw[tI] at hLm;cases hLm;have:=R5 Hz hI.closed ho hy tI (by omega) (agD hqo hyq);rw[this] at hLm;cases hLm)).symm
       rw[hki] at Fl;refine hl i o ho hqo c w a _ _ Fl wC ZB ?_;intro u w' c' Z2 NG hu;refine step (i+1) u w' c' (by omega) (λl hl'=>?_) Z2 NG hu;by_cases e:l=i;subst e;rw[hMi];simp;rw[hMn l e,bJ l hl'];obtain⟨y,hy,hyq⟩:=hl';constructor;intro hlt';have hLl:=(bJ l ⟨y,hy,hyq⟩).2 hlt';rcases blL l i with h1 | h1
       omega;have:=R5 Hz hI.closed ho hy tI (by omega) (agD hqo hyq);rw[this] at hLl;cases hLl;intro hlt';have:=Yo Hz hI.closed hy ho fB (by omega) (agD hyq hqo);exact(bJ l ⟨y,hy,hyq⟩).1 this
     | true =>
       have qJ:∀l,fT ops l->((L.setIfInBounds i true).getD l false=true↔l < k):=by
         intro l hl'
         have hne:l≠i:=by
           intro e;subst e;obtain⟨y,hy,hyq⟩:=hl';rw[ho] at hy;cases hy;rw[hqo] at hyq;cases hyq
         rw[hMn l hne];exact bJ l hl'
       have kT:Win ops i k:=by
         refine⟨λl hl' hd=>?_,λl hl' hd=>?_⟩;exact(bJ l hl').1 (dR hI.closed (B6 ho) fB hd);rcases blL l k with h1 | h1
         exfalso;have hLl:=(bJ l hl').2 h1;obtain⟨y,hy,hyq⟩:=hl';have:=dR hI.closed (B6 hy) (hI.closed l y (B6 hy) hLl) hd;rw[tI] at this;cases this;exact h1
       unfold Ny;rcases dJ hqo with hqo | ⟨e,hoe⟩
       obtain⟨_,VC⟩:=hq i o ho hqo;rcases VC with ⟨hw,hv⟩ | ⟨hw,hv⟩
       rw[<- ZB,hw];simp only[biT,if_false];exact step k undef w c hk qJ (Ext.refl c w) Fl (by rw[hv];exact .sc rfl);rw[<- ZB,hw];simp only[if_true];have aXA:=pA Fl wC (λ_=>rfl) (hv k hk kT);obtain⟨u,w',c',hr,Z2,NG,hu⟩:=aXA;unfold boB;rcases hr with hr | ⟨hr,rfl⟩
       rw[hr];exact step k u w' c' hk qJ Z2 NG hu;rw[hr];exact step k undef w' c' hk qJ Z2 NG hu;obtain⟨_,VC⟩:=ha i o e ho hoe;rcases VC with ⟨hw,hv⟩ | ⟨hw,z,hz,hrk,hv,aXB⟩
       rw[<- ZB,hw];simp only[biT,if_false];exact step k undef w c hk qJ (Ext.refl c w) Fl (by rw[hv];exact .sc rfl);rw[<- ZB,hw];simp only[if_true];have hia:BM o.op=true:=by rw[hoe];rfl
       obtain⟨u,w',c',hr,hm',NG,hu,bcT,bdW⟩:=aaG (ρ:=a.eval) Fl hoe hz (abL i o ho hia tI hrk) (aXB k hk kT);unfold boB;rw[hr];refine aKC k u w' c' hk qJ (bcT zV w0 hx (by omega)) hm' (λj y hy qR hj hjn=>?_) NG (by rw[hv];exact hu);have hji:j≠i:=λe=>by subst e;rw[hMi] at hj;cases hj
       rw[hMn j hji] at hj;have hne:rk ops j≠rk ops i:=λe=>hji (aSJ hy ho qR hia e);rw[bdW _ (by omega)];exact abL j y hy qR hj hjn
end
end AI
namespace AI
open Go Go.RowKit
def rP{G:AK}{c:Cx}{w:World}{s:AS}{fr:List AV}{a:Act}(hs:St G c w s)(hf:Cv c w fr a.tmps.toList)(x:Operand):kE G c w fr a.eval x:=λ_ hv=>EB hs hf hv
def MB{P:Program}{ops:Array Oper}{o:Oper}{i:Nat}{l:List Nat}{Q:Exit->Act->World->Prop}{a:Act}{w:World}(ho:ops[i]?=some o)(h:Ny P ops o (wpOps P ops Q l) Q a w):wpOps P ops Q (i::l) a w:=by
 unfold wpOps;rw[ho];unfold Ny at h;simp only;split;rename_i hw;rw[if_pos hw] at h;exact .inl h;rename_i hw;rw[if_neg hw] at h;exact h
def Vs.RH{G:AK}{c:Cx}{w:World}{e:AX}{fr':List AV}{s':AS}{e':Exit}{a':Act}{w':World}(h:Vs G c w e fr' s' e' a' w')(he:e≠.normal):e'≠.normal:=by
 obtain⟨c',_,_,_,h4⟩:=h;cases e with
 | normal=>exact absurd rfl he
 | exit id=>intro h5;rw[h4.1] at h5;cases h5
 | ret=>intro h5;rw[h4.1] at h5;cases h5
 | pan v=>obtain⟨u,h5,_⟩:=h4;intro h6;rw[h5] at h6;cases h6
def X7{K:Act->World->Prop}{Q:Exit->Act->World->Prop}{e:Exit}{a:Act}{w:World}(he:e≠.normal)(h:Q e a w):Exit.then K Q e a w:=by
 cases e<;>first | exact absurd rfl he | exact h
structure aHP(P:Program)(G:AK)(X:Yl)(H:UY):Prop where
 mixed:P.follows .mixedOrders=true
 ext:∀f args s r s',X f args s r s'->Sound P G (.call f args s r s')
 aPP:∀f args g eG k,H f args=some (g,eG,k)->∀s r s' r',Sound P G (.call g eG s r s')->k r=some r'->Sound P G (.call f args s r' s')
def sound{P:Program}{G:AK}{X:Yl}{H:UY}(hg:aHP P G X H){jd:Jd}(h:J P G X H jd):Sound P G jd:=by
 induction h with
 | sem h=>exact h hg.mixed
 | jJ hw _ ih=>intro cx w a Q hs hf hd hQ;obtain⟨c2,x,h1,h2⟩:=hw cx w _ hs hf;exact ih c2 w a Q h1 h2 hd (λe a w hp=>hQ e a w (hp.ext x))
 | aKK hw _ ih=>obtain⟨n,ih⟩:=ih;exact⟨n,λcx w a Q hs hf hd hQ=>by obtain⟨c2,x,h1,h2⟩:=hw cx w _ hs hf;exact ih c2 w a Q h1 h2 hd (λe a w hp=>hQ e a w (hp.ext x))⟩
 | acP _ _ hv ih =>
   intro cx w a K Q hs Je hwa hK;exact ih cx w a K Q hs Je hwa (λu w' c' x st hu=>hK u w' c' x st (hv _ _ _ hu))
 | rO _ _ hv ih =>
   intro cx w a K Q hs Je hwa hK;exact ih cx w a K Q hs Je hwa (λu w' c' x st hu=>hK u w' c' x (hv _ _ st) hu)
 | @scope c fr fr2 fr' s s2 s' e _ he hsc ih =>
   intro cx w a Q hs hf hd hQ;refine ih cx w a Q hs hf hd ?_;rintro e' a' w' ⟨c',hx,hs',Th,h4⟩;cases e with
   | normal=>obtain⟨rfl,h5⟩:=h4;obtain⟨c2,x2,Yk,f2⟩:=hsc cx w c' w' _ hx hs hs' h5;exact hQ _ _ _ ⟨c2,x2,Yk,Th,rfl,f2⟩
   | exit id=>obtain⟨rfl,h5⟩:=h4;obtain⟨c2,x2,Yk,f2⟩:=hsc cx w c' w' _ hx hs hs' h5;exact hQ _ _ _ ⟨c2,x2,Yk,Th,rfl,f2⟩
   | ret=>obtain⟨rfl,h5⟩:=h4;obtain⟨c2,x2,Yk,f2⟩:=hsc cx w c' w' _ hx hs hs' h5;exact hQ _ _ _ ⟨c2,x2,Yk,Th,rfl,f2⟩
   | pan v=>exact absurd rfl (he v)
 | skip=>intro cx w a Q hs hf hd hQ;exact wp_skip (hQ _ _ _ ⟨cx,Ext.refl _ _,hs,hd,rfl,hf⟩)
 | exit=>intro cx w a Q hs hf hd hQ;exact wp_exit (hQ _ _ _ ⟨cx,Ext.refl _ _,hs,hd,rfl,hf⟩)
 | ret=>intro cx w a Q hs hf hd hQ;exact wp_ret (hQ _ _ _ ⟨cx,Ext.refl _ _,hs,hd,rfl,hf⟩)
 | seq _ _ ih1 ih2 =>
   intro cx w a Q hs hf hd hQ;refine wp_seq (ih1 cx w a _ hs hf hd ?_);rintro e' a' w' ⟨c',hx,hs',Th,rfl,jV⟩;exact ih2 c' w' a' Q hs' jV Th (λe2 a2 w2 h2=>hQ e2 a2 w2 (h2.ext hx))
 | adJ _ he ih1 =>
   intro cx w a Q hs hf hd hQ;refine wp_seq (ih1 cx w a _ hs hf hd ?_);intro e' a' w' hp;exact X7 (hp.RH he) (hQ _ _ _ hp)
 | @cond q x y t fr fr' s s' e hq _ ih =>
   intro cx w a Q hs hf hd hQ;have hr:=EB hs hf hq
   have Je:a.eval q=.bool t:=by
     generalize a.eval q=v at hr;cases hr;rfl
   exact wp_cond Je (ih cx w a Q hs hf hd hQ)
 | @block id c fr fr' s s' e _ ih =>
   intro cx w a Q hs hf hd hQ;refine wp_block (ih cx w a _ hs hf hd ?_);rintro e' a' w' ⟨c',hx,hs',Th,h4⟩;cases e with
   | normal=>obtain⟨rfl,h5⟩:=h4;exact hQ _ _ _ ⟨c',hx,hs',Th,rfl,h5⟩
   | exit S4 =>
     obtain⟨rfl,h5⟩:=h4;show if S4=id then Q .normal a' w' else Q (.exit S4) a' w'
     by_cases hid:S4=id;rw[if_pos hid];refine hQ _ _ _ ⟨c',hx,hs',Th,?_⟩;simp only[F3,hid,if_true];exact⟨trivial,h5⟩;rw[if_neg hid];refine hQ _ _ _ ⟨c',hx,hs',Th,?_⟩;simp only[F3,hid,if_false];exact⟨trivial,h5⟩
   | ret=>obtain⟨rfl,h5⟩:=h4;exact hQ _ _ _ ⟨c',hx,hs',Th,rfl,h5⟩
   | pan v=>obtain⟨u,rfl,h5⟩:=h4;exact hQ _ _ _ ⟨c',hx,hs',Th,u,rfl,h5⟩
 | loop _ ih =>
   intro cx w a Q hs hf hd hQ;obtain⟨n,hn⟩:=ih;exact wp_loop_rounds n (hn cx w a Q hs hf hd hQ)
 | loopN _ _ ih1 ih2 =>
   obtain⟨n,hn⟩:=ih2;refine⟨n+1,?_⟩;intro cx w a Q hs hf hd hQ;rw[rounds_succ];refine ih1 cx w a _ hs hf hd ?_;rintro e' a' w' ⟨c',hx,hs',Th,rfl,jV⟩;exact hn c' w' a' Q hs' jV Th (λe2 a2 w2 h2=>hQ e2 a2 w2 (h2.ext hx))
 | loopX _ he ih1 =>
   refine⟨1,?_⟩;intro cx w a Q hs hf hd hQ;rw[rounds_succ];refine ih1 cx w a _ hs hf hd ?_;intro e' a' w' hp;exact X7 (hp.RH he) (hQ _ _ _ hp)
 | region _ ih =>
   intro cx w a Q hs hf hd hQ;exact wp_region (ih cx w a Q hs hf hd hQ)
 | auI=>intro cx w a Q hs hf hd hQ;exact hQ _ _ _ ⟨cx,Ext.refl _ _,hs,hd,rfl,hf⟩
 | @agW ops i l o v fr fr' s s1 s' e ho _ _ ih1 ih2 =>
   intro cx w a Q hs hf hd hQ;refine MB ho (ih1 cx w a _ _ hs (λx _=>rP hs hf x) (O0 (c:=cx) (w:=w) (λ_ _ _ _ _=>⟨fr,hf,rfl⟩)) ?_);intro u w' c' hx hs' hu;exact ih2 c' w' (a.put o.dst u) Q hs' (Qm (hf.mono hx) hu) (by cases o.dst<;>exact hd) (λe2 a2 w2 h2=>hQ e2 a2 w2 (h2.ext hx))
 | @auJ ops i l o v fr s s1 ho _ ih1 =>
   intro cx w a Q hs hf hd hQ;refine MB ho (ih1 cx w a _ _ hs (λx _=>rP hs hf x) (O0 (c:=cx) (w:=w) (λ_ _ _ _ _=>⟨fr,hf,rfl⟩)) ?_);intro u w' c' hx hs' hu;exact hQ _ _ _ ⟨c',hx,hs',hd,u,rfl,hu⟩
 | @Pj ops o fr s s' v hw h =>
   intro cx w a K Q hs Je hwa hK;unfold Ny;rw[<- hwa,hw];simp only[if_true];obtain⟨u,w',c',hr,hx,hs',hu⟩:=pA hs Je (λ_=>rfl) h;unfold boB;rcases hr with hr | ⟨hr,rfl⟩
   rw[hr];exact hK u w' c' hx hs' hu;rw[hr];exact hK undef w' c' hx hs' hu
 | @auG ops o fr s s' cl x y t tx a b v hw ho He hxs DT ha hb h =>
   intro cx w ac K Q hs Je hwa hK;unfold Ny;rw[<- hwa,hw];simp only[if_true];have e1:cl.args=#[x,y]:=by apply bjQ;rw[hxs]
   have e2:cl.argTypes=#[t,tx]:=by apply bjQ;rw[DT]
   have Zz:∀z∈[x,y],z∈o.op.operands:=λz hz=>by rw[ho];simp only[Op.operands,Call.operands,e1,Array.mem_append];exact .inr (by simpa using hz)
   obtain⟨u,w',c',hr,hx,hs',hu⟩:=h cx w _ _ o.type hs (Je x (Zz x (by simp)) a ha) (Je y (Zz y (by simp)) b hb);unfold boB
   have hr2:(execOp ac.eval o).run P w=.ok (.value u) w':=by
     simp[execOp,ho,resolve,He,e1,e2,invoke,builtin,hr]
   rw[hr2];exact hK u w' c' hx hs' hu
 | @acO ops o fr s hw =>
   intro cx w a K Q hs Je hwa hK;unfold Ny;rw[<- hwa,hw];simp only[biT,if_false];exact hK undef w cx (Ext.refl _ _) hs (.sc rfl)
 | @T7 ops o fr s s' f args r hw h _ ih =>
   intro cx w a K Q hs Je hwa hK;unfold Ny;rw[<- hwa,hw];simp only[if_true];obtain⟨vs,hr,GB⟩:=pA hs Je (λ_=>rfl) h;unfold boB;rw[hr];refine(ih cx w vs hs GB).mono ?_;rintro e w' ⟨c',hx,hs',h4⟩;cases r with
   | ret v=>obtain⟨u,rfl,hu⟩:=h4;exact hK u w' c' hx hs' hu
   | pan v=>obtain⟨u,rfl,hu⟩:=h4;exact hK u w' c' hx hs' hu
 | @aJO ops o fr s v hw h =>
   intro cx w a K Q hs Je hwa hK;unfold Ny;rw[<- hwa,hw];simp only[if_true];obtain⟨u,hr,hu⟩:=pA hs Je (λ_=>rfl) h;unfold boB;rw[hr];exact hK u w cx (Ext.refl _ _) hs hu
 | @draw id ops f0 s0 rs vals Oa h0 Hz hl hq ha ihl =>
   intro cx w a Q hs hf hd hQ;refine wp_region_any hg.mixed ?_;obtain⟨x,st⟩:=hs.same (uQ w);obtain⟨c2,x2,Yk,Tl⟩:=st.holds rs;rw[<- h0] at Yk;rw[hs.len] at ha;refine apA (nh:=rs.length) Hz ihl hq cx w ha Q hQ ops.size _ a _ ⟨by simp,?_,⟨c2,0,Nat.zero_le _,?_,x.trans x2,Yk,?_,?_⟩,hd⟩ ?_;intro i o ho hL;exfalso;simp only[bkD,bmC] at hL;split at hL<;>simp at hL
   intro l _;simp only[bkD,bmC];split<;>simp
   · have:IJ f0 (Cb ops) vals (λj=>(bkZ ops.size false).getD j false) ops.size=f0:=by
       have key:∀n,IJ f0 (Cb ops) vals (λj=>(bkZ ops.size false).getD j false) n=f0:=by
         intro n
         induction n with
         | zero=>rfl
         | succ n ih =>
           simp only[IJ,ih];rw[if_neg];simp only[bkD,bmC];split<;>simp
       exact key _
     rw[this];exact hf.mono (x.trans x2)
   intro j y _ _ _ hj;rw[Tl,List.getElem?_append_right (by omega)];simp[List.getElem?_replicate];omega
   · have key:∀n,uU (λj=>(bkZ ops.size false).getD j false) n=n:=by
       intro n
       induction n with
       | zero=>rfl
       | succ n ih =>
         simp only[uU,ih]
         have:(bkZ ops.size false).getD n false=false:=by
           simp only[bkD,bmC];split<;>simp
         simp only[this];simp
     exact key _
 | @body f fn c args fr' s s' s2 e v hf hb _ he hr hk ih =>
   intro cx w vs hs GB;have hl:=GB.len;refine calls_of_wp hf hb (ih cx w _ _ hs ?_ rfl ?_);simp only[bnK,boD];rw[bkR,hl];exact GB.append (Cv.replicate (.sc rfl) _);rintro e' a' w' ⟨c',hx,hs',Th,h4⟩
   have mR:St G c' w' s2:=by
     rcases hk with rfl | rfl
     exact hs'.cut _;exact hs'
   rcases he with rfl | rfl
   obtain⟨rfl,h5⟩:=h4;obtain⟨u,h6,h7⟩:=TF hs' h5 hr;exact⟨Th,u,h6,c',hx,mR,u,rfl,h7⟩;obtain⟨rfl,h5⟩:=h4;obtain⟨u,h6,h7⟩:=TF hs' h5 hr;exact⟨Th,u,h6,c',hx,mR,u,rfl,h7⟩
 | @aHW f fn c args fr' s s' v hf hb _ ih =>
   intro cx w vs hs GB;have hl:=GB.len;refine calls_of_wp hf hb (ih cx w _ _ hs ?_ rfl ?_);simp only[bnK,boD];rw[bkR,hl];exact GB.append (Cv.replicate (.sc rfl) _);rintro e' a' w' ⟨c',hx,hs',Th,u,rfl,h5⟩;exact⟨Th,c',hx,hs'.cut _,u,rfl,h5⟩
 | ext h=>exact hg.ext _ _ _ _ _ h
 | aPP hh _ hk ih=>exact hg.aPP _ _ _ _ _ hh _ _ _ _ ih hk
end AI
namespace AI
open Go Go.RowKit
def ayW:Value->Value->Bool
 | .int k a,.int k' b=>k == k'&&a == b
 | .bool a,.bool b=>a == b
 | .string a,.string b=>a.data.toList == b.data.toList
 | .nilIface,.nilIface=>true
 | .nilFunc,.nilFunc=>true
 | .pointer none,.pointer none=>true
 | .map none,.map none=>true
 | .tuple a,.tuple b=>a.size == 0&&b.size == 0
 | _,_=>false
def aeN{a b:Value}(h:ayW a b=true):a=b:=by
 unfold ayW at h;split at h;simp at h;rw[h.1,h.2];simp at h;rw[h];simp only[beq_iff_eq] at h;rename_i x y;have:x=y:=ByteArray.ext (bjQ h);rw[this];rfl;rfl;rfl;rfl;rename_i x y;simp at h;rw[h.1,h.2];cases h
mutual
def VW:AV->AV->Bool
 | .sc a,.sc b=>ayW a b
 | .agg a,.agg b=>dF a b
 | .E9 a,.E9 b=>dF a b
 | .sl o n a,.sl p m b=>decide (o=p)&&n == m&&dF a b
 | .msl a b c,.msl x y z=>a == x&&b == y&&c == z
 | .el a,.el b=>dF a b
 | .ptr a b,.ptr x y=>a == x&&b == y
 | .fn f a b,.fn g x y=>decide (f=g)&&dF a x&&dF b y
 | .ifc t a,.ifc u b=>t == u&&VW a b
 | .mp a,.mp b=>a == b
 | _,_=>false
def dF:List AV->List AV->Bool
 | [],[]=>true
 | a::as,b::bs=>VW a b&&dF as bs
 | _,_=>false
end
mutual
def aeM:∀{a b:AV},VW a b=true->a=b
 | .sc a,b,h=>by cases b<;>simp[VW] at h;rw[aeN h]
 | .agg a,b,h=>by cases b<;>simp[VW] at h;rw[Qo h]
 | .E9 a,b,h=>by cases b<;>simp[VW] at h;rw[Qo h]
 | .sl o n a,b,h=>by cases b<;>simp[VW] at h;rw[h.1.1,h.1.2,Qo h.2]
 | .msl _ _ _,b,h=>by cases b<;>simp[VW] at h;rw[h.1.1,h.1.2,h.2]
 | .el a,b,h=>by cases b<;>simp[VW] at h;rw[Qo h]
 | .ptr _ _,b,h=>by cases b<;>simp[VW] at h;rw[h.1,h.2]
 | .fn f a c,b,h=>by cases b<;>simp[VW] at h;rw[h.1.1,Qo h.1.2,Qo h.2]
 | .ifc t a,b,h=>by cases b<;>simp[VW] at h;rw[h.1,aeM h.2]
 | .mp _,b,h=>by cases b<;>simp[VW] at h;rw[h]
 | .any,b,h=>by cases b<;>simp[VW] at h
def Qo:∀{a b:List AV},dF a b=true->a=b
 | [],b,h=>by cases b<;>simp[dF] at h;rfl
 | a::as,b,h=>by cases b<;>simp[dF] at h;rw[aeM h.1,Qo h.2]
end
def reads:Op->Bool
 | .load .. | .lookup ..=>true
 | .call cl=>(match cl.callee with
   | .builtin .len=>true
   | _=>false)
 | _=>false
def YR{P:Program}{G:AK}{fr:List AV}{s:AS}{o:Oper}{r:AR}(hq:quiet o.op=true)(h:RZ P G fr s o=some r):∃v,r=.val v s:=by
 unfold RZ at h;split at h<;>rename_i ho<;>(try (rw[ho] at hq;simp[quiet] at hq;done))
 all_goals first
   | (obtain⟨v,_,rfl⟩:=map_some h;exact⟨_,rfl⟩)
   | (split at h
      all_goals first
        | (obtain⟨v,_,rfl⟩:=map_some h;exact⟨_,rfl⟩)
        | (cases h;done)
        | (cases h;exact⟨_,rfl⟩)
        | (split at h
           all_goals first
             | (cases h;done)
             | (cases h;exact⟨_,rfl⟩)))
   | (obtain⟨_,_,h2⟩:=bind_some h;obtain⟨v,_,rfl⟩:=map_some h2;exact⟨_,rfl⟩)
   | (rw[ho] at hq
      unfold Vu at h;split at h
      all_goals first
        | (obtain⟨_,_,h2⟩:=bind_some h;obtain⟨v,_,rfl⟩:=map_some h2;exact⟨_,rfl⟩)
        | (rename_i He;simp[quiet,He] at hq;done)
        | (split at h
           all_goals first
             | (obtain⟨v,_,rfl⟩:=map_some h;exact⟨_,rfl⟩)
             | (cases h;done))
        | (cases h;done))
   | (cases h;done)
def Wp{P:Program}{G:AK}{fr:List AV}{s:AS}{o:Oper}{v:AV}{s':AS}(hq:quiet o.op=true)(hr:reads o.op=false)(h:RZ P G fr s o=some (.val v s'))(s2:AS):RZ P G fr s2 o=some (.val v s2):=by
 have e:=YR hq h;obtain⟨v',e⟩:=e;injection e with e1 e2
 subst e1 e2;obtain⟨dst,op,ty,pos,after,guard⟩:=o;cases op<;>simp only[quiet,reads,biT] at hq hr<;>simp only[RZ] at h ⊢
 all_goals first
   | (obtain⟨v',h1,h2⟩:=map_some h;injection h2 with h2;subst h2;rw[h1];rfl)
   | (obtain⟨q,h0,h2⟩:=bind_some h;obtain⟨v',h1,h3⟩:=map_some h2;injection h3 with h3;subst h3;rw[h0,NF,h1];rfl)
   | (split at h
      all_goals first
        | (obtain⟨v',h1,h2⟩:=map_some h;injection h2 with h2;subst h2;simp only[*,biQ];done)
        | (cases h;done)
        | (cases h;simp only[*];done)
        | (split at h
           all_goals first
             | (cases h;done)
             | (cases h;simp[*];done)))
   | (cases hr;done)
   | (rename_i cl
      unfold Vu at h ⊢;split at h
      all_goals first
        | (rename_i He;simp[He] at hr;done)
        | (rename_i He;simp[He] at hq;done)
        | (simp only;obtain⟨q,h0,h2⟩:=bind_some h;obtain⟨v',h1,h3⟩:=map_some h2;injection h3 with h3;subst h3;rw[h0,NF,h1];rfl)
        | (cases h;done))
end AI
namespace AI
open Go Go.RowKit
inductive Tk where
 | code (c:Code) (fr:List AV) (s:AS)
 | loop (c:Code) (fr:List AV) (s:AS)
 | ops (ops:Array Oper) (l:List Oper) (fr:List AV) (s:AS)
 | draw (ops:Array Oper) (l:List Oper) (fr:List AV) (s:AS) (q:Nat)
 | op (ops:Array Oper) (o:Oper) (fr:List AV) (s:AS)
 | call (f:FuncId) (args:List AV) (s:AS)
inductive Rs where
 | code (e:AX) (fr:List AV) (s:AS)
 | call (r:CR) (s:AS)
 | tr (l:List (List AV×AS×AV)) (fr:List AV) (s:AS)
abbrev aHO:=FuncId->List AV->AS->Option (CR×AS)
def Oo:List Oper->Nat->List Nat
 | [],_=>[]
 | o::os,i=>if calm o.op then Oo os (i+1) else i::Oo os (i+1)
def ayG(ms:List Nat)(ls:List Nat)(i k:Nat):Bool:=ls.all λl=>(!UI ms i l||decide (l < k))&&(!UI ms l i||decide (k<=l))
def ahO(P:Program)(G:AK)(ms ls:List Nat)(i:Nat)(o:Oper)(fr:List AV)(v:AV):List AS->Nat->Bool
 | [],_=>true
 | s::ss,k=>(!ayG ms ls i k||(match RZ P G fr s o with
     | some (.val u _)=>VW u v
     | _=>false))&&ahO P G ms ls i o fr v ss (k+1)
def ahS(P:Program)(G:AK)(ops:Array Oper)(ms ls:List Nat)(Oa:List AS):List Oper->List (List AV×AS×AV)->Nat->Bool
 | o::os,t::ts,i=>(!(quiet o.op&&reads o.op)||!Cw ops t.1 o||ahO P G ms ls i o t.1 t.2.2 Oa 0)&&ahS P G ops ms ls Oa os ts (i+1)
 | _,_,_=>true
def dG(ms ls:List Nat)(i id:Nat)(cs:List AV):List AS->Nat->Bool
 | [],_=>true
 | s::ss,k=>(!ayG ms ls i k||(match s.get id with
     | some (.cells ds)=>dF ds cs
     | _=>false))&&dG ms ls i id cs ss (k+1)
def VT(P:Program)(ops:Array Oper)(ms ls:List Nat)(Oa:List AS):List Oper->List (List AV×AS×AV)->Nat->Nat->Bool
 | o::os,t::ts,i,q=>(match o.op with
   | .alloc e=>(!Cw ops t.1 o||(match M1 P e with
     | some z=>dG ms ls i q (cellsOf z) Oa 0
     | none=>false))&&VT P ops ms ls Oa os ts (i+1) (q+1)
   | _=>VT P ops ms ls Oa os ts (i+1) q)
 | _,_,_,_=>true
def rsv(P:Program):List Oper->Option (List Ao)
 | []=>some []
 | o::l=>(match o.op with
   | .alloc e=>(match M1 P e,rsv P l with
     | some z,some r=>some (.cells (cellsOf z)::r)
     | _,_=>none)
   | _=>rsv P l)
def aEP(P:Program)(G:AK)(ops:Array Oper)(tr:List (List AV×AS×AV))(sf:AS):Bool :=
 match Oo ops.toList 0 with
 | []=>true
 | ls=>ahS P G ops (Ig ops.toList []) ls (tr.map (·.2.1)++[sf]) ops.toList tr 0
def cC(P:Program)(ops:Array Oper)(tr:List (List AV×AS×AV))(sf:AS)(q:Nat):List Ao->Bool
 | []=>true
 | _=>VT P ops (Ig ops.toList []) (Oo ops.toList 0) (tr.map (·.2.1)++[sf]) ops.toList tr 0 q
def aTD(P:Program)(G:AK)(ops:Array Oper)(tr:List (List AV×AS×AV))(sf:AS)(q:Nat)(r:List Ao):Bool :=
 match aEP P G ops tr sf with
 | true=>cC P ops tr sf q r
 | false=>false
def aVX:AV->Bool
 | .ptr _ _ | .msl _ _ _ | .mp _ | .fn _ _ _=>true
 | _=>false
def aNF:List AV->Bool
 | []=>false
 | a::l=>match aVX a with
   | true=>true
   | false=>aNF l
def esc:AV->Bool
 | .agg l=>aNF l
 | .E9 l=>aNF l
 | a=>aVX a
def fin(v:AV)(s:AS)(n:Nat):AS:=match esc v with
 | true=>s
 | false=>s.cut n
def QQ(ops:Array Oper)(fr:List AV)(o:Oper)(q:Nat):AV:=match Cw ops fr o with
 | true=>.ptr q 0
 | false=>.sc undef
inductive U0(P:Program)(G:AK)(X:Yl)(H:UY)(ops:Array Oper):Nat->List Oper->List AV->AS->List (List AV×AS×AV)->List AV->AS->Prop where
 | nil {q:Nat} {fr:List AV} {s:AS}:U0 P G X H ops q [] fr s [] fr s
 | cons {q:Nat} {o:Oper} {l:List Oper} {fr fr':List AV} {s s1 s':AS} {v:AV} {t:List (List AV×AS×AV)} (ha:BM o.op=false) (h:J P G X H (.op ops o fr s (.ret v) s1)) (k:U0 P G X H ops q l (IW fr o.dst v) s1 t fr' s'):U0 P G X H ops q (o::l) fr s ((fr,s,v)::t) fr' s'
 | alloc {q:Nat} {o:Oper} {l:List Oper} {fr fr':List AV} {s s':AS} {t:List (List AV×AS×AV)} (ha:BM o.op=true) (k:U0 P G X H ops (q+1) l (IW fr o.dst (QQ ops fr o q)) s t fr' s'):U0 P G X H ops q (o::l) fr s ((fr,s,QQ ops fr o q)::t) fr' s'
section
variable {P:Program} {G:AK} {X:Yl} {H:UY} {ops:Array Oper}
def U0.len{q:Nat}{l:List Oper}{fr fr':List AV}{s s':AS}{t:List (List AV×AS×AV)}(h:U0 P G X H ops q l fr s t fr' s'):t.length=l.length:=by
 induction h with
 | nil=>rfl
 | cons _ _ _ ih=>simp[ih]
 | alloc _ _ ih=>simp[ih]
def FQ(t:List (List AV×AS×AV))(sf:AS)(i:Nat):AS:=match t[i]? with
 | some x=>x.2.1
 | none=>sf
def KT(t:List (List AV×AS×AV))(i:Nat):AV:=match t[i]? with
 | some x=>x.2.2
 | none=>.sc undef
def U0.at{q:Nat}{l:List Oper}{fr fr':List AV}{s s':AS}{t:List (List AV×AS×AV)}(h:U0 P G X H ops q l fr s t fr' s'):FQ t s' 0=s/\∀i o,l[i]?=some o->∃fi,t[i]?=some (fi,FQ t s' i,KT t i) /\
   ((BM o.op=false/\J P G X H (.op ops o fi (FQ t s' i) (.ret (KT t i)) (FQ t s' (i+1))))\/(BM o.op=true/\FQ t s' (i+1)=FQ t s' i/\KT t i=QQ ops fi o (q+rkL l i))):=by
 induction h with
 | nil=>exact⟨rfl,λi o ho=>by simp at ho⟩
 | @cons q o l fr fr' s s1 s' v t ha h k ih =>
   refine⟨rfl,λi o' ho=>?_⟩;cases i with
   | zero =>
     simp at ho;subst ho;refine⟨fr,rfl,.inl ⟨ha,?_⟩⟩
     have:FQ ((fr,s,v)::t) s' 1=s1:=by
       have:=ih.1;unfold FQ at this ⊢;simpa using this
     rw[this];exact h
   | succ i =>
     obtain⟨fi,h1,h2⟩:=ih.2 i o' (by simpa using ho)
     refine⟨fi,?_,?_⟩;have:((fr,s,v)::t)[i+1]?=t[i]?:=by simp
     rw[this,h1];simp[FQ,KT];simp only[rkL,ha,bcD];simpa[FQ,KT] using h2
 | @alloc q o l fr fr' s s' t ha k ih =>
   refine⟨rfl,λi o' ho=>?_⟩;cases i with
   | zero =>
     simp at ho;subst ho;refine⟨fr,rfl,.inr ⟨ha,?_,?_⟩⟩;have:=ih.1;unfold FQ at this ⊢;simpa using this
     simp[KT,rkL]
   | succ i =>
     obtain⟨fi,h1,h2⟩:=ih.2 i o' (by simpa using ho)
     refine⟨fi,?_,?_⟩;have:((fr,s,QQ ops fr o q)::t)[i+1]?=t[i]?:=by simp
     rw[this,h1];simp[FQ,KT];simp only[rkL,ha];rw[<- blQ];simpa[FQ,KT] using h2
def U0.pY{q:Nat}{l:List Oper}{fr fr':List AV}{s s':AS}{t:List (List AV×AS×AV)}(h:U0 P G X H ops q l fr s t fr' s')(dst:Nat->Option Tmp)(vals:Nat->AV)(f0:List AV)(k:Nat)(hfr:fr=IJ f0 dst vals (λ_=>true) k)(hd:∀i o,l[i]?=some o->dst (k+i)=o.dst)(hv:∀i,vals (k+i)=KT t i\/l.length<=i) :
   fr'=IJ f0 dst vals (λ_=>true) (k+l.length)/\∀i x,t[i]?=some x->x.1=IJ f0 dst vals (λ_=>true) (k+i):=by
 have key:∀{q:Nat} {o:Oper} {l:List Oper} {fr fr':List AV} {s:AS} {v:AV} {t:List (List AV×AS×AV)}
     (_:∀(k:Nat),IW fr o.dst v=IJ f0 dst vals (λ_=>true) k->(∀i o,l[i]?=some o->dst (k+i)=o.dst)->(∀i,vals (k+i)=KT t i\/l.length<=i)->fr'=IJ f0 dst vals (λ_=>true) (k+l.length)/\∀i x,t[i]?=some x->x.1=IJ f0 dst vals (λ_=>true) (k+i))
     (k:Nat),fr=IJ f0 dst vals (λ_=>true) k->(∀i o',(o::l)[i]?=some o'->dst (k+i)=o'.dst)->(∀i,vals (k+i)=KT ((fr,s,v)::t) i\/(o::l).length<=i) ->
     fr'=IJ f0 dst vals (λ_=>true) (k+(o::l).length)/\∀i x,((fr,s,v)::t)[i]?=some x->x.1=IJ f0 dst vals (λ_=>true) (k+i):=by
   intro q o l fr fr' s v t ih k hfr hd hv;have hd0:=hd 0 o rfl
   have hv0:vals k=v:=by
     rcases hv 0 with h0 | h0
     simpa[KT] using h0
     simp at h0
   have:=ih (k+1) (by simp only[IJ,if_true];rw[hfr,<- hd0,hv0];rfl) (λi o' Zy=>by have:=hd (i+1) o' (by simpa using Zy);rwa[show k+1+i=k+(i+1) from by omega]) (λi=>by
     rcases hv (i+1) with h1 | h1
     left;rw[show k+1+i=k+(i+1) from by omega,h1];simp[KT];right;simp at h1;omega)
   refine⟨by rw[this.1];congr 1;simp;omega,λi x hx=>?_⟩;cases i with
   | zero=>simp at hx;subst hx;exact hfr
   | succ i =>
     have h2:=this.2 i x (by simpa using hx)
     rw[h2];congr 1;omega
 induction h generalizing k with
 | nil=>exact⟨hfr,λi x hx=>by simp at hx⟩
 | @cons q o l fr fr' s s1 s' v t ha h _ ih=>exact key (q:=q) (λk h1 h2 h3=>ih k h1 h2 h3) k hfr hd hv
 | @alloc q o l fr fr' s s' t ha _ ih=>exact key (q:=q) (λk h1 h2 h3=>ih k h1 h2 h3) k hfr hd hv
def aGV{i k:Nat}{ls:List Nat}(hls:∀l,l∈ls->fT ops l)(h:Win ops i k):ayG (Ig ops.toList []) ls i k=true:=by
 unfold ayG;rw[List.all_eq_true];intro l hl;have h1:=h.1 l (hls l hl);have h2:=h.2 l (hls l hl);cases hd1:UI (Ig ops.toList []) i l<;>cases hd2:UI (Ig ops.toList []) l i<;>simp_all
def rI{os:List Oper}{i l:Nat}(h:l∈Oo os i):∃j o,l=i+j/\os[j]?=some o/\calm o.op=false:=by
 induction os generalizing i with
 | nil=>simp[Oo] at h
 | cons x os ih =>
   simp only[Oo] at h;split at h;obtain⟨j,o,h1,h2,h3⟩:=ih h;exact⟨j+1,o,by omega,by simpa using h2,h3⟩
   rename_i hq;rcases biX.1 h with h | h
   exact⟨0,x,by omega,rfl,by simpa using hq⟩
   obtain⟨j,o,h1,h2,h3⟩:=ih h;exact⟨j+1,o,by omega,by simpa using h2,h3⟩
def Kf{o:Oper}{fr:List AV}{s s':AS}{v:AV}(hq:quiet o.op=true)(h:J P G X H (.op ops o fr s (.ret v) s')):s'=s/\((Cw ops fr o=false/\v=.sc undef)\/(Cw ops fr o=true/\RZ P G fr s o=some (.val v s))):=by
 cases h with
 | Pj hw h =>
   obtain⟨v',e⟩:=YR hq h;injection e with e1 e2
   subst e2;exact⟨rfl,.inr ⟨hw,h⟩⟩
 | acO hw=>exact⟨rfl,.inl ⟨hw,rfl⟩⟩
 | T7 hw h hc =>
   obtain⟨v',e⟩:=YR hq h;cases e
 | acP hq2=>rw[hq] at hq2;cases hq2
 | rO hq2=>rw[hq] at hq2;cases hq2
 | auG _ ho He=>simp[quiet,ho,He] at hq
def ajO{ms ls:List Nat}{i id:Nat}{cs:List AV}{ss:List AS}{k0:Nat}(h:dG ms ls i id cs ss k0=true){k:Nat}{s:AS}(hs:ss[k]?=some s)(hw:ayG ms ls i (k0+k)=true):s.get id=some (.cells cs):=by
 induction ss generalizing k0 k with
 | nil=>simp at hs
 | cons x ss ih =>
   simp only[dG,bcA] at h;cases k with
   | zero =>
     simp at hs;subst hs;rw[Nat.add_zero] at hw;have h1:=h.1;rw[hw] at h1;simp only[bpT,bpU] at h1;split at h1;rename_i ds hu;rw[hu,Qo h1];cases h1
   | succ k=>exact ih h.2 (by simpa using hs) (by rwa[show k0+1+k=k0+(k+1) from by omega])
def ajH{ms ls:List Nat}{Oa:List AS}{os:List Oper}{ts:List (List AV×AS×AV)}{i0 q:Nat}(h:VT P ops ms ls Oa os ts i0 q=true){i:Nat}{o:Oper}{e:TypeId}{x:List AV×AS×AV}(ho:os[i]?=some o)(hx:ts[i]?=some x)(he:o.op=.alloc e)(hw:Cw ops x.1 o=true):∃z,M1 P e=some z/\dG ms ls (i0+i) (q+rkL os i) (cellsOf z) Oa 0=true:=by
 induction os generalizing ts i0 i q with
 | nil=>simp at ho
 | cons y os ih =>
   cases ts with
   | nil=>simp at hx
   | cons t ts =>
     cases i with
     | zero =>
       simp at ho hx;subst ho hx;simp only[VT,he,hw,bpT,bpU,bcA] at h;have h1:=h.1;split at h1;rename_i z hz;exact⟨z,hz,h1⟩;cases h1
     | succ i =>
       simp only[VT] at h;split at h;rename_i e' he';rw[bcA] at h;have:=ih h.2 (by simpa using ho) (by simpa using hx)
       simp only[rkL,he',BM];rwa[show i0+1+i=i0+(i+1) from by omega,blQ q] at this;rename_i hne;have:=ih h (by simpa using ho) (by simpa using hx)
       have hna:BM y.op=false:=by
         cases qR:BM y.op with
         | false=>rfl
         | true=>obtain⟨e',he'⟩:=Ld qR;exact absurd he' (hne e')
       simp only[rkL,hna,bcD];rwa[show i0+1+i=i0+(i+1) from by omega] at this
def aED{l:List Oper}{r:List Ao}(h:rsv P l=some r):r.length=rkL l l.length:=by
 induction l generalizing r with
 | nil=>simp[rsv] at h;subst h;rfl
 | cons o l ih =>
   simp only[rsv] at h;split at h;rename_i e he;split at h;rename_i z r' hz hr;cases h;simp only[Yy,rkL,he,BM,ih hr];omega;cases h;rename_i hne
   have hna:BM o.op=false:=by
     cases qR:BM o.op with
     | false=>rfl
     | true=>obtain⟨e',he'⟩:=Ld qR;exact absurd he' (hne e')
   simp only[Yy,rkL,hna,ih h];omega
def SZ{o:Oper}{e:TypeId}(h:o.op=.alloc e):quiet o.op=false:=by rw[h];rfl
end
end AI
namespace AI
open Go Go.RowKit
def inI:Int->Bool
 | .ofNat m=>bmR m 9223372036854775807
 | .negSucc m=>bmR m 9223372036854775807
def Ob(k:IntKind)(n:Int):Int:=match k with
 | .i64=>(match inI n with | true=>n | false=>bmJ.wrap n)
 | k=>k.wrap n
def aQJ{n:Int}(h:inI n=true):bmJ.wrap n=n:=by
 refine bnF n ?_;cases n with
 | ofNat m =>
   have:=bcG h;have e:Int.ofNat m=(m:Int):=rfl;rw[e];have h2:(m:Int)<=9223372036854775807:=brF.2 this;have h3:(0:Int)<=m:=brA m;omega
 | negSucc m =>
   have:=bcG h;rw[Int.negSucc_eq];constructor;have e:(-9223372036854775808:Int)=-(9223372036854775807+1):=rfl;rw[e];have h2:(m:Int)<=9223372036854775807:=brF.2 this;omega;have h2:(0:Int)<=m:=brA m;omega
def Nz(k:IntKind)(n:Int):Ob k n=k.wrap n:=by
 cases k<;>try rfl
 simp only[Ob];cases h:inI n with
 | true=>exact(aQJ h).symm
 | false=>rfl
def anF:Int->Int->Int
 | .ofNat a,.ofNat b=>.ofNat (Nat.add a b)
 | a,b=>a+b
def oW(a b:Int):anF a b=a+b:=by cases a<;>cases b<;>rfl
def aZZ(a b:Nat):Int:=match bmR b a with
 | true=>.ofNat (Nat.sub a b)
 | false=>(a:Int) - (b:Int)
def sJ:Int->Int->Int
 | .ofNat a,.ofNat b=>aZZ a b
 | a,b=>a - b
def sK(a b:Int):sJ a b=a - b:=by
 cases a<;>cases b<;>try rfl
 rename_i a b;simp only[sJ,aZZ];cases h:bmR b a with
 | true =>
   have:=bcG h;show Int.ofNat (a - b)=(a:Int) - (b:Int);exact Int.ofNat_sub this
 | false=>rfl
def Bi:Int->Int->Bool
 | .ofNat a,.ofNat b=>bjO a b
 | .negSucc a,.negSucc b=>bjO a b
 | _,_=>false
def O2(a b:Int):Bi a b=(a == b):=by
 cases a<;>cases b<;>simp only[Bi]
 rename_i a b;rw[bjP,beq_iff_eq,Int.ofNat.injEq];exact⟨λh=>bkB h,λh=>by subst h;exact bmB a⟩;rw[bjP,beq_iff_eq];exact⟨λh=>by simp at h,λh=>by cases h⟩;rw[bjP,beq_iff_eq];exact⟨λh=>by simp at h,λh=>by cases h⟩;rename_i a b;rw[bjP,beq_iff_eq,Int.negSucc.injEq];exact⟨λh=>bkB h,λh=>by subst h;exact bmB a⟩
def LS:Int->Int->Bool
 | .ofNat a,.ofNat b=>bmR a b
 | a,b=>decide (a<=b)
def fP(a b:Int):LS a b=decide (a<=b):=by
 cases a<;>cases b<;>try rfl
 rename_i a b;simp only[LS];rw[bjP,decide_eq_true_iff];show _↔(a:Int)<=(b:Int);rw[brF];exact⟨bcG,blI⟩
def Dd:Int->Int->Bool
 | .ofNat a,.ofNat b=>bmR (Nat.succ a) b
 | a,b=>decide (a < b)
def Sh(a b:Int):Dd a b=decide (a < b):=by
 cases a<;>cases b<;>try rfl
 rename_i a b;simp only[Dd];rw[bjP,decide_eq_true_iff];show _↔(a:Int) < (b:Int);rw[Int.ofNat_lt];exact⟨bcG,blI⟩
def sameKind:IntKind->IntKind->Bool
 | .i64,.i64=>true
 | .u8,.u8=>true
 | _,_=>false
def ZP{a b:IntKind}(h:sameKind a b=true):a=b:=by cases a<;>cases b<;>first | rfl | cases h
def aBA(k:IntKind)(a b:Int):BinOp->Option Value
 | .add=>some (.int k (Ob k (anF a b)))
 | .sub=>some (.int k (Ob k (sJ a b)))
 | .mul=>some (.int k (Ob k (a*b)))
 | .eql=>some (.bool (Bi a b))
 | .neq=>some (.bool (!Bi a b))
 | .lss=>some (.bool (Dd a b))
 | .leq=>some (.bool (LS a b))
 | .gtr=>some (.bool (Dd b a))
 | .geq=>some (.bool (LS b a))
 | _=>none
def aBB{P:Program}{op:BinOp}{k:IntKind}{a b:Int}{t:TypeId}{xo yo:Operand}{v:Value}(h:aBA k a b op=some v):pv P (do eqGuard op t xo yo (.int k a) (.int k b);binOp op t (.int k a) (.int k b))=some v/\scalar v=true:=by
 cases op<;>simp only[aBA,aOE,reduceCtorEq] at h<;>subst h<;>refine⟨?_,rfl⟩<;>simp[eqGuard,binOp,Op.intArith,Op.intCmp,pv,Nz,oW,sK,O2,Sh,fP,bne,Bind.bind,Sem.bind,Pure.pure]
def BD:List UInt8->List UInt8->Bool
 | [],[]=>true
 | a::l,b::m=>(match bjO a.toNat b.toNat with
   | true=>BD l m
   | false=>false)
 | _,_=>false
def Yv(l m:List UInt8):BD l m=(l == m):=by
 induction l generalizing m with
 | nil=>cases m<;>rfl
 | cons a l ih =>
   cases m with
   | nil=>rfl
   | cons b m =>
     simp only[BD];cases h:bjO a.toNat b.toNat with
     | true =>
       have:a=b:=UInt8.toNat_inj.1 (bkB h);subst this;simp only[ih];simp
     | false =>
       have:a≠b:=λe=>by subst e;have:=Nat.ne_of_beq_eq_false h;exact this rfl
       simp[this]
def aTF(x y:ByteArray):BinOp->Option Value
 | .eql=>some (.bool (BD x.data.toList y.data.toList))
 | .neq=>some (.bool (!BD x.data.toList y.data.toList))
 | op=>aaJ op x y
def aER(x y:ByteArray)(op:BinOp):aTF x y op=aaJ op x y:=by cases op<;>simp only[aTF,aaJ,Yv]
def avN(v:Option Value):Option AV:=match v with
 | some v=>(match scalar v with | true=>some (.sc v) | false=>none)
 | none=>none
def avO(v:Option Value):avN v=v.bind lL:=by
 cases v with
 | none=>rfl
 | some v=>simp only[avN,NF,lL];cases scalar v<;>rfl
def scF(P:Program)(op:BinOp)(t:TypeId)(xo yo:Operand)(x y:Value):Option AV :=
 match x with
 | .int k a=>(match y with
   | .int k' b=>(match sameKind k k' with
     | true=>(match aBA k a b op with
       | some v=>some (.sc v)
       | none=>LG P op t xo yo (.sc (.int k a)) (.sc (.int k' b)))
     | false=>LG P op t xo yo (.sc (.int k a)) (.sc (.int k' b)))
   | y=>LG P op t xo yo (.sc (.int k a)) (.sc y))
 | .string a=>(match y with
   | .string b=>avN (aTF a b op)
   | y=>LG P op t xo yo (.sc (.string a)) (.sc y))
 | x=>LG P op t xo yo (.sc x) (.sc y)
def cQ(P:Program)(op:BinOp)(t:TypeId)(xo yo:Operand)(a b:AV):Option AV :=
 match a with
 | .sc x=>(match b with
   | .sc y=>scF P op t xo yo x y
   | b=>LG P op t xo yo (.sc x) b)
 | a=>LG P op t xo yo a b
def Tx(P:Program)(op:BinOp)(t:TypeId)(xo yo:Operand)(a b:AV):cQ P op t xo yo a b=LG P op t xo yo a b:=by
 unfold cQ;cases a with
 | sc x =>
   cases b with
   | sc y =>
     simp only[scF];cases x with
     | int k a =>
       cases y with
       | int k' b =>
         simp only;cases hk:sameKind k k' with
         | false=>rfl
         | true =>
           have:=ZP hk;subst this;simp only;cases hf:aBA k a b op with
           | none=>rfl
           | some v =>
             obtain⟨h1,h2⟩:=aBB (P:=P) (t:=t) (xo:=xo) (yo:=yo) hf;simp[LG,SY,X9,h1,lL,h2]
       | _=>rfl
     | string a =>
       cases y with
       | string b=>simp only[avO,aER];rfl
       | _=>rfl
     | _=>rfl
   | _=>rfl
 | _=>rfl
def atV:List UInt8->Nat->Option UInt8
 | [],_=>none
 | a::_,0=>some a
 | _::l,n+1=>atV l n
def aBZ(l:List UInt8)(n:Nat):atV l n=l[n]?:=by
 induction l generalizing n with
 | nil=>simp[atV]
 | cons a l ih=>cases n<;>simp[atV,ih]
def aVH:Option UInt8->Option AV
 | some b=>some (.sc (.int .u8 (.ofNat b.toNat)))
 | none=>none
def bA(P:Program)(t:TypeId)(x ix:AV):Option AV :=
 match x with
 | .sc (.string s)=>(match P.underlying t with
   | some .string=>(match Tc ix with
     | some i=>aVH (atV s.data.toList i)
     | none=>none)
   | _=>LH P t (.sc (.string s)) ix)
 | x=>LH P t x ix
def aaE(P:Program)(t:TypeId)(x ix:AV):bA P t x ix=LH P t x ix:=by
 unfold bA;cases x with
 | sc v =>
   cases v with
   | string s =>
     simp only;split
     · rename_i hu
       unfold LH;rw[hu];cases Tc ix with
       | none=>rfl
       | some i =>
         simp only[aBZ];cases s.data.toList[i]?<;>rfl
     rfl
   | _=>rfl
 | _=>rfl
end AI
namespace AI
open Go Go.RowKit
def nth:List AV->Nat->AV
 | [],_=>.sc undef
 | a::_,0=>a
 | _::l,n+1=>nth l n
def aRL(l:List AV)(n:Nat):nth l n=l.getD n (.sc undef):=by
 induction l generalizing n with
 | nil=>simp[nth]
 | cons a l ih=>cases n<;>simp[nth,ih]
def evG:Option (List AV)->Option AV
 | some cs=>some (.el cs)
 | none=>none
def AJ(G:AK)(fr:List AV):Operand->Option AV
 | .tmp t=>some (nth fr t)
 | .const v=>ZJ v
 | .global g=>evG (G g)
 | .func f=>some (.fn (.func f) [] [])
def Cl(G:AK)(fr:List AV)(x:Operand):AJ G fr x=AZ G fr x:=by
 cases x with
 | tmp t=>simp only[AJ,AZ,aRL]
 | const v=>rfl
 | global g=>simp only[AJ,AZ];cases G g<;>rfl
 | func f=>rfl
def Nw(s:AS):Option AV->Option AR
 | some v=>some (.val v s)
 | none=>none
def UX(s:AS)(o:Option AV):Nw s o=o.map (λv=>.val v s):=by cases o<;>rfl
def zE:Option AS->Option AR
 | some s=>some (.val (.sc undef) s)
 | none=>none
def aGA(o:Option AS):zE o=o.map (λs=>.val (.sc undef) s):=by cases o<;>rfl
def amJ:Option (AV×AS)->Option AR
 | some r=>some (.val r.1 r.2)
 | none=>none
def aiK(o:Option (AV×AS)):amJ o=o.map (λr=>.val r.1 r.2):=by cases o<;>rfl
def tE{α β:Type}(o:Option α)(f:α->Option β):Option β:=match o with
 | some a=>f a
 | none=>none
def pG{α β:Type}(o:Option α)(f:α->Option β):tE o f=o.bind f:=by cases o<;>rfl
def two{β:Type}(a b:Option AV)(f:AV->AV->Option β):Option β:=match a with
 | some x=>(match b with
   | some y=>f x y
   | none=>none)
 | none=>none
def three{β:Type}(a b d:Option AV)(f:AV->AV->AV->Option β):Option β:=match a with
 | some x=>(match b with
   | some y=>(match d with
     | some z=>f x y z
     | none=>none)
   | none=>none)
 | none=>none
def aJQ(x y:Option AV):Option AV->Option AV
 | some (.sc (.bool t))=>(match t with | true=>x | false=>y)
 | _=>none
def atO(s:AS):Option AV->Option AR
 | some z=>some (.val (.ptr s.nx 0) (s.new (.cells (cellsOf z))))
 | none=>none
def agN(s:AS):Option AV->Option AR
 | some z=>(match VE z with | true=>none | false=>some (.val (.ptr s.nx 0) (s.new (.cells (cellsOf z)))))
 | none=>none
def aaQ(s:AS):Option AV->Option AR
 | some v=>(match notNil v with | true=>some (.val v s) | false=>none)
 | none=>none
def abU(t:TypeId)(s:AS)(v:Option AV):Option TypeDesc->Option AR
 | some d=>(match v with
   | some v=>(match isIface d with | true=>none | false=>some (.val (.ifc t v) s))
   | none=>none)
 | none=>none
def func1(f:Fn)(s:AS)(b:Option (List AV)):Option (List AV)->Option AR
 | some a=>(match b with
   | some b=>some (.val (.fn f a b) s)
   | none=>none)
 | none=>none
def awB(P:Program)(s:AS)(t:TypeId)(l h m:Option (Option AV)):Option AV->Option AR
 | some a=>(match l with
   | some l=>(match h with
     | some h=>(match m with
       | some m=>Nw s (Mn P t a l h m)
       | none=>none)
     | none=>none)
   | none=>none)
 | none=>none
def aZB:Option AV->Option AR
 | some (.ifc t v)=>some (.pan (.ifc t v))
 | _=>none
def aVV(P:Program)(as:Option (List AV)):Option AV->Option AR
 | some (.fn (.func g) first caps)=>(match as with
   | some as=>(match M5 P g with | true=>some (.ent g (first++as++caps)) | false=>none)
   | none=>none)
 | _=>none
def aYM(P:Program)(G:AK)(fr:List AV)(s:AS):List Operand->List TypeId->Option AR
 | [x],[t]=>Nw s (tE (AJ G fr x) (ZX P s t))
 | _,_=>none
def aUZ(P:Program)(G:AK)(fr:List AV)(s:AS):List Operand->List TypeId->Option AR
 | [x,y],[t,tx]=>amJ (two (AJ G fr x) (AJ G fr y) (LF P s t tx))
 | _,_=>none
def aJT(P:Program)(s:AS)(f:List Value->Sem Value):Option (List Value)->Option AR
 | some vs=>Nw s (Zr P (f vs))
 | none=>none
def aJU(P:Program)(s:AS)(f:Value->Sem Value):Option Value->Option AR
 | some v=>Nw s (Zr P (f v))
 | none=>none
def TH(P:Program)(G:AK)(fr:List AV)(s:AS)(o:Oper)(cl:Call):Builtin->Option AR
 | .len=>aYM P G fr s cl.args.toList cl.argTypes.toList
 | .append=>aUZ P G fr s cl.args.toList cl.argTypes.toList
 | .max=>aJT P s (λvs=>Builtin.max_ cl.argTypes o.type vs.toArray) (tE (kJ G fr cl.args.toList) QL)
 | .min=>aJT P s (λvs=>Builtin.min_ cl.argTypes o.type vs.toArray) (tE (kJ G fr cl.args.toList) QL)
 | _=>none
def oV(P:Program)(G:AK)(fr:List AV)(s:AS)(o:Oper)(cl:Call):Option AR :=
 match cl.callee with
 | .builtin b=>TH P G fr s o cl b
 | .value f=>aVV P (kJ G fr cl.args.toList) (AJ G fr f)
 | _=>none
def wO(s:AS):Option Operand->Option AR
 | none=>some (.val (.mp s.nx) (s.new (.map [] 0)))
 | some _=>none
def W7(P:Program)(G:AK)(fr:List AV)(s:AS)(o:Oper):Option AR :=
 match o.op with
 | .move x=>Nw s (AJ G fr x)
 | .assign x=>Nw s (AJ G fr x)
 | .pick c a b=>Nw s (aJQ (AJ G fr a) (AJ G fr b) (AJ G fr c))
 | .alloc e=>atO s (M1 P e)
 | .box _ x=>agN s (AJ G fr x)
 | .build t ps=>Nw s (tE (ME G fr ps.toList) (cT P t))
 | .buildSlice t n ps=>Nw s (tE (ME G fr ps.toList) (MZ P t n))
 | .load t a=>Nw s (tE (AJ G fr a) (JL P s t))
 | .store t a x=>zE (two (AJ G fr a) (AJ G fr x) (Lb P s t))
 | .nilCheck x=>aaQ s (AJ G fr x)
 | .binOp op t x y _=>Nw s (two (AJ G fr x) (AJ G fr y) (cQ P op t x y))
 | .unOp op _ x=>aJU P s (Op.unary op) (tE (AJ G fr x) iU)
 | .convert src dst x=>Nw s (tE (AJ G fr x) (Ty P src dst))
 | .makeInterface t x=>abU t s (AJ G fr x) (P.underlying t)
 | .makeFunc f first caps=>func1 f s (kJ G fr caps.toList) (kJ G fr first.toList)
 | .makeMap _ r=>wO s r
 | .makeSlice t l c=>amJ (two (AJ G fr l) (AJ G fr c) (JM P s t))
 | .slice t x lo hi mx=>awB P s t (tG G fr lo) (tG G fr hi) (tG G fr mx) (AJ G fr x)
 | .fieldAddr t x k=>Nw s (tE (AJ G fr x) λa=>TA P t a k)
 | .field t x k=>Nw s (tE (AJ G fr x) λa=>cW P t a k)
 | .indexAddr t x i=>Nw s (two (AJ G fr x) (AJ G fr i) (CO P t))
 | .index t x i=>Nw s (two (AJ G fr x) (AJ G fr i) (bA P t))
 | .lookup t x k ok=>Nw s (two (AJ G fr x) (AJ G fr k) λa b=>JA P s t a b ok)
 | .mapUpdate t m k x=>zE (three (AJ G fr m) (AJ G fr k) (AJ G fr x) (KV P s t))
 | .insert t m k x=>zE (three (AJ G fr m) (AJ G fr k) (AJ G fr x) (KV P s t))
 | .mapEntry t m k=>amJ (two (AJ G fr m) (AJ G fr k) (Ro P s t))
 | .entryStore _ m st x=>zE (three (AJ G fr m) (AJ G fr st) (AJ G fr x) (M0 s))
 | .extract x k=>Nw s (tE (AJ G fr x) λa=>Tz a k)
 | .call cl=>oV P G fr s o cl
 | .panic x=>aZB (AJ G fr x)
 | _=>none
def ajE(P:Program)(G:AK)(fr:List AV)(s:AS)(o:Oper)(cl:Call):oV P G fr s o cl=Vu P G fr s o cl:=by
 unfold oV Vu;cases hc:cl.callee with
 | value f =>
   simp only[Cl];cases AZ G fr f with
   | none=>rfl
   | some v =>
     cases v with
     | fn g a b =>
       cases g with
       | func g =>
         cases kJ G fr cl.args.toList with
         | none=>rfl
         | some as =>
           simp only[aVV];cases M5 P g<;>rfl
       | _=>rfl
     | _=>rfl
 | invoke r m=>rfl
 | builtin b =>
   cases b<;>try rfl
   · simp only[TH]
     cases hx:cl.args.toList with
     | nil=>rfl
     | cons x xs =>
       cases xs with
       | nil=>rfl
       | cons y ys =>
         cases ys with
         | cons z zs=>rfl
         | nil =>
           cases ht:cl.argTypes.toList with
           | nil=>rfl
           | cons t ts =>
             cases ts with
             | nil=>rfl
             | cons u us =>
               cases us with
               | cons v vs=>rfl
               | nil =>
                 simp only[aUZ,Cl];cases AZ G fr x<;>cases AZ G fr y<;>first | rfl | exact aiK _
   · simp only[TH]
     cases hx:cl.args.toList with
     | nil=>rfl
     | cons x xs =>
       cases xs with
       | cons y ys=>rfl
       | nil =>
         cases ht:cl.argTypes.toList with
         | nil=>rfl
         | cons t ts =>
           cases ts with
           | cons u us=>rfl
           | nil=>simp only[aYM,Cl,pG];exact UX _ _
   simp only[TH,pG];cases (kJ G fr cl.args.toList).bind QL with
   | none=>rfl
   | some vs=>exact UX _ _
   simp only[TH,pG];cases (kJ G fr cl.args.toList).bind QL with
   | none=>rfl
   | some vs=>exact UX _ _
def Of(P:Program)(G:AK)(fr:List AV)(s:AS)(o:Oper):W7 P G fr s o=RZ P G fr s o:=by
 unfold W7 RZ;cases ho:o.op<;>simp only[Cl,UX,aGA,aiK,pG,ajE]
 case pick c a b =>
   cases AZ G fr c with
   | none=>rfl
   | some v =>
     cases v with
     | sc u=>cases u<;>first | rfl | (rename_i t;cases t<;>rfl)
     | _=>rfl
 case alloc e=>cases M1 P e<;>rfl
 case box e x =>
   cases AZ G fr x with
   | none=>rfl
   | some v=>cases v<;>rfl
 case store t a x=>cases AZ G fr a<;>cases AZ G fr x<;>rfl
 case nilCheck x =>
   cases AZ G fr x with
   | none=>rfl
   | some v=>simp only[aaQ];cases notNil v<;>rfl
 case binOp op t x y z=>cases AZ G fr x<;>cases AZ G fr y<;>first | rfl | (simp only[two,Tx])
 case unOp op t x=>cases (AZ G fr x).bind iU with
   | none=>rfl
   | some v=>exact UX _ _
 case makeInterface t x =>
   cases AZ G fr x with
   | none=>cases P.underlying t<;>rfl
   | some v =>
     cases P.underlying t with
     | none=>rfl
     | some d=>simp only[abU];cases isIface d<;>rfl
 case makeFunc f a b=>cases kJ G fr a.toList<;>cases kJ G fr b.toList<;>rfl
 case makeMap t r=>cases r<;>rfl
 case makeSlice t l c=>cases AZ G fr l<;>cases AZ G fr c<;>rfl
 case slice t x lo hi mx =>
   cases AZ G fr x<;>cases tG G fr lo<;>cases tG G fr hi<;>cases tG G fr mx<;>first | rfl | exact UX _ _
 case indexAddr t x i=>cases AZ G fr x<;>cases AZ G fr i<;>rfl
 case index t x i=>cases AZ G fr x<;>cases AZ G fr i<;>first | rfl | (simp only[two,aaE])
 case lookup t x k ok=>cases AZ G fr x<;>cases AZ G fr k<;>rfl
 case mapUpdate t m k x=>cases AZ G fr m<;>cases AZ G fr k<;>cases AZ G fr x<;>rfl
 case insert t m k x=>cases AZ G fr m<;>cases AZ G fr k<;>cases AZ G fr x<;>rfl
 case mapEntry t m k=>cases AZ G fr m<;>cases AZ G fr k<;>rfl
 case entryStore t m k x=>cases AZ G fr m<;>cases AZ G fr k<;>cases AZ G fr x<;>rfl
 case panic x =>
   cases AZ G fr x with
   | none=>rfl
   | some v=>cases v<;>rfl
end AI
namespace AI
open Go Go.RowKit
abbrev Rec:=Tk->Option Rs
def aZW(r:Rec)(y:Code):Option Rs->Option Rs
 | some (.code e fr s)=>(match e with
   | .normal=>r (.code y fr s)
   | e=>some (.code e fr s))
 | _=>none
def aIC(r:Rec)(x y:Code)(fr:List AV)(s:AS):Option AV->Option Rs
 | some (.sc (.bool t))=>(match t with
   | true=>r (.code x fr s)
   | false=>r (.code y fr s))
 | _=>none
def anO(id:Nat):Option Rs->Option Rs
 | some (.code e fr s)=>some (.code (F3 id e) fr s)
 | _=>none
def aoN:Option Rs->Option Rs
 | some (.code e fr s)=>some (.code e fr s)
 | _=>none
def aVT(P:Program)(G:AK)(ops:Array Oper)(q:Nat)(rs:List Ao):Option Rs->Option Rs
 | some (.tr t fr s)=>(match aTD P G ops t s q rs with
   | true=>some (.code .normal fr s)
   | false=>none)
 | _=>none
def aXG(P:Program)(G:AK)(r:Rec)(ops:Array Oper)(fr:List AV)(s:AS):Option (List Ao)->Option Rs
 | some rs=>aVT P G ops s.nx rs (r (.draw ops ops.toList fr (s.hold rs) s.nx))
 | none=>none
def aVS(P:Program)(G:AK)(r:Rec)(ops:Array Oper)(fr:List AV)(s:AS):Bool->Option Rs
 | true=>aXG P G r ops fr s (rsv P ops.toList)
 | false=>none
def ahF(P:Program)(G:AK)(r:Rec)(ops:Array Oper)(fr:List AV)(s:AS):Bool->Option Rs
 | false=>aoN (r (.ops ops ops.toList fr s))
 | true=>aVS P G r ops fr s (Nb ops)
def awJ(P:Program)(G:AK)(r:Rec)(fr:List AV)(s:AS):Code->Option Rs
 | .skip=>some (.code .normal fr s)
 | .exit id=>some (.code (.exit id) fr s)
 | .ret=>some (.code .ret fr s)
 | .seq x y=>aZW r y (r (.code x fr s))
 | .cond q x y=>aIC r x y fr s (AJ G fr q)
 | .block id c=>anO id (r (.code c fr s))
 | .loop c=>aoN (r (.loop c fr s))
 | .region _ ops d=>ahF P G r ops fr s d
 | _=>none
def aJI(r:Rec)(c:Code):Option Rs->Option Rs
 | some (.code e fr s)=>(match e with
   | .normal=>r (.loop c fr s)
   | e=>some (.code e fr s))
 | _=>none
def bgD(r:Rec)(ops:Array Oper)(dst:Option Tmp)(l:List Oper)(fr:List AV):Option Rs->Option Rs
 | some (.call c s)=>(match c with
   | .ret v=>r (.ops ops l (IW fr dst v) s)
   | .pan v=>some (.code (.pan v) fr s))
 | _=>none
def aEQ(r:Rec)(ops:Array Oper)(fr:List AV)(s:AS):List Oper->Option Rs
 | []=>some (.code .normal fr s)
 | o::l=>bgD r ops o.dst l fr (r (.op ops o fr s))
def trK(fr:List AV)(s:AS)(v:AV):Option Rs->Option Rs
 | some (.tr t Yi s2)=>some (.tr ((fr,s,v)::t) Yi s2)
 | _=>none
def aTN(r:Rec)(ops:Array Oper)(dst:Option Tmp)(l:List Oper)(fr:List AV)(s:AS)(q:Nat):Option Rs->Option Rs
 | some (.call (.ret v) s1)=>trK fr s v (r (.draw ops l (IW fr dst v) s1 q))
 | _=>none
def aMB(r:Rec)(ops:Array Oper)(o:Oper)(l:List Oper)(fr:List AV)(s:AS)(q:Nat)(v:AV):Option Rs:=trK fr s v (r (.draw ops l (IW fr o.dst v) s (q+1)))
def aTM(r:Rec)(ops:Array Oper)(o:Oper)(l:List Oper)(fr:List AV)(s:AS)(q:Nat):Bool->Option Rs
 | true=>aMB r ops o l fr s q (QQ ops fr o q)
 | false=>aTN r ops o.dst l fr s q (r (.op ops o fr s))
def yO(r:Rec)(ops:Array Oper)(fr:List AV)(s:AS)(q:Nat):List Oper->Option Rs
 | []=>some (.tr [] fr s)
 | o::l=>aTM r ops o l fr s q (BM o.op)
def aVJ:Option Rs->Option Rs
 | some (.call c s)=>some (.call c s)
 | _=>none
def opK(r:Rec)(s:AS):Option AR->Option Rs
 | some (.val v s1)=>some (.call (.ret v) s1)
 | some (.pan v)=>some (.call (.pan v) s)
 | some (.ent f args)=>aVJ (r (.call f args s))
 | none=>none
def aqI(ops:Array Oper)(fr:List AV):Option (Nat×Bool)->Bool
 | none=>true
 | some p=>(match (ops[p.1]?).bind (·.dst) with
   | some d=>(match nth fr d with
     | .sc (.bool b)=>b == p.2
     | _=>false)
   | none=>false)
def aTE(P:Program)(G:AK)(r:Rec)(fr:List AV)(s:AS)(o:Oper):Bool->Option Rs
 | true=>opK r s (W7 P G fr s o)
 | false=>some (.call (.ret (.sc undef)) s)
def aXI(k:CR->Option CR):Option Rs->Option Rs
 | some (.call c s)=>(match k c with
   | some c1=>some (.call c1 s)
   | none=>none)
 | _=>none
def aZJ(s:AS)(n:Nat):Option AV->Option Rs
 | some v=>some (.call (.ret v) (fin v s n))
 | none=>none
def aVG(P:Program)(fn:Func)(n:Nat):Option Rs->Option Rs
 | some (.code e fr s)=>(match e with
   | .normal=>aZJ s n (F8 P s fn fr)
   | .ret=>aZJ s n (F8 P s fn fr)
   | .pan v=>some (.call (.pan v) (s.cut n))
   | .exit _=>none)
 | _=>none
def aVF(P:Program)(r:Rec)(fn:Func)(args:List AV)(s:AS):Option Code->Option Rs
 | some c=>aVG P fn s.nx (r (.code c (args++bkT (fn.ntmps - args.length) (.sc undef)) s))
 | none=>none
def vK(P:Program)(r:Rec)(args:List AV)(s:AS):Option Func->Option Rs
 | some fn=>aVF P r fn args s fn.body
 | none=>none
def aXH(P:Program)(r:Rec)(f:FuncId)(args:List AV)(s:AS):Option (FuncId×List AV×(CR->Option CR))->Option Rs
 | some (g,eG,k)=>aXI k (r (.call g eG s))
 | none=>vK P r args s P.funcs[f]?
def aVY(P:Program)(H:UY)(r:Rec)(f:FuncId)(args:List AV)(s:AS):Option (CR×AS)->Option Rs
 | some (c,s1)=>some (.call c s1)
 | none=>aXH P r f args s (H f args)
def step(P:Program)(G:AK)(X:aHO)(H:UY)(r:Rec):Tk->Option Rs
 | .code c fr s=>awJ P G r fr s c
 | .loop c fr s=>aJI r c (r (.code c fr s))
 | .ops ops l fr s=>aEQ r ops fr s l
 | .draw ops l fr s q=>yO r ops fr s q l
 | .op ops o fr s=>aTE P G r fr s o (aqI ops fr o.guard)
 | .call f args s=>aVY P H r f args s (X f args s)
end AI
namespace AI
open Go Go.RowKit
def bgB(l:List AV):Nat->AV:=bsU (motive:=λ_=>Nat->AV) (λ_=>.sc undef) (λa _ ih n=>Nat.rec (motive:=λ_=>AV) a (λk _=>ih k) n) l
def bgN(v:AV)(l:List AV):Nat->List AV:=bsU (motive:=λ_=>Nat->List AV) (λ_=>[]) (λa t ih n=>Nat.rec (motive:=λ_=>List AV) (v::t) (λk _=>a::ih k) n) l
def aVA(fr:List AV)(dst:Option Tmp)(v:AV):List AV:=bsA (motive:=λ_=>List AV) fr (λd=>bgN v fr d) dst
abbrev Sm:=Program->AK->List AV->AS->Oper->Option AR
def aNH(t:Tmp)(_:AK)(fr:List AV):Option AV:=some (bgB fr t)
def azT(v:Value)(_:AK)(_:List AV):Option AV:=ZJ v
def aNG(g:Nat)(G:AK)(_:List AV):Option AV:=evG (G g)
def bbP(f:FuncId)(_:AK)(_:List AV):Option AV:=some (.fn (.func f) [] [])
def evR(x:Operand):AK->List AV->Option AV:=Operand.rec (motive:=λ_=>AK->List AV->Option AV) aNH azT aNG bbP x
def rQ{α β:Type}(o:Option α)(f:α->Option β):Option β:=bsA (motive:=λ_=>Option β) none f o
def aYR(s:AS)(v:AV):Option AR:=some (.val v s)
def amK(s:AS)(o:Option AV):Option AR:=rQ o (aYR s)
def ahP(x:Operand):Sm:=λ_ G fr s _=>amK s (evR x G fr)
def aEJ(c a b:Operand):Sm:=λ_ G fr s _=>Nw s (aJQ (AJ G fr a) (AJ G fr b) (AJ G fr c))
def avP(e:TypeId):Sm:=λP _ _ s _=>atO s (M1 P e)
def aSU(_:TypeId)(x:Operand):Sm:=λ_ G fr s _=>agN s (AJ G fr x)
def avQ(t:TypeId)(ps:Array (Nat×Operand)):Sm:=λP G fr s _=>Nw s (tE (ME G fr ps.toList) (cT P t))
def lM(t:TypeId)(n:Nat)(ps:Array (Nat×Operand)):Sm:=λP G fr s _=>Nw s (tE (ME G fr ps.toList) (MZ P t n))
def aEH(t:TypeId)(a:Operand):Sm:=λP G fr s _=>amK s (rQ (evR a G fr) (JL P s t))
def avY(t:TypeId)(a x:Operand):Sm:=λP G fr s _=>zE (two (AJ G fr a) (AJ G fr x) (Lb P s t))
def aSW(x:Operand):Sm:=λ_ G fr s _=>aaQ s (AJ G fr x)
def aST(op:BinOp)(t:TypeId)(x y:Operand)(_:TypeId):Sm:=λP G fr s _=>amK s (rQ (evR x G fr) (λa=>rQ (evR y G fr) (λb=>cQ P op t x y a b)))
def aZU(op:UnOp)(_:TypeId)(x:Operand):Sm:=λP G fr s _=>aJU P s (Op.unary op) (tE (AJ G fr x) iU)
def aEF(src dst:TypeId)(x:Operand):Sm:=λP G fr s _=>Nw s (tE (AJ G fr x) (Ty P src dst))
def avT(t:TypeId)(x:Operand):Sm:=λP G fr s _=>abU t s (AJ G fr x) (P.underlying t)
def aEG(f:Fn)(first caps:Array Operand):Sm:=λ_ G fr s _=>func1 f s (kJ G fr caps.toList) (kJ G fr first.toList)
def aSV(_:TypeId)(r:Option Operand):Sm:=λ_ _ _ s _=>wO s r
def aEI(t:TypeId)(l c:Operand):Sm:=λP G fr s _=>amJ (two (AJ G fr l) (AJ G fr c) (JM P s t))
def avX(t:TypeId)(x:Operand)(lo hi mx:Option Operand):Sm:=λP G fr s _=>awB P s t (tG G fr lo) (tG G fr hi) (tG G fr mx) (AJ G fr x)
def alP(t:TypeId)(x:Operand)(k:Nat):Sm:=λP G fr s _=>amK s (rQ (evR x G fr) λa=>TA P t a k)
def avS(t:TypeId)(x:Operand)(k:Nat):Sm:=λP G fr s _=>Nw s (tE (AJ G fr x) λa=>cW P t a k)
def alQ(t:TypeId)(x i:Operand):Sm:=λP G fr s _=>amK s (rQ (evR x G fr) (λa=>rQ (evR i G fr) (λb=>CO P t a b)))
def avU(t:TypeId)(x i:Operand):Sm:=λP G fr s _=>amK s (rQ (evR x G fr) (λa=>rQ (evR i G fr) (λb=>bA P t a b)))
def alR(t:TypeId)(x k:Operand)(ok:Bool):Sm:=λP G fr s _=>Nw s (two (AJ G fr x) (AJ G fr k) λa b=>JA P s t a b ok)
def avW(t:TypeId)(m k x:Operand):Sm:=λP G fr s _=>zE (three (AJ G fr m) (AJ G fr k) (AJ G fr x) (KV P s t))
def avR(t:TypeId)(m k:Operand):Sm:=λP G fr s _=>amJ (two (AJ G fr m) (AJ G fr k) (Ro P s t))
def alO(_:TypeId)(m st x:Operand):Sm:=λ_ G fr s _=>zE (three (AJ G fr m) (AJ G fr st) (AJ G fr x) (M0 s))
def adI(x:Operand)(k:Nat):Sm:=λ_ G fr s _=>Nw s (tE (AJ G fr x) λa=>Tz a k)
def aEE(cl:Call):Sm:=λP G fr s o=>oV P G fr s o cl
def avV(x:Operand):Sm:=λ_ G fr _ _=>aZB (AJ G fr x)
def aZT:Sm:=λ_ _ _ _ _=>none
def aYY(op:Op):Sm:=match op with
 | .move x=>ahP x
 | .assign x=>ahP x
 | .pick c a b=>aEJ c a b
 | .alloc e=>avP e
 | .box e x=>aSU e x
 | .build t ps=>avQ t ps
 | .buildSlice t n ps=>lM t n ps
 | .load t a=>aEH t a
 | .store t a x=>avY t a x
 | .nilCheck x=>aSW x
 | .binOp op t x y z=>aST op t x y z
 | .unOp op t x=>aZU op t x
 | .convert a b x=>aEF a b x
 | .makeInterface t x=>avT t x
 | .makeFunc f a b=>aEG f a b
 | .makeMap t r=>aSV t r
 | .makeSlice t l c=>aEI t l c
 | .slice t x lo hi mx=>avX t x lo hi mx
 | .fieldAddr t x k=>alP t x k
 | .field t x k=>avS t x k
 | .indexAddr t x i=>alQ t x i
 | .index t x i=>avU t x i
 | .lookup t x k ok=>alR t x k ok
 | .mapUpdate t m k x=>avW t m k x
 | .insert t m k x=>avW t m k x
 | .mapEntry t m k=>avR t m k
 | .entryStore t m st x=>alO t m st x
 | .extract x k=>adI x k
 | .call cl=>aEE cl
 | .panic x=>avV x
 | _=>aZT
def aqJ(ops:Array Oper)(fr:List AV)(g:Option (Nat×Bool)):Bool:=bsA (motive:=λ_=>Bool) true (λp=>aqI ops fr (some p)) g
def aZA(r:Rec)(ops:Array Oper)(dst:Option Tmp)(l:List Oper)(fr:List AV):Option Rs->Option Rs
 | some (.call c s)=>(match c with
   | .ret v=>r (.ops ops l (aVA fr dst v) s)
   | .pan v=>some (.code (.pan v) fr s))
 | _=>none
def ahT(P:Program)(G:AK)(r:Rec)(fr:List AV)(s:AS)(o:Oper)(b:Bool):Option Rs:=Bool.rec (motive:=λ_=>Option Rs) (some (.call (.ret (.sc undef)) s)) (opK r s (aYY o.op P G fr s o)) b
def awK(P:Program)(G:AK)(r:Rec)(ops:Array Oper)(fr:List AV)(s:AS)(l:List Oper):Option Rs:=bsU (motive:=λ_=>Option Rs) (some (.code .normal fr s)) (λo l _=>aZA r ops o.dst l fr (ahT P G r fr s o (aqJ ops fr o.guard))) l
abbrev Ss:=Program->AK->Rec->List AV->AS->Option Rs
def aTC:Ss:=λ_ _ _ fr s=>some (.code .normal fr s)
def aTA(id:Nat):Ss:=λ_ _ _ fr s=>some (.code (.exit id) fr s)
def aZX:Ss:=λ_ _ _ fr s=>some (.code .ret fr s)
def aZY(x y:Code):Ss:=λ_ _ r fr s=>aZW r y (r (.code x fr s))
def aSZ(q:Operand)(x y:Code):Ss:=λ_ G r fr s=>aIC r x y fr s (AJ G fr q)
def aEN(id:Nat)(c:Code):Ss:=λ_ _ r fr s=>anO id (r (.code c fr s))
def aTB(c:Code):Ss:=λ_ _ r fr s=>aoN (r (.loop c fr s))
def awF(_:Nat)(ops:Array Oper)(d:Bool):Ss:=λP G r fr s=>ahF P G r ops fr s d
def bgO:Ss:=λ_ _ _ _ _=>none
def azM(c:Code):Ss:=match c with
 | .skip=>aTC
 | .exit id=>aTA id
 | .ret=>aZX
 | .seq x y=>aZY x y
 | .cond q x y=>aSZ q x y
 | .block id c=>aEN id c
 | .loop c=>aTB c
 | .region id ops d=>awF id ops d
 | _=>bgO
def S9(P:Program)(G:AK)(X:aHO)(H:UY)(r:Rec):Tk->Option Rs
 | .code c fr s=>azM c P G r fr s
 | .loop c fr s=>aJI r c (r (.code c fr s))
 | .ops ops l fr s=>awK P G r ops fr s l
 | .draw ops l fr s q=>yO r ops fr s q l
 | .op ops o fr s=>ahT P G r fr s o (aqJ ops fr o.guard)
 | .call f args s=>aVY P H r f args s (X f args s)
end AI
namespace AI
open Go Go.RowKit
mutual
def plain:AV->Bool
 | .sc _=>true
 | .agg cs=>Bz cs
 | .E9 cs=>Bz cs
 | .sl o _ cs=>(match o with | .row _ _=>false | _=>true)&&Bz cs
 | .ifc _ v=>plain v
 | .el cs=>Bz cs
 | .fn _ a b=>Bz a&&Bz b
 | .any=>true
 | _=>false
def Bz:List AV->Bool
 | []=>true
 | a::l=>plain a&&Bz l
end
mutual
def V9:AV->AV
 | .agg cs=>.agg (fS cs)
 | .E9 cs=>.E9 (fS cs)
 | .sl o n cs=>.sl (match o with | .row _ _=>.lost | o=>o) n (fS cs)
 | .ifc t v=>.ifc t (V9 v)
 | .el cs=>.el (fS cs)
 | a=>a
def fS:List AV->List AV
 | []=>[]
 | a::l=>V9 a::fS l
end
mutual
def pI:AV->Bool
 | .sc _=>true
 | .agg cs=>LJ cs
 | .E9 cs=>LJ cs
 | .sl _ _ cs=>LJ cs
 | .ifc _ v=>pI v
 | .el cs=>LJ cs
 | .any=>true
 | _=>false
def LJ:List AV->Bool
 | []=>true
 | a::l=>pI a&&LJ l
end
section
variable {c c':Cx} {w w':World}
mutual
def Rp.plain(hv:∀g i v,MD c w g i v->MD c' w' g i v):∀{a:AV} {v:Value},AI.plain a=true->Rp c w a v->Rp c' w' a v:=by
 intro a v hp h;cases h with
 | sc h1=>exact .sc h1
 | agg h1=>exact .agg (Cv.plain hv hp h1)
 | E9 h1=>exact .E9 (Cv.plain hv hp h1)
 | @sl0 own A cap h1 =>
   simp only[AI.plain,bcA] at hp;cases own with
   | full=>exact .sl0 h1
   | nil=>exact .sl0 h1
   | nn=>exact .sl0 h1
   | lost=>exact .sl0 h1
   | row r sz=>cases hp.1
 | @K6 own n cap g o cs hn h1 ho =>
   simp only[AI.plain,bcA] at hp;refine .K6 hn (A1.plain hv hp.2 h1) ?_;cases own with
   | full=>exact ho
   | nil=>exact ho
   | nn=>exact ho
   | lost=>trivial
   | row r sz=>cases hp.1
 | msl hn h1=>cases hp
 | el h1=>exact .el (A1.plain hv hp h1)
 | ptr h1=>cases hp
 | fn h1 h2 =>
   simp only[AI.plain,bcA] at hp;exact .fn (Cv.plain hv hp.1 h1) (Cv.plain hv hp.2 h2)
 | ifc h1=>exact .ifc (Rp.plain hv hp h1)
 | mp h1=>cases hp
 | any h1=>exact .any h1
 | raw=>first | (cases hp;done) | exact .raw
def Cv.plain(hv:∀g i v,MD c w g i v->MD c' w' g i v):∀{a:List AV} {v:List Value},AI.Bz a=true->Cv c w a v->Cv c' w' a v:=by
 intro a v hp h;cases h with
 | nil=>exact .nil
 | cons h1 t =>
   simp only[AI.Bz,bcA] at hp;exact .cons (Rp.plain hv hp.1 h1) (Cv.plain hv hp.2 t)
def A1.plain(hv:∀g i v,MD c w g i v->MD c' w' g i v):∀{a:List AV} {g o:Nat},AI.Bz a=true->A1 c w g o a->A1 c' w' g o a:=by
 intro a g o hp h;cases h with
 | nil=>exact .nil
 | cons wE h1 t =>
   simp only[AI.Bz,bcA] at hp;exact .cons (hv _ _ _ wE) (Rp.plain hv hp.1 h1) (A1.plain hv hp.2 t)
end
mutual
def Rp.V9(hv:∀g i v,MD c w g i v->MD c' w' g i v):∀{a:AV} {v:Value},pI a=true->Rp c w a v->Rp c' w' (AI.V9 a) v:=by
 intro a v hp h;cases h with
 | sc h1=>exact .sc h1
 | agg h1=>exact .agg (Cv.V9 hv hp h1)
 | E9 h1=>exact .E9 (Cv.V9 hv hp h1)
 | @sl0 own A cap h1 =>
   cases own with
   | full=>exact .sl0 h1
   | nil=>exact .sl0 h1
   | nn=>exact .sl0 h1
   | lost=>exact .sl0 h1
   | row r sz=>exact .sl0 trivial
 | @K6 own n cap g o cs hn h1 ho =>
   have h2:=A1.V9 hv hp h1;refine .K6 hn h2 ?_;cases own with
   | full=>exact ho
   | nil=>exact ho
   | nn=>exact ho
   | lost=>trivial
   | row r sz=>trivial
 | msl hn h1=>cases hp
 | el h1=>exact .el (A1.V9 hv hp h1)
 | ptr h1=>cases hp
 | fn h1 h2=>cases hp
 | ifc h1=>exact .ifc (Rp.V9 hv hp h1)
 | mp h1=>cases hp
 | any h1=>exact .any h1
 | raw=>first | (cases hp;done) | exact .raw
def Cv.V9(hv:∀g i v,MD c w g i v->MD c' w' g i v):∀{a:List AV} {v:List Value},LJ a=true->Cv c w a v->Cv c' w' (AI.fS a) v:=by
 intro a v hp h;cases h with
 | nil=>exact .nil
 | cons h1 t =>
   simp only[AI.LJ,bcA] at hp;exact .cons (Rp.V9 hv hp.1 h1) (Cv.V9 hv hp.2 t)
def A1.V9(hv:∀g i v,MD c w g i v->MD c' w' g i v):∀{a:List AV} {g o:Nat},LJ a=true->A1 c w g o a->A1 c' w' g o (AI.fS a):=by
 intro a g o hp h;cases h with
 | nil=>exact .nil
 | cons wE h1 t =>
   simp only[AI.LJ,bcA] at hp;exact .cons (hv _ _ _ wE) (Rp.V9 hv hp.1 h1) (A1.V9 hv hp.2 t)
end
end
def s0:AS:=⟨[],0,[],0⟩
end AI
namespace AI
open Go Go.RowKit
mutual
def under(n m:Nat):AV->Bool
 | .sc _=>true
 | .agg cs=>Ey n m cs
 | .E9 cs=>Ey n m cs
 | .sl o _ cs=>(match o with | .row r _=>decide (r < m) | _=>true)&&Ey n m cs
 | .msl id _ _=>decide (id < n)
 | .el cs=>Ey n m cs
 | .ptr id _=>decide (id < n)
 | .fn _ a b=>Ey n m a&&Ey n m b
 | .ifc _ v=>under n m v
 | .mp id=>decide (id < n)
 | .any=>true
 | .raw _ _ _=>true
def Ey(n m:Nat):List AV->Bool
 | []=>true
 | a::l=>under n m a&&Ey n m l
end
mutual
def Uv(n m:Nat):∀{a:AV},plain a=true->under n m a=true
 | .sc _,_=>rfl
 | .agg cs,h=>by simp only[plain] at h;simp only[under];exact Eo n m h
 | .E9 cs,h=>by simp only[plain] at h;simp only[under];exact Eo n m h
 | .sl o k cs,h=>by
   simp only[plain,bcA] at h;simp only[under,bcA];refine⟨?_,Eo n m h.2⟩;cases o with
   | row r sz=>cases h.1
   | _=>rfl
 | .msl _ _ _,h=>by cases h
 | .el cs,h=>by simp only[plain] at h;simp only[under];exact Eo n m h
 | .ptr _ _,h=>by cases h
 | .fn _ a b,h=>by
   simp only[plain,bcA] at h;simp only[under,bcA];exact⟨Eo n m h.1,Eo n m h.2⟩
 | .ifc _ v,h=>by simp only[plain] at h;simp only[under];exact Uv n m h
 | .mp _,h=>by cases h
 | .any,_=>rfl
 | .raw _ _ _,_=>rfl
def Eo(n m:Nat):∀{l:List AV},Bz l=true->Ey n m l=true
 | [],_=>rfl
 | a::l,h=>by
   simp only[Bz,bcA] at h;simp only[Ey,bcA];exact⟨Uv n m h.1,Eo n m h.2⟩
end
def Cx.upto(c:Cx)(n m:Nat):Cx:=⟨c.base,c.CJ.take n,c.rows.take m,c.bad⟩
def Eh{α:Type}{l:List α}{n i:Nat}{x:α}(h:(l.take n)[i]?=some x):l[i]?=some x/\i < n:=by
 rw[blN] at h;split at h;rename_i hi;exact⟨h,hi⟩;cases h
def SL{α:Type}{l:List α}{n i:Nat}{x:α}(h:l[i]?=some x)(hi:i < n):(l.take n)[i]?=some x:=by
 rw[blN,if_pos hi];exact h
section
variable {c:Cx} {w:World} {n m:Nat}
def avZ{g i:Nat}(h:(c.upto n m).lN g i):c.lN g i:=by
 rcases h with h | ⟨r,n,cap,sz,hr,h⟩ | h
 exact .inl (bkL h);exact .inr (.inl ⟨r,n,cap,sz,(Eh hr).1,h⟩);exact .inr (.inr h)
def Ye{g i:Nat}{v:Value}(h:MD c w g i v):MD (c.upto n m) w g i v:=⟨h.1,λhs=>h.2.1 (avZ hs),h.2.2⟩
mutual
def Rp.upto:∀{a:AV} {v:Value},under n m a=true->Rp c w a v->Rp (c.upto n m) w a v:=by
 intro a v hp h;cases h with
 | sc h1=>exact .sc h1
 | agg h1=>exact .agg (Cv.upto hp h1)
 | E9 h1=>exact .E9 (Cv.upto hp h1)
 | @sl0 own A cap h1 =>
   simp only[AI.under,bcA] at hp;cases own with
   | full=>exact .sl0 h1
   | nil=>exact .sl0 h1
   | nn=>exact .sl0 h1
   | lost=>exact .sl0 trivial
   | row r sz =>
     have hr:r < m:=of_decide_eq_true hp.1;refine .sl0 ⟨h1.1,?_⟩;have:=h1.2;simp only[Cx.upto,bjG];omega
 | @K6 own k cap g o cs hn h1 ho =>
   simp only[AI.under,bcA] at hp;refine .K6 hn (A1.upto hp.2 h1) ?_;cases own with
   | full=>exact ho
   | nil=>exact ho
   | nn=>exact ho
   | lost=>trivial
   | row r sz =>
     have hr:r < m:=of_decide_eq_true hp.1;refine⟨ho.1,ho.2.1,?_,λe=>ho.2.2.2.1 (Eh e).1,λg' n' c' s' e=>ho.2.2.2.2 g' n' c' s' (Eh e).1⟩;have:=ho.2.2.1;simp only[Cx.upto,bjG];omega
 | msl hn h1=>exact .msl hn (SL h1 (of_decide_eq_true hp))
 | el h1=>exact .el (A1.upto hp h1)
 | ptr h1=>exact .ptr (SL h1 (of_decide_eq_true hp))
 | fn h1 h2 =>
   simp only[AI.under,bcA] at hp;exact .fn (Cv.upto hp.1 h1) (Cv.upto hp.2 h2)
 | ifc h1=>exact .ifc (Rp.upto hp h1)
 | mp h1=>exact .mp (SL h1 (of_decide_eq_true hp))
 | any h1=>exact .any h1
 | raw=>exact .raw
def Cv.upto:∀{a:List AV} {v:List Value},Ey n m a=true->Cv c w a v->Cv (c.upto n m) w a v:=by
 intro a v hp h;cases h with
 | nil=>exact .nil
 | cons h1 t =>
   simp only[AI.Ey,bcA] at hp;exact .cons (Rp.upto hp.1 h1) (Cv.upto hp.2 t)
def A1.upto:∀{a:List AV} {g o:Nat},Ey n m a=true->A1 c w g o a->A1 (c.upto n m) w g o a:=by
 intro a g o hp h;cases h with
 | nil=>exact .nil
 | cons wE h1 t =>
   simp only[AI.Ey,bcA] at hp;exact .cons (Ye wE) (Rp.upto hp.1 h1) (A1.upto hp.2 t)
end
end
def Xd:AV->Bool
 | .sc v=>bB v
 | _=>true
def VX{c:Cx}{w:World}{a:AV}{v:Value}(h:Rp c w a v)(hd:Xd a=true):bB v=true:=by
 cases h<;>first | rfl | exact hd | assumption | (cases hd;done)
def adT:AV->AV
 | .sl _ n cs=>.sl .lost n cs
 | a=>a
inductive Fg(n m:Nat):List AV->List AV->Prop where
 | nil:Fg n m [] []
 | GY {a:AV} {l k:List AV} (h:under n m a=true) (t:Fg n m l k):Fg n m (a::l) (a::k)
 | drop {a:AV} {l k:List AV} (h:Xd a=true) (t:Fg n m l k):Fg n m (a::l) (.any::k)
 | lost {o:Own} {j:Nat} {cs l k:List AV} (h:Ey n m cs=true) (t:Fg n m l k):Fg n m (.sl o j cs::l) (.sl .lost j cs::k)
def Fg.ok{n m:Nat}{l k:List AV}(h:Fg n m l k){c:Cx}{w:World}{vs:List Value}(hr:Cv c w l vs):Cv (c.upto n m) w k vs:=by
 induction h generalizing vs with
 | nil=>cases hr;exact .nil
 | GY h _ ih=>cases hr with | cons h1 t=>exact .cons (h1.upto h) (ih t)
 | drop h _ ih=>cases hr with | cons h1 t=>exact .cons (.any (VX h1 h)) (ih t)
 | @lost o j cs l k h _ ih =>
   cases hr with
   | cons h1 t =>
     refine .cons ?_ (ih t);cases h1 with
     | sl0 _=>exact .sl0 trivial
     | K6 hn hc ho=>exact .K6 hn (hc.upto h) trivial
def cH(n m:Nat):List (Value×AV×Nat)->Bool
 | []=>true
 | e::l=>under n m e.2.1&&cH n m l
def axT(n m:Nat):Ao->Bool
 | .cells cs=>Ey n m cs
 | .map es _=>cH n m es
def K8.upto{c:Cx}{w:World}{n m:Nat}:∀{es:List (Value×AV×Nat)} {fs:List MapEntry},cH n m es=true->K8 c w es fs->K8 (c.upto n m) w es fs:=by
 intro es
 induction es with
 | nil=>intro fs _ h;cases h;exact .nil
 | cons e es ih =>
   intro fs hu h;obtain⟨x,a,b⟩:=e;simp only[cH,bcA] at hu;cases h with | cons h1 t=>exact .cons (h1.upto hu.1) (ih hu.2 t)
def EA.upto{c:Cx}{w:World}{n m:Nat}{b:Ao}{o:Obj}(hb:axT n m b=true)(h:EA c w b o):EA (c.upto n m) w b o:=by
 cases h with
 | GA ext h1=>exact .GA ext (h1.upto hb)
 | map h1=>exact .map (h1.upto hb)
def Fits(n m:Nat)(a b:AV):Prop:=∀(c:Cx) (w:World) (v:Value),Rp c w a v->Rp (c.upto n m) w b v
def KF(n m:Nat)(a b:List AV):Prop:=∀(c:Cx) (w:World) (v:List Value),Cv c w a v->Cv (c.upto n m) w b v
def Vt(n m:Nat)(a b:List AV):Prop:=∀(c:Cx) (w:World) (g o:Nat),A1 c w g o a->A1 (c.upto n m) w g o b
def Tw(n m:Nat)(a b:Ao):Prop:=∀(c:Cx) (w:World) (o:Obj),EA c w a o->EA (c.upto n m) w b o
def Fits.under{n m:Nat}{a:AV}(h:AI.under n m a=true):Fits n m a a:=λ_ _ _ hr=>hr.upto h
def KF.under{n m:Nat}{a:List AV}(h:AI.Ey n m a=true):KF n m a a:=λ_ _ _ hr=>hr.upto h
def Vt.under{n m:Nat}{a:List AV}(h:AI.Ey n m a=true):Vt n m a a:=λ_ _ _ _ hr=>hr.upto h
def Tw.under{n m:Nat}{b:Ao}(h:axT n m b=true):Tw n m b b:=λ_ _ _ hr=>hr.upto h
def Fits.plain{n m:Nat}{a:AV}(h:AI.plain a=true):Fits n m a a:=.under (Uv n m h)
def KF.plain{n m:Nat}{a:List AV}(h:Bz a=true):KF n m a a:=.under (Eo n m h)
def Vt.plain{n m:Nat}{a:List AV}(h:Bz a=true):Vt n m a a:=.under (Eo n m h)
def Fits.sc{n m:Nat}{v:Value}:Fits n m (.sc v) (.sc v):=.under rfl
def Fits.drop{n m:Nat}{a:AV}(h:Xd a=true):Fits n m a .any:=λ_ _ _ hr=>.any (VX hr h)
def Fits.agg{n m:Nat}{a b:List AV}(h:KF n m a b):Fits n m (.agg a) (.agg b):=λ_ _ _ hr=>by cases hr with | agg h1=>exact .agg (h _ _ _ h1)
def Fits.E9{n m:Nat}{a b:List AV}(h:KF n m a b):Fits n m (.E9 a) (.E9 b):=λ_ _ _ hr=>by cases hr with | E9 h1=>exact .E9 (h _ _ _ h1)
def Fits.lost{n m:Nat}{o:Own}{k:Nat}{a b:List AV}(h:Vt n m a b)(e:a=[]->b=[]):Fits n m (.sl o k a) (.sl .lost k b):=λ_ _ _ hr=>by
 cases hr with
 | sl0 _=>rw[e rfl];exact .sl0 trivial
 | K6 hn hc ho=>exact .K6 hn (h _ _ _ _ hc) trivial
def KF.nil{n m:Nat}:KF n m [] []:=λ_ _ _ hr=>by cases hr;exact .nil
def KF.cons{n m:Nat}{a b:AV}{l k:List AV}(h:Fits n m a b)(t:KF n m l k):KF n m (a::l) (b::k):=λ_ _ _ hr=>by cases hr with | cons h1 t1=>exact .cons (h _ _ _ h1) (t _ _ _ t1)
def Vt.nil{n m:Nat}:Vt n m [] []:=λ_ _ _ _ hr=>by cases hr;exact .nil
def Vt.cons{n m:Nat}{a b:AV}{l k:List AV}(h:Fits n m a b)(t:Vt n m l k):Vt n m (a::l) (b::k):=λ_ _ _ _ hr=>by cases hr with | cons hv h1 t1=>exact .cons (Ye hv) (h _ _ _ h1) (t _ _ _ _ t1)
def Tw.cells{n m:Nat}{a b:List AV}(h:KF n m a b):Tw n m (.cells a) (.cells b):=λ_ _ _ hr=>by cases hr with | GA ext h1=>exact .GA ext (h _ _ _ h1)
def aAB{G:AK}(hG:∀g cs,G g=some cs->Bz cs=true){s s' s2:AS}{fr' fr2:List AV}(hn:s2.nx=s.nx)(hr:s2.nr=s.nr)
   (hd:Kx s2.h s2.nx) (aOF:∀id b,look id s2.h=some b->∃b',look id s'.h=some b'/\Tw s.nx s.nr b' b) (hF:∀r n,DY r s2.F=some n->DY r s'.F=some n/\r < s.nr)
   (hf:KF s.nx s.nr fr' fr2) (cx:Cx) (w:World) (c':Cx) (w':World) (vs:List Value) (hx:Ext cx w c' w') (hs:St G cx w s) (hs':St G c' w' s') (hfr:Cv c' w' fr' vs) :
   ∃c2,Ext cx w c2 w'/\St G c2 w' s2/\Cv c2 w' fr2 vs:=by
 have Tl:c'.CJ.take s.nx=cx.CJ:=by
   obtain⟨t,ht⟩:=hx.CJ;rw[<- ht,hs.len,List.take_left]
 have hrl:(c'.rows.take s.nr).length=cx.rows.length:=by
   have:=hx.I8;rw[bjG,hs.I8];omega
 refine⟨c'.upto s.nx s.nr,⟨?_,?_,λr x bK h=>?_,λg i v hv=>Ye (hx.lR g i v hv),hx.below,hx.base,hx.bad,λg hg=>hx.gI g (bkL hg),λr g n cap sz h=>hx.iA r g n cap sz (Eh h).1,hx.GY⟩,?_,hf _ _ _ hfr⟩;show cx.CJ <+: c'.CJ.take s.nx;rw[Tl];exact List.prefix_refl _;show cx.rows.length<=(c'.rows.take s.nr).length;omega;exact hx.rows r x bK (Eh h).1;refine⟨?_,hd,λi j g h1 h2=>hs'.nodup i j g (Eh h1).1 (Eh h2).1,λg hg=>hs'.low g (bkL hg),λid g b h1 h2=>?_,?_,λr g n cap sz h=>?_,λr n h=>?_,λg hg=>hs'.Np g (bkL hg),hs'.ND,λr r' g n cap sz n' cap' OL h h'=>hs'.IU r r' g n cap sz n' cap' OL (Eh h).1 (Eh h').1,λg cs hg=>(hs'.Mr g cs hg).upto (Eo _ _ (hG g cs hg)),hs'.R2,hs'.Ol.sub (λg hm=>bkL hm) λr g n cap sz e=>⟨r,n,cap,sz,(Eh e).1⟩⟩;show s2.nx=(c'.CJ.take s.nx).length;rw[Tl,hn,hs.len];obtain⟨b',h3,h4⟩:=aOF id b h2;obtain⟨o,ho,hb⟩:=hs'.box id g b' (Eh h1).1 h3;exact⟨o,ho,h4 _ _ _ hb⟩;show s2.nr=(c'.rows.take s.nr).length;rw[hrl,hr,hs.I8];obtain⟨a1,a2,a3,a4⟩:=hs'.row r g n cap sz (Eh h).1;exact⟨a1,a2,λhm=>a3 (bkL hm),a4⟩;obtain⟨h1,h2⟩:=hF r n h;rcases hs'.Jl r n h1 with ⟨h3,h4⟩ | ⟨g,cap,sz,h3⟩
 exact .inl ⟨SL h3 h2,h4⟩;exact .inr ⟨g,cap,sz,SL h3 h2⟩
end AI
namespace AI
open Go Go.RowKit
section
variable {P:Program} {G:AK} {X:Yl} {H:UY}
def W(P:Program)(G:AK)(X:Yl)(H:UY)(c:Code)(fr:List AV)(s:AS)(Q:AX->List AV->AS->Prop):Prop:=∃e fr' s',J P G X H (.code c fr s e fr' s')/\Q e fr' s'
def WL(P:Program)(G:AK)(X:Yl)(H:UY)(c:Code)(fr:List AV)(s:AS)(Q:AX->List AV->AS->Prop):Prop:=∃e fr' s',J P G X H (.loop c fr s e fr' s')/\Q e fr' s'
def WC(P:Program)(G:AK)(X:Yl)(H:UY)(f:FuncId)(args:List AV)(s:AS)(Q:CR->AS->Prop):Prop:=∃r s',J P G X H (.call f args s r s')/\Q r s'
def aKH(P:Program)(G:AK)(X:Yl)(H:UY)(y:Code)(Q:AX->List AV->AS->Prop):AX->List AV->AS->Prop
 | .normal,fr,s=>W P G X H y fr s Q
 | e,fr,s=>Q e fr s
def Eu(id:Nat)(Q:AX->List AV->AS->Prop):AX->List AV->AS->Prop:=λe fr s=>Q (F3 id e) fr s
def aJJ(P:Program)(G:AK)(X:Yl)(H:UY)(c:Code)(Q:AX->List AV->AS->Prop):AX->List AV->AS->Prop
 | .normal,fr,s=>WL P G X H c fr s Q
 | e,fr,s=>Q e fr s
def S0(P:Program)(fn:Func)(n:Nat)(Q:CR->AS->Prop):AX->List AV->AS->Prop
 | .normal,fr,s=>∃v,F8 P s fn fr=some v/\Q (.ret v) (s.cut n)
 | .ret,fr,s=>∃v,F8 P s fn fr=some v/\Q (.ret v) (s.cut n)
 | .pan v,_,s=>Q (.pan v) (s.cut n)
 | _,_,_=>False
def W.mono{c:Code}{fr:List AV}{s:AS}{Q R:AX->List AV->AS->Prop}(h:W P G X H c fr s Q)(k:∀e fr s,Q e fr s->R e fr s):W P G X H c fr s R:=by
 obtain⟨e,fr',s',h1,h2⟩:=h;exact⟨e,fr',s',h1,k _ _ _ h2⟩
def WC.mono{f:FuncId}{args:List AV}{s:AS}{Q R:CR->AS->Prop}(h:WC P G X H f args s Q)(k:∀r s,Q r s->R r s):WC P G X H f args s R:=by
 obtain⟨r,s',h1,h2⟩:=h;exact⟨r,s',h1,k _ _ h2⟩
def aUT{x y:Code}{fr:List AV}{s:AS}{Q:AX->List AV->AS->Prop}(h:W P G X H x fr s (aKH P G X H y Q)):W P G X H (.seq x y) fr s Q:=by
 obtain⟨e,Yi,s1,h1,h2⟩:=h;cases e with
 | normal =>
   obtain⟨e2,fr2,s2,h3,h4⟩:=h2;exact⟨e2,fr2,s2,.seq h1 h3,h4⟩
 | exit id=>exact⟨_,_,_,.adJ h1 (by simp),h2⟩
 | ret=>exact⟨_,_,_,.adJ h1 (by simp),h2⟩
 | pan v=>exact⟨_,_,_,.adJ h1 (by simp),h2⟩
def ayR{q:Operand}{x y:Code}{fr:List AV}{s:AS}{Q:AX->List AV->AS->Prop}(hq:AZ G fr q=some (.sc (.bool true)))(h:W P G X H x fr s Q):W P G X H (.cond q x y) fr s Q:=by
 obtain⟨e,Yi,s1,h1,h2⟩:=h;exact⟨e,Yi,s1,.cond hq h1,h2⟩
def ayQ{q:Operand}{x y:Code}{fr:List AV}{s:AS}{Q:AX->List AV->AS->Prop}(hq:AZ G fr q=some (.sc (.bool false)))(h:W P G X H y fr s Q):W P G X H (.cond q x y) fr s Q:=by
 obtain⟨e,Yi,s1,h1,h2⟩:=h;exact⟨e,Yi,s1,.cond hq h1,h2⟩
def oU{id:Nat}{c:Code}{fr:List AV}{s:AS}{Q:AX->List AV->AS->Prop}(h:W P G X H c fr s (Eu id Q)):W P G X H (.block id c) fr s Q:=by
 obtain⟨e,Yi,s1,h1,h2⟩:=h;exact⟨_,Yi,s1,.block h1,h2⟩
def anA{c:Code}{fr:List AV}{s:AS}{Q:AX->List AV->AS->Prop}(h:WL P G X H c fr s Q):W P G X H (.loop c) fr s Q:=by
 obtain⟨e,Yi,s1,h1,h2⟩:=h;exact⟨_,Yi,s1,.loop h1,h2⟩
def aeH{c:Code}{fr:List AV}{s:AS}{Q:AX->List AV->AS->Prop}(h:W P G X H c fr s (aJJ P G X H c Q)):WL P G X H c fr s Q:=by
 obtain⟨e,Yi,s1,h1,h2⟩:=h;cases e with
 | normal =>
   obtain⟨e2,fr2,s2,h3,h4⟩:=h2;exact⟨e2,fr2,s2,.loopN h1 h3,h4⟩
 | exit id=>exact⟨_,_,_,.loopX h1 (by simp),h2⟩
 | ret=>exact⟨_,_,_,.loopX h1 (by simp),h2⟩
 | pan v=>exact⟨_,_,_,.loopX h1 (by simp),h2⟩
def drop_cons{α:Type}{o:α}{l m:List α}{k:Nat}(h:o::l=m.drop k):m[k]?=some o/\l=m.drop (k+1):=by
 constructor;have:=congrArg (λx=>x[0]?) h;simpa using this.symm
 have:=congrArg List.tail h;rw[List.tail_drop] at this;exact this
def R4{f:FuncId}{fn:Func}{c:Code}{args:List AV}{s:AS}{Q:CR->AS->Prop}(hf:P.funcs[f]?=some fn)(hb:fn.body=some c)(h:W P G X H c (args++bkT (fn.ntmps - args.length) (.sc undef)) s (S0 P fn s.nx Q)):WC P G X H f args s Q:=by
 obtain⟨e,Yi,s1,h1,h2⟩:=h;cases e with
 | normal=>obtain⟨v,h3,h4⟩:=h2;exact⟨_,_,.body hf hb h1 (.inl rfl) h3 (.inl rfl),h4⟩
 | ret=>obtain⟨v,h3,h4⟩:=h2;exact⟨_,_,.body hf hb h1 (.inr rfl) h3 (.inl rfl),h4⟩
 | pan v=>exact⟨_,_,.aHW hf hb h1,h2⟩
 | exit id=>exact h2.elim
end
end AI
namespace AI
open Go Go.RowKit
abbrev XS(P:Program)(G:AK):Yl:=λf args s r s'=>Sound P G (.call f args s r s')
def H0:UY:=λ_ _=>none
def TU{P:Program}{G:AK}(h:P.follows .mixedOrders=true):aHP P G (XS P G) H0:=⟨h,λ_ _ _ _ _ h=>h,λ_ _ _ _ _ h=>by cases h⟩
def Pure(P:Program)(G:AK)(f:FuncId)(args:List AV)(v:AV):Prop:=∀s,Sound P G (.call f args s (.ret v) s)
def rows{α:Type}(f:α->List AV)(l:List α):List AV:=l.flatMap f
def UR{α:Type}{f:α->List AV}{k:Nat}(hf:∀x,(f x).length=k){l:List α}{i:Nat}{x:α}(h:l[i]?=some x):(rows f l).drop (i*k)=f x++rows f (l.drop (i+1)):=by
 induction l generalizing i with
 | nil=>simp at h
 | cons y l ih =>
   cases i with
   | zero=>simp at h;subst h;simp[rows]
   | succ i =>
     have:=ih (i:=i) (by simpa using h)
     have e:rows f (y::l)=f y++rows f l:=by simp[rows]
     rw[e,List.drop_append,hf y,show(i+1)*k - k=i*k by rw[blG];omega,List.drop_eq_nil_of_le (by rw[hf y,blG];omega),List.nil_append,this];simp
def IA{α:Type}{f:α->List AV}{k:Nat}(hf:∀x,(f x).length=k)(l:List α):(rows f l).length=l.length*k:=by
 induction l with
 | nil=>simp[rows]
 | cons y l ih =>
   have e:rows f (y::l)=f y++rows f l:=by simp[rows]
   rw[e,List.length_append,hf y,ih,Yy,blG];omega
def QH{α:Type}(f:α->List AV)(l m:List α):rows f (l++m)=rows f l++rows f m:=by simp[rows]
def Fv{α:Type}(f:α->List AV)(x:α)(m:List α):rows f (x::m)=f x++rows f m:=by simp[rows]
def acZ{α:Type}{f:α->List AV}{l:List α}(h:∀x∈l,Bz (f x)=true):Bz (rows f l)=true:=by
 have WY:∀a b:List AV,Bz a=true->Bz b=true->Bz (a++b)=true:=by
   intro a b ha hb
   induction a with
   | nil=>exact hb
   | cons x a ih =>
     simp only[Bz,bcA,List.cons_append] at ha ⊢;exact⟨ha.1,ih ha.2⟩
 induction l with
 | nil=>rfl
 | cons y l ih=>rw[Fv];exact WY _ _ (h y List.mem_cons_self) (ih λx hx=>h x (List.mem_cons_of_mem _ hx))
def abV{P:Program}{α:Type}{f:α->List AV}{k:Nat}{t elem:TypeId}{e:TypeInfo}(hu:P.underlying t=some (.slice elem))(he:P.info? elem=some e)(hk:e.size=k)(hf:∀x,(f x).length=k){own:Own}{l:List α}{i:Nat}{x:α}(h:l[i]?=some x) :
   CO P t (.sl own l.length (rows f l)) (.sc (.int .i64 (i:Int)))=some (.el (f x++rows f (l.drop (i+1)))):=by
 have hi:=(abH.1 h).1
 have hn:Tc (.sc (.int .i64 (i:Int)))=some i:=by
   unfold Tc;simp
 unfold CO;rw[hu,hn];simp only[he,hk,if_pos hi,UR hf h]
def ayJ{i:Nat}(h:i<=9223372036854775807):bmJ.wrap (i:Int)=(i:Int):=by
 refine bnF _ ?_;omega
end AI
namespace AI
open Go Go.RowKit
section
variable {G:AK}
inductive NZ where
 | t (tmp sz:Nat)
 | b (id i sz:Nat)
 | l (tmp:Nat)
 | lb (id i:Nat)
def aBY:AV->Bool
 | .sl .full n cs=>(match n with | 0=>(match cs with | []=>true | _=>false) | _=>false)
 | _=>false
def nz1(fr:List AV)(s:AS):NZ->Option (List AV×AS)
 | .t k sz=>(match fr[k]? with
   | some a=>(match aBY a with
     | true=>some (fr.set k (.sl (.row s.nr sz) 0 []),s.tok)
     | false=>none)
   | none=>none)
 | .b id i sz=>(match look id s.h with
   | some (.cells cs)=>(match cs[i]? with
     | some a=>(match aBY a with
       | true=>some (fr,⟨Ta id (.cells (cs.set i (.sl (.row s.nr sz) 0 []))) s.h,s.nx,(s.nr,0)::s.F,s.nr+1⟩)
       | false=>none)
     | none=>none)
   | _=>none)
 | .l k=>(match fr[k]? with
   | some a=>some (fr.set k (adT a),s)
   | none=>none)
 | .lb id i=>(match look id s.h with
   | some (.cells cs)=>(match cs[i]? with
     | some a=>some (fr,⟨Ta id (.cells (cs.set i (adT a))) s.h,s.nx,s.F,s.nr⟩)
     | none=>none)
   | _=>none)
def nzs:List NZ->List AV->AS->Option (List AV×AS)
 | [],fr,s=>some (fr,s)
 | z::l,fr,s=>(match nz1 fr s z with
   | some (fr,s)=>nzs l fr s
   | none=>none)
def Wkn(G:AK)(fr:List AV)(s:AS)(fr2:List AV)(s2:AS):Prop:=∀(cx:Cx) (w:World) (vs:List Value),St G cx w s->Cv cx w fr vs->∃cx2,Ext cx w cx2 w/\St G cx2 w s2/\Cv cx2 w fr2 vs
def Wkn.refl{fr:List AV}{s:AS}:Wkn G fr s fr s:=λcx w vs h1 h2=>⟨cx,Ext.refl _ _,h1,h2⟩
def Wkn.trans{fr fr2 fr3:List AV}{s s2 s3:AS}(h:Wkn G fr s fr2 s2)(k:Wkn G fr2 s2 fr3 s3):Wkn G fr s fr3 s3:=λcx w vs h1 h2=>by
 obtain⟨c2,x2,s2,r2⟩:=h cx w vs h1 h2;obtain⟨c3,x3,s3,r3⟩:=k c2 w vs s2 r2;exact⟨c3,x2.trans x3,s3,r3⟩
def agR{a:AV}(h:aBY a=true){c:Cx}{w:World}{v:Value}(hr:Rp c w a v){r sz:Nat}(hl:r < c.rows.length):Rp c w (.sl (.row r sz) 0 []) v:=by
 unfold aBY at h;split at h
 · split at h
   · split at h
     · cases hr with
       | sl0 h0=>exact .sl0 ⟨h0,hl⟩
       | K6 hn hc ho =>
         have:_=0:=ho;subst this;exact .sl0 ⟨rfl,hl⟩
     cases h
   cases h
 cases h
def oF{a:AV}{c:Cx}{w:World}{v:Value}(hr:Rp c w a v):Rp c w (adT a) v:=by
 cases hr with
 | sl0 _=>exact .sl0 trivial
 | K6 hn hc ho=>exact .K6 hn hc trivial
 | sc h=>exact .sc h
 | agg h=>exact .agg h
 | E9 h=>exact .E9 h
 | msl h1 h2=>exact .msl h1 h2
 | el h=>exact .el h
 | ptr h=>exact .ptr h
 | fn h1 h2=>exact .fn h1 h2
 | ifc h=>exact .ifc h
 | mp h=>exact .mp h
 | any h=>exact .any h
 | raw=>exact .raw
def Cv.aEK{c:Cx}{w:World}{as:List AV}{vs:List Value}(h:Cv c w as vs){i:Nat}{a b:AV}(ha:as[i]?=some a)(hb:∀v,Rp c w a v->Rp c w b v):Cv c w (as.set i b) vs:=by
 induction as generalizing vs i with
 | nil=>simp at ha
 | cons x as ih =>
   cases h with
   | cons h1 t =>
     cases i with
     | zero=>simp at ha;subst ha;exact .cons (hb _ h1) t
     | succ i=>exact .cons h1 (ih t (by simpa using ha))
def St.acW{c:Cx}{w:World}{s:AS}(h:St G c w s){id:Nat}{b b2:Ao}(hb:look id s.h=some b)(hk:∀o,EA c w b o->EA c w b2 o):St G c w ⟨Ta id b2 s.h,s.nx,s.F,s.nr⟩ :=
 ⟨h.len,jB h.desc,h.nodup,h.low,λS4 g b' h1 h2=>by
   rcases jC h2 with ⟨rfl,rfl⟩ | ⟨_,h3⟩
   obtain⟨o,ho,hbo⟩:=h.box _ g b h1 hb;exact⟨o,ho,hk o hbo⟩;exact h.box S4 g b' h1 h3,h.I8,h.row,h.Jl,h.Np,h.ND,h.IU,h.Mr,h.R2,h.Ol⟩
def aRN{fr fr2:List AV}{s s2:AS}{z:NZ}(h:nz1 fr s z=some (fr2,s2)):Wkn G fr s fr2 s2:=by
 intro cx w vs hs hr;cases z with
 | t k sz =>
   simp only[nz1] at h;split at h;rename_i a ha;split at h;rename_i hn;cases h;obtain⟨x,st⟩:=hs.tok;refine⟨_,x,st,(hr.mono x).aEK ha (λv hv=>agR hn hv ?_)⟩;simp[hs.I8];cases h;cases h
 | b id i sz =>
   simp only[nz1] at h;split at h;rename_i cs hb;split at h;rename_i a ha;split at h;rename_i hn;cases h;obtain⟨x,st⟩:=hs.tok;refine⟨_,x,st.acW (b:=.cells cs) hb (λo ho=>?_),hr.mono x⟩;cases ho with
   | GA ext h1=>exact .GA ext (h1.aEK ha (λv hv=>agR hn hv (by simp[hs.I8])))
   cases h;cases h;cases h
 | l k =>
   simp only[nz1] at h;split at h;rename_i a ha;cases h;exact⟨cx,Ext.refl _ _,hs,hr.aEK ha (λv hv=>oF hv)⟩;cases h
 | lb id i =>
   simp only[nz1] at h;split at h;rename_i cs hb;split at h;rename_i a ha;cases h;refine⟨cx,Ext.refl _ _,hs.acW (b:=.cells cs) hb (λo ho=>?_),hr⟩;cases ho with
   | GA ext h1=>exact .GA ext (h1.aEK ha (λv hv=>oF hv))
   cases h;cases h
def auC:∀{l:List NZ} {fr fr2:List AV} {s s2:AS},nzs l fr s=some (fr2,s2)->Wkn G fr s fr2 s2:=by
 intro l
 induction l with
 | nil=>intro fr fr2 s s2 h;simp only[nzs] at h;cases h;exact .refl
 | cons z l ih =>
   intro fr fr2 s s2 h;simp only[nzs] at h;split at h;rename_i f1 s1 h1;exact(aRN h1).trans (ih h);cases h
end
end AI
namespace AI
open Go Go.RowKit
def eqV:Value->Value->Bool
 | .string a,.string b=>BD a.data.toList b.data.toList
 | .int k a,.int k' b=>(match sameKind k k' with | true=>Bi a b | false=>false)
 | a,b=>ayW a b
def aNE{a b:Value}(h:eqV a b=true):a=b:=by
 unfold eqV at h;split at h;rename_i x y;rw[Yv,beq_iff_eq] at h;have:x=y:=ByteArray.ext (bjQ h);rw[this];split at h;rename_i hk;rw[O2,beq_iff_eq] at h;rw[ZP hk,h];cases h;exact aeN h
def aIF:Own->Own->Bool
 | .full,.full=>true
 | .lost,.lost=>true
 | .nil,.nil=>true
 | .nn,.nn=>true
 | _,_=>false
def apM{a b:Own}(h:aIF a b=true):a=b:=by cases a<;>cases b<;>first | rfl | cases h
mutual
def pT:AV->AV->Bool
 | .sc a,.sc b=>eqV a b
 | .agg a,.agg b=>eqL a b
 | .E9 a,.E9 b=>eqL a b
 | .sl o n a,.sl p m b=>(match aIF o p with
   | true=>(match bjO n m with | true=>eqL a b | false=>false)
   | false=>false)
 | .ifc t a,.ifc u b=>(match bjO t u with | true=>pT a b | false=>false)
 | _,_=>false
def eqL:List AV->List AV->Bool
 | [],[]=>true
 | a::as,b::bs=>(match pT a b with | true=>eqL as bs | false=>false)
 | _,_=>false
end
mutual
def apJ:∀{a b:AV},pT a b=true->a=b
 | .sc a,b,h=>by
   cases b<;>first
     | (simp only[pT] at h;rw[aNE h])
     | (simp[pT] at h;done)
 | .agg a,b,h=>by
   cases b<;>first
     | (simp only[pT] at h;rw[pU h])
     | (simp[pT] at h;done)
 | .E9 a,b,h=>by
   cases b<;>first
     | (simp only[pT] at h;rw[pU h])
     | (simp[pT] at h;done)
 | .sl o n a,b,h=>by
   cases b<;>first
     | (simp only[pT] at h
        split at h;rename_i h1;split at h;rename_i h2;rw[apM h1,beq_true h2,pU h];cases h;cases h)
     | (simp[pT] at h;done)
 | .ifc t a,b,h=>by
   cases b<;>first
     | (simp only[pT] at h
        split at h;rename_i h1;rw[beq_true h1,apJ h];cases h)
     | (simp[pT] at h;done)
 | .msl _ _ _,b,h=>by simp[pT] at h
 | .el _,b,h=>by simp[pT] at h
 | .ptr _ _,b,h=>by simp[pT] at h
 | .fn _ _ _,b,h=>by simp[pT] at h
 | .mp _,b,h=>by simp[pT] at h
 | .any,b,h=>by simp[pT] at h
def pU:∀{a b:List AV},eqL a b=true->a=b
 | [],b,h=>by cases b<;>first | rfl | (simp[eqL] at h;done)
 | a::as,b,h=>by
   cases b<;>first
     | (simp[eqL] at h;done)
     | (simp only[eqL] at h
        split at h;rename_i h1;rw[apJ h1,pU h];cases h)
end
structure Ent where
 f:Nat
 args:List AV
 box:Option (List AV×List AV)
 v:AV
def amV(P:Program)(G:AK)(e:Ent):Prop:=match e.box with
 | none=>∀s,Sound P G (.call e.f e.args s (.ret e.v) s)
 | some (cs,cs')=>∀s id,s.get id=some (.cells cs)->Sound P G (.call e.f (.ptr id 0::e.args) s (.ret e.v) (s.put id (.cells cs')))
def bhL.cons{P:Program}{G:AK}{e:Ent}{l:List Ent}(he:amV P G e)(hl:∀e∈l,amV P G e):∀e'∈e::l,amV P G e':=λe' h=>by
 rcases biX.1 h with h | h
 rw[h];exact he;exact hl e' h
end AI
namespace AI
open Go Go.RowKit
inductive Hn where
 | k
 | b (b:Bool)
 | i (z:Int)
 | w (v:AV)
 | a (v:AV) (s:AS)
 | ae (v:AV)
 | af (v:AV)
 | m (s:AS)
 | l (v:AV)
 | s (s:AS)
 | c (v:AV) (s:AS)
 | o (v:AV)
 | z (c:Nat)
 | p (v:AV) (s:AS)
 | g (sz k:Nat) (cs:List AV)
 | u (v:AV) (pre:List (Nat×Ao)) (tp:List (Nat×Nat)) (SM:List (Nat×Ao)) (tu:List (Nat×Nat))
 | q (v:AV) (pre:List (Nat×Ao)) (tp:List (Nat×Nat)) (SM:List (Nat×Ao)) (tu:List (Nat×Nat))
 | n (l:List NZ)
 | x (b:Ao) (v:AV)
 | y (b b2:Ao)
 | lb (m:Ao) (v:AV)
 | sb (m m2:Ao)
 | mb (n:Nat) (m:Ao)
 | za
 | zq (c:Nat)
 | cn (v:AV) (h:List (Nat×Ao)) (dn:Nat) (F:List (Nat×Nat)) (dr:Nat)
 | f (id:Nat) (b b2:Ao)
inductive Cd where
 | eqb (B b:Bool)
 | eqi (X z:Int)
 | idx (t:TypeId) (a b v:AV)
 | bin (op:BinOp) (t:TypeId) (x y:Operand) (a b v:AV)
 | call (f:FuncId) (args:List AV) (s:AS) (v:AV)
 | WY (s:AS) (t tx:TypeId) (a b v:AV) (s1:AS)
 | ix (t:TypeId) (a b v:AV)
 | lk (s:AS) (t:TypeId) (a b:AV) (ok:Bool) (v:AV)
 | ms (s:AS) (t:TypeId) (a b v:AV) (s1:AS)
 | aHZ (f:FuncId) (args:List AV) (s:AS) (v:AV) (s1:AS)
 | ld (s:AS) (t:TypeId) (a v:AV)
 | st (s:AS) (t:TypeId) (a x:AV) (s1:AS)
 | mk (s:AS) (t:TypeId) (a b v:AV) (s1:AS)
 | sli (t:TypeId) (a:AV) (l h m:Option AV) (v:AV)
 | aHY (f:FuncId) (args:List AV) (s:AS) (v:AV) (s1:AS)
 | pur (f:FuncId) (args:List AV) (v:AV)
 | jU (t tx:TypeId) (own:Own) (n:Nat) (cs:List AV) (b:AV) (sz k:Nat) (cs2:List AV)
 | eqn (k n:Nat)
 | Ru (f:FuncId) (args:List AV) (r:CR) (pre:List (Nat×Ao)) (tp:List (Nat×Nat)) (SM:List (Nat×Ao)) (tu:List (Nat×Nat))
 | eqx (a b:List (Option Ao)) (c d:List (Option Nat))
 | lkB (b:Ao) (t:TypeId) (k:AV) (ok:Bool) (v:AV)
 | msB (b:Ao) (t:TypeId) (k v:AV) (b2:Ao)
 | ldB (b:Ao) (t:TypeId) (off:Nat) (v:AV)
 | stB (b:Ao) (t:TypeId) (off:Nat) (x:AV) (b2:Ao)
 | mkB (t:TypeId) (a x:AV) (n:Nat) (m:Ao)
 | apB (t tx:TypeId) (a b:AV) (n:Nat) (m:Ao)
 | mC (f:FuncId) (args:List AV) (nx nr:Nat) (v:AV) (h:List (Nat×Ao)) (dn:Nat) (F:List (Nat×Nat)) (dr:Nat)
 | rd (nr:Nat) (b b2:Ao)
 | cv (t t2:TypeId) (a v:AV)
 | apf (t tx:TypeId) (a b v:AV)
def AS.Zg(s:AS):List (Nat×Ao)->AS
 | []=>s
 | e::l=>(s.put e.1 e.2).Zg l
def AS.VB(s:AS):List (Nat×Nat)->AS
 | []=>s
 | e::l=>(AS.mk s.h s.nx (alS e.1 e.2 s.F) s.nr).VB l
def eH(s:AS):List (Nat×Ao)->List (Option Ao)
 | []=>[]
 | e::l=>s.get e.1::eH s l
def PZ:List (Nat×Ao)->List (Option Ao)
 | []=>[]
 | e::l=>some e.2::PZ l
def mJ(F:List (Nat×Nat)):List (Nat×Nat)->List (Option Nat)
 | []=>[]
 | e::l=>DY e.1 F::mJ F l
def QO:List (Nat×Nat)->List (Option Nat)
 | []=>[]
 | e::l=>some e.2::QO l
def Cd.ok(P:Program)(G:AK):Cd->Prop
 | .eqb B b=>B=b
 | .eqi X z=>X=z
 | .idx t a b v=>CO P t a b=some v
 | .bin op t x y a b v=>LG P op t x y a b=some v
 | .call f args s v=>Sound P G (.call f args s (.ret v) s)
 | .WY s t tx a b v s1=>∃v0,LF P s t tx a b=some (v0,s1)/\∀c w u,Rp c w v0 u->Rp c w v u
 | .ix t a b v=>LH P t a b=some v
 | .lk s t a b ok v=>JA P s t a b ok=some v
 | .ms s t a b v s1=>KV P s t a b v=some s1
 | .aHZ f args s v s1=>Sound P G (.call f args s (.ret v) s1)
 | .ld s t a v=>JL P s t a=some v
 | .st s t a x s1=>Lb P s t a x=some s1
 | .mk s t a b v s1=>JM P s t a b=some (v,s1)
 | .sli t a l h m v=>Mn P t a l h m=some v
 | .aHY f args s v s1=>Sound P G (.call f args s (.pan v) s1)
 | .pur f args v=>∀s,Sound P G (.call f args s (.ret v) s)
 | .jU t tx own n cs b sz k cs2=>∀s:AS,Ph sz s.F n own=true->∃cs0,LF P s t tx (.sl own n cs) b=some (.sl (aJP s sz own) k cs0,s.to k own)/\∀c w u o,Rp c w (.sl o k cs0) u->Rp c w (.sl o k cs2) u
 | .eqn k n=>k=n
 | .Ru f args r pre tp SM tu=>∀s:AS,eH s pre=PZ pre->mJ s.F tp=QO tp->Sound P G (.call f args s r ((s.Zg SM).VB tu))
 | .eqx a b c d=>a=b/\c=d
 | .lkB b t k ok v=>∀(s:AS) (id:Nat),s.get id=some b->JA P s t (.mp id) k ok=some v
 | .msB b t k v b2=>∀(s:AS) (id:Nat),s.get id=some b->KV P s t (.mp id) k v=some (s.put id b2)
 | .ldB b t off v=>∀(s:AS) (id:Nat),s.get id=some b->JL P s t (.ptr id off)=some v
 | .stB b t off x b2=>∀(s:AS) (id:Nat),s.get id=some b->Lb P s t (.ptr id off) x=some (s.put id b2)
 | .mkB t a x n m=>∀s:AS,∃m0,JM P s t a x=some (.msl s.nx 0 n,s.new m0)/\∀(cx:Cx) (w:World) (o:Obj),EA cx w m0 o->EA cx w m o
 | .apB t tx a b n m=>∀s:AS,aLW P G t tx a b s (.msl s.nx 0 n) (s.new m)
 | .mC f args nx nr v h dn F dr=>∀s:AS,s.nx=nx->s.nr=nr->Sound P G (.call f args s (.ret v) ⟨h++s.h,s.nx+dn,F++s.F,s.nr+dr⟩)
 | .apf t tx a b v=>∀s:AS,∃v0,LF P s t tx a b=some (v0,s)/\∀c w u,Rp c w v0 u->Rp c w v u
 | .cv t t2 a v=>Ty P t t2 a=some v
 | .rd nr b b2=>∀(cx:Cx) (w:World) (o:Obj),nr < cx.rows.length->EA cx w b o->EA cx w b2 o
def Tb(P:Program)(G:AK):List Cd->Prop
 | []=>True
 | c::l=>c.ok P G/\Tb P G l
def Tb.WY{P:Program}{G:AK}{l m:List Cd}(h:Tb P G (l++m)):Tb P G l/\Tb P G m:=by
 induction l with
 | nil=>exact⟨trivial,h⟩
 | cons c l ih=>exact⟨⟨h.1,(ih h.2).1⟩,(ih h.2).2⟩
abbrev HO:=Option (AV×AS×List Hn×List Cd)
def LM(s1:Option AR)(hs:List Hn):HO:=match s1 with
 | some (.val v s)=>some (v,s,hs,[])
 | _=>none
def aWL(P:Program)(op:BinOp)(t:TypeId)(x y:Operand)(a b:AV)(s:AS):List Hn->HO
 | .k::hs=>(match cQ P op t x y a b with
   | some v=>some (v,s,hs,[])
   | none=>none)
 | .b c::hs=>(match cQ P op t x y a b with
   | some (.sc (.bool B))=>some (.sc (.bool c),s,hs,[.eqb B c])
   | _=>none)
 | .i z::hs=>(match cQ P op t x y a b with
   | some (.sc (.int k X))=>some (.sc (.int k z),s,hs,[.eqi X z])
   | _=>none)
 | .w v::hs=>some (v,s,hs,[.bin op t x y a b v])
 | _=>none
def aWO(P:Program)(t:TypeId)(a b:AV)(s:AS):List Hn->HO
 | .k::hs=>(match CO P t a b with
   | some v=>some (v,s,hs,[])
   | none=>none)
 | .w v::hs=>some (v,s,hs,[.idx t a b v])
 | _=>none
def eO(s:AS)(r:Option AR):List Hn->HO
 | .w v::hs=>(match r with
   | some (.ent f args)=>some (v,s,hs,[.pur f args v])
   | _=>none)
 | .a v s1::hs=>(match r with
   | some (.ent f args)=>some (v,s1,hs,[.aHZ f args s v s1])
   | _=>none)
 | .u v pre tp SM tu::hs=>(match r with
   | some (.ent f args)=>some (v,(s.Zg SM).VB tu,hs,[.Ru f args (.ret v) pre tp SM tu,.eqx (eH s pre) (PZ pre) (mJ s.F tp) (QO tp)])
   | _=>none)
 | .cn v h dn F dr::hs=>(match r with
   | some (.ent f args)=>some (v,⟨h++s.h,s.nx+dn,F++s.F,s.nr+dr⟩,hs,[.mC f args s.nx s.nr v h dn F dr])
   | _=>none)
 | _=>none
def aqK(s:AS)(t tx:TypeId)(a b:AV):List Hn->HO
 | .mb n m::hs=>some (.msl s.nx 0 n,s.new m,hs,[.apB t tx a b n m])
 | .a v s1::hs=>some (v,s1,hs,[.WY s t tx a b v s1])
 | .ae v::hs=>some (v,s,hs,[.WY s t tx a b v s])
 | .af v::hs=>some (v,s,hs,[.apf t tx a b v])
 | .g sz k cs2::hs=>(match a with
   | .sl .full n cs=>some (.sl (.row s.nr sz) k cs2,s.add k,hs,[.jU t tx .full n cs b sz k cs2])
   | .sl (.row r z) n cs=>(match DY r s.F with
     | some m=>(match bjO z sz with
       | true=>some (.sl (.row r sz) k cs2,s.grow r k,hs,[.jU t tx (.row r z) n cs b sz k cs2,.eqn m n])
       | false=>none)
     | none=>none)
   | _=>none)
 | _=>none
def aWP(P:Program)(t:TypeId)(a b:AV)(s:AS):List Hn->HO
 | .k::hs=>(match LH P t a b with
   | some v=>some (v,s,hs,[])
   | none=>none)
 | .w v::hs=>some (v,s,hs,[.ix t a b v])
 | _=>none
def aIK(t:TypeId)(a b:AV)(ok:Bool)(s:AS):List Hn->HO
 | .w v::hs=>some (v,s,hs,[.lk s t a b ok v])
 | .x m v::hs=>(match a with
   | .mp id=>some (v,s,hs,[.lkB m t b ok v,.eqx [s.get id] [some m] [] []])
   | _=>none)
 | _=>none
def aNX(t:TypeId)(a b v:AV)(s:AS):List Hn->HO
 | .m s1::hs=>some (.sc undef,s1,hs,[.ms s t a b v s1])
 | .y m m2::hs=>(match a with
   | .mp id=>some (.sc undef,s.put id m2,hs,[.msB m t b v m2,.eqx [s.get id] [some m] [] []])
   | _=>none)
 | _=>none
def aqN(t:TypeId)(a:Option AV)(s:AS)(r:Option AR):List Hn->HO
 | .l v::hs=>(match a with
   | some a=>some (v,s,hs,[.ld s t a v])
   | none=>none)
 | .lb m v::hs=>(match a with
   | some (.ptr id off)=>some (v,s,hs,[.ldB m t off v,.eqx [s.get id] [some m] [] []])
   | _=>none)
 | hs=>LM r hs
def abG(t:TypeId)(a x:Option AV)(s:AS)(r:Option AR):List Hn->HO
 | .s s1::hs=>(match a,x with
   | some a,some x=>some (.sc undef,s1,hs,[.st s t a x s1])
   | _,_=>none)
 | .sb m m2::hs=>(match a,x with
   | some (.ptr id off),some x=>some (.sc undef,s.put id m2,hs,[.stB m t off x m2,.eqx [s.get id] [some m] [] []])
   | _,_=>none)
 | hs=>LM r hs
def aqP(t:TypeId)(a x:Option AV)(s:AS)(r:Option AR):List Hn->HO
 | .c v s1::hs=>(match a,x with
   | some a,some x=>some (v,s1,hs,[.mk s t a x v s1])
   | _,_=>none)
 | .mb n m::hs=>(match a,x with
   | some a,some x=>some (.msl s.nx 0 n,s.new m,hs,[.mkB t a x n m])
   | _,_=>none)
 | hs=>LM r hs
def aNY(t:TypeId)(a:Option AV)(l h m:Option (Option AV))(s:AS)(r:Option AR):List Hn->HO
 | .o v::hs=>(match a,l,h,m with
   | some a,some l,some h,some m=>some (v,s,hs,[.sli t a l h m v])
   | _,_,_,_=>none)
 | hs=>LM r hs
def aII(P:Program)(t t2:TypeId)(a:AV)(s:AS):List Hn->HO
 | .w v::hs=>some (v,s,hs,[.cv t t2 a v])
 | hs=>(match Ty P t t2 a with
   | some v=>some (v,s,hs,[])
   | none=>none)
def hDo(P:Program)(G:AK)(fr:List AV)(s:AS)(o:Oper)(hs:List Hn):HO :=
 match o.op with
 | .binOp op t x y _=>(match AJ G fr x with
   | some a=>(match AJ G fr y with
     | some b=>aWL P op t x y a b s hs
     | none=>none)
   | none=>none)
 | .indexAddr t x i=>(match AJ G fr x with
   | some a=>(match AJ G fr i with
     | some b=>aWO P t a b s hs
     | none=>none)
   | none=>none)
 | .index t x i=>(match AJ G fr x with
   | some a=>(match AJ G fr i with
     | some b=>aWP P t a b s hs
     | none=>none)
   | none=>none)
 | .convert t t2 x=>(match AJ G fr x with
   | some (.sl o n cs)=>aII P t t2 (.sl o n cs) s hs
   | _=>LM (W7 P G fr s o) hs)
 | .lookup t x k ok=>(match AJ G fr x with
   | some a=>(match AJ G fr k with
     | some b=>aIK t a b ok s hs
     | none=>none)
   | none=>none)
 | .mapUpdate t m k x=>(match AJ G fr m with
   | some a=>(match AJ G fr k with
     | some b=>(match AJ G fr x with
       | some v=>aNX t a b v s hs
       | none=>none)
     | none=>none)
   | none=>none)
 | .load t x=>aqN t (AZ G fr x) s (W7 P G fr s o) hs
 | .store t x y=>abG t (AZ G fr x) (AZ G fr y) s (W7 P G fr s o) hs
 | .makeSlice t x y=>aqP t (AZ G fr x) (AZ G fr y) s (W7 P G fr s o) hs
 | .slice t x lo hi mx=>aNY t (AZ G fr x) (tG G fr lo) (tG G fr hi) (tG G fr mx) s (W7 P G fr s o) hs
 | .call cl=>(match cl.callee with
   | .value _=>eO s (W7 P G fr s o) hs
   | .builtin .append=>(match cl.args.toList,cl.argTypes.toList with
     | [x,y],[t,tx]=>(match AJ G fr x with
       | some a=>(match AJ G fr y with
         | some b=>aqK s t tx a b hs
         | none=>none)
       | none=>none)
     | _,_=>none)
   | _=>LM (W7 P G fr s o) hs)
 | _=>LM (W7 P G fr s o) hs
def mN(P:Program)(G:AK)(ops:Array Oper)(fr:List AV)(s:AS)(o:Oper)(hs:List Hn):HO :=
 match Cw ops fr o with
 | true=>hDo P G fr s o hs
 | false=>some (.sc undef,s,hs,[])
section
variable {P:Program} {G:AK} {ops:Array Oper}
def Yw{r:Option AR}{hs hs':List Hn}{v:AV}{s:AS}{cd:List Cd}(h:LM r hs=some (v,s,hs',cd)):r=some (.val v s):=by
 unfold LM at h;split at h;cases h;rfl;cases h
def aqO{t:TypeId}{a:Option AV}{r:Option AR}{hs hs':List Hn}{v:AV}{s s1:AS}{cd:List Cd}(h:aqN t a s r hs=some (v,s1,hs',cd))(hc:Tb P G cd):(∃a',a=some a'/\JL P s t a'=some v/\s1=s)\/LM r hs=some (v,s1,hs',cd):=by
 unfold aqN at h;split at h;split at h;cases h;exact .inl ⟨_,rfl,hc.1,rfl⟩;cases h;split at h;cases h;exact .inl ⟨_,rfl,hc.1 _ _ (bqS hc.2.1.1).1,rfl⟩;cases h;exact .inr h
def Yx{t:TypeId}{a x:Option AV}{r:Option AR}{hs hs':List Hn}{v:AV}{s s1:AS}{cd:List Cd}(h:abG t a x s r hs=some (v,s1,hs',cd))(hc:Tb P G cd):(∃a' x',a=some a'/\x=some x'/\Lb P s t a' x'=some s1/\v=.sc undef)\/LM r hs=some (v,s1,hs',cd):=by
 unfold abG at h;split at h;split at h;cases h;exact .inl ⟨_,_,rfl,rfl,hc.1,rfl⟩;cases h;split at h;cases h;exact .inl ⟨_,_,rfl,rfl,hc.1 _ _ (bqS hc.2.1.1).1,rfl⟩;cases h;exact .inr h
def aqQ{t:TypeId}{a x:Option AV}{r:Option AR}{hs hs':List Hn}{v:AV}{s s1:AS}{cd:List Cd}(h:aqP t a x s r hs=some (v,s1,hs',cd))(hc:Tb P G cd):(∃a' x',a=some a'/\x=some x'/\∃s0,JM P s t a' x'=some (v,s0)/\∀cx w,St G cx w s0->St G cx w s1)\/LM r hs=some (v,s1,hs',cd):=by
 unfold aqP at h;split at h;split at h;cases h;exact .inl ⟨_,_,rfl,rfl,_,hc.1,λ_ _ h=>h⟩;cases h;split at h;cases h;obtain⟨m0,h1,h2⟩:=hc.1 s;refine .inl ⟨_,_,rfl,rfl,_,h1,λcx w hs=>?_⟩;have:=hs.acW (id:=s.nx) (b:=m0) (b2:=_) (by simp[AS.new,look]) (λo ho=>h2 cx w o ho);simpa[AS.new,Ta] using this
 cases h;exact .inr h
def aAO{t:TypeId}{a:Option AV}{l k m:Option (Option AV)}{r:Option AR}{hs hs':List Hn}{v:AV}{s s1:AS}{cd:List Cd}(h:aNY t a l k m s r hs=some (v,s1,hs',cd))(hc:Tb P G cd):(∃a' l' k' m',a=some a'/\l=some l'/\k=some k'/\m=some m'/\Mn P t a' l' k' m'=some v/\s1=s)\/LM r hs=some (v,s1,hs',cd):=by
 unfold aNY at h;split at h;split at h;cases h;exact .inl ⟨_,_,_,_,rfl,rfl,rfl,rfl,hc.1,rfl⟩;cases h;exact .inr h
def aNW{fr:List AV}{s s1:AS}{o:Oper}{hs hs':List Hn}{v:AV}{cd:List Cd}(hw:Cw ops fr o=true)(h:hDo P G fr s o hs=some (v,s1,hs',cd))(hc:Tb P G cd):J P G (XS P G) H0 (.op ops o fr s (.ret v) s1):=by
 have Wl:LM (W7 P G fr s o) hs=some (v,s1,hs',cd)->J P G (XS P G) H0 (.op ops o fr s (.ret v) s1):=λh=>by
   have:=Yw h;rw[Of] at this;exact .Pj hw this
 unfold hDo at h;split at h;rename_i op t x y z ho;rw[Cl,Cl] at h;split at h;rename_i a ha;split at h;rename_i b hb
 have fin:∀v',LG P op t x y a b=some v'->s1=s->v=v'->J P G (XS P G) H0 (.op ops o fr s (.ret v) s1):=by
   intro v' h1 h2 h3;subst h2 h3;refine .Pj hw ?_;unfold RZ;rw[ho];simp only[ha,hb,h1,biQ]
 unfold aWL at h;rw[Tx] at h;split at h;split at h;rename_i h1;cases h;exact fin _ h1 rfl rfl;cases h;split at h;rename_i h1;cases h;have e:_=_:=hc.1;subst e;exact fin _ h1 rfl rfl;cases h;split at h;rename_i h1;cases h;have e:_=_:=hc.1;subst e;exact fin _ h1 rfl rfl;cases h;cases h;exact fin _ hc.1 rfl rfl;cases h;cases h;cases h;rename_i t x i ho;rw[Cl,Cl] at h;split at h;rename_i a ha;split at h;rename_i b hb
 have fin:∀v',CO P t a b=some v'->s1=s->v=v'->J P G (XS P G) H0 (.op ops o fr s (.ret v) s1):=by
   intro v' h1 h2 h3;subst h2 h3;refine .Pj hw ?_;unfold RZ;rw[ho];simp only[ha,hb,h1,biQ]
 unfold aWO at h;split at h;split at h;rename_i h1;cases h;exact fin _ h1 rfl rfl;cases h;cases h;exact fin _ hc.1 rfl rfl;cases h;cases h;cases h;rename_i t x i ho;rw[Cl,Cl] at h;split at h;rename_i a ha;split at h;rename_i b hb
 have fin:∀v',LH P t a b=some v'->s1=s->v=v'->J P G (XS P G) H0 (.op ops o fr s (.ret v) s1):=by
   intro v' h1 h2 h3;subst h2 h3;refine .Pj hw ?_;unfold RZ;rw[ho];simp only[ha,hb,h1,biQ]
 unfold aWP at h;split at h;split at h;rename_i h1;cases h;exact fin _ h1 rfl rfl;cases h;cases h;exact fin _ hc.1 rfl rfl;cases h;cases h;cases h;rename_i t t2 x ho;rw[Cl] at h;split at h;rename_i ow n cs ha
 have fin:∀v',Ty P t t2 (.sl ow n cs)=some v'->s1=s->v=v'->J P G (XS P G) H0 (.op ops o fr s (.ret v) s1):=by
   intro v' h1 h2 h3;subst h2 h3;refine .Pj hw ?_;unfold RZ;rw[ho];simp only[ha,NF,h1,biQ]
 unfold aII at h;split at h;cases h;exact fin _ hc.1 rfl rfl;split at h;rename_i h1;cases h;exact fin _ h1 rfl rfl;cases h;exact Wl h;rename_i t x k ok ho;rw[Cl,Cl] at h;split at h;rename_i a ha;split at h;rename_i b hb
 have h1:JA P s t a b ok=some v/\s1=s:=by
   unfold aIK at h;split at h;cases h;exact⟨hc.1,rfl⟩;split at h;cases h;refine⟨hc.1 _ _ ?_,rfl⟩;have h2:=hc.2.1.1;simpa using h2
   cases h;cases h
 obtain⟨h1,rfl⟩:=h1;refine .Pj hw ?_;unfold RZ;rw[ho];simp only[ha,hb,h1,biQ];cases h;cases h;rename_i t m k x ho;rw[Cl,Cl,Cl] at h;split at h;rename_i a ha;split at h;rename_i b hb;split at h;rename_i x' hx
 have h1:KV P s t a b x'=some s1/\v=.sc undef:=by
   unfold aNX at h;split at h;cases h;exact⟨hc.1,rfl⟩;split at h;cases h;refine⟨hc.1 _ _ ?_,rfl⟩;have h2:=hc.2.1.1;simpa using h2
   cases h;cases h
 obtain⟨h1,rfl⟩:=h1;refine .Pj hw ?_;unfold RZ;rw[ho];simp only[ha,hb,hx,h1,biQ];cases h;cases h;cases h;rename_i t x ho;rcases aqO h hc with ⟨a,ha,h1,rfl⟩ | h1
 refine .Pj hw ?_;unfold RZ;rw[ho];simp only[ha,NF,h1,biQ];exact Wl h1;rename_i t x y ho;rcases Yx h hc with ⟨a,b,ha,hb,h1,rfl⟩ | h1
 refine .Pj hw ?_;unfold RZ;rw[ho];simp only[ha,hb,h1,biQ];exact Wl h1;rename_i t x y ho;rcases aqQ h hc with ⟨a,b,ha,hb,s0,h1,h2⟩ | h1
 refine .rO ?_ (.Pj (s':=s0) hw ?_) h2;simp only[quiet,ho];unfold RZ;rw[ho];simp only[ha,hb,h1,biQ];exact Wl h1;rename_i t x lo hi mx ho;rcases aAO h hc with ⟨a,l,k,m,ha,hl,hk,hm,h1,rfl⟩ | h1
 refine .Pj hw ?_;unfold RZ;rw[ho];simp only[ha,hl,hk,hm,h1,biQ];exact Wl h1;rename_i cl ho;split at h;unfold eO at h;split at h;split at h;rename_i h1;cases h;rw[Of] at h1;exact .T7 hw h1 (.ext (hc.1 s));cases h;split at h;rename_i h1;cases h;rw[Of] at h1;exact .T7 hw h1 (.ext hc.1);cases h;split at h;rename_i h1;cases h;rw[Of] at h1;exact .T7 hw h1 (.ext (hc.1 s hc.2.1.1 hc.2.1.2));cases h;split at h;rename_i h1;cases h;rw[Of] at h1;exact .T7 hw h1 (.ext (hc.1 s rfl rfl));cases h;cases h;rename_i He;split at h;rename_i x y t tx hxs DT;rw[Cl,Cl] at h;split at h;rename_i a ha;split at h;rename_i b hb
 have fin:∀v0,LF P s t tx a b=some (v0,s1)->(∀c w u,Rp c w v0 u->Rp c w v u)->J P G (XS P G) H0 (.op ops o fr s (.ret v) s1):=by
   intro v0 h1 h2;refine .acP (v:=v0) ?_ (.Pj hw ?_) h2;simp only[quiet,ho,He];unfold RZ;rw[ho];simp only[Vu,He,hxs,DT,ha,hb,h1,biQ]
 unfold aqK at h;split at h;cases h;exact .auG hw ho He hxs DT ha hb (hc.1 s);cases h;obtain⟨v0,h1,h2⟩:=hc.1;exact fin v0 h1 h2;cases h;obtain⟨v0,h1,h2⟩:=hc.1;exact fin v0 h1 h2;cases h;obtain⟨v0,h1,h2⟩:=hc.1 s;exact fin v0 h1 h2;split at h;cases h;obtain⟨cs0,h1,h2⟩:=hc.1 s rfl;exact fin _ h1 (λc w u=>h2 c w u _);rename_i r z n cs;split at h;rename_i m hm;split at h;rename_i hz;have hz:=beq_true hz;subst hz;cases h;have e:m=n:=hc.2.1;subst e;obtain⟨cs0,h1,h2⟩:=hc.1 s (by simp[Ph,hm]);exact fin _ h1 (λc w u=>h2 c w u _);cases h;cases h;cases h;cases h;cases h;cases h;cases h;exact Wl h;exact Wl h
def QU{fr:List AV}{s s1:AS}{o:Oper}{hs hs':List Hn}{v:AV}{cd:List Cd}(h:mN P G ops fr s o hs=some (v,s1,hs',cd))(hc:Tb P G cd):J P G (XS P G) H0 (.op ops o fr s (.ret v) s1):=by
 unfold mN at h;split at h;rename_i hw;exact aNW hw h hc;rename_i hw;cases h;exact .acO hw
end
end AI
