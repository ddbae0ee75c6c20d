/- Part of a proof: see the last text. -/
import Derived.Test.YtpbkhogolfegfaaGreatDoorPld
import Derived.LoopN
set_option linter.unusedVariables false
set_option linter.unusedSimpArgs false
set_option linter.defProp false
noncomputable section
namespace AI
open Go Go.RowKit
inductive AX where
 | normal
 | exit (id:Nat)
 | ret
 | pan (v:AV)
inductive CR where
 | ret (v:AV)
 | pan (v:AV)
def Cy(ops:Array Oper)(fr:List AV)(o:Oper):Bool:=match o.guard with
 | none=>true
 | some (j,want)=>match (ops[j]?).bind (·.dst) with
   | some d=>match fr[d]? with
     | some (.sc (.bool b))=>b == want
     | _=>false
   | none=>false
def D8(id:Nat):AX->AX
 | .exit QK=>if QK=id then .normal else .exit QK
 | e=>e
def Rj(P:Program)(s:AS)(fr:List AV):ResultVar->Option AV
 | .tmp t=>some (fr.getD t (.sc undef))
 | .cell t ty=>Jq P s ty (fr.getD t (.sc undef))
def Nf(P:Program)(s:AS)(fr:List AV):List ResultVar->Option (List AV)
 | []=>some []
 | r::rs=>match Rj P s fr r,Nf P s fr rs with
   | some a,some as=>some (a::as)
   | _,_=>none
def GB(P:Program)(s:AS)(fn:Func)(fr:List AV):Option AV:=match Nf P s fr fn.results.toList with
 | some [a]=>some a
 | some as=>some (.Dd as)
 | none=>none
inductive Jd where
 | code (c:Code) (fr:List AV) (s:AS) (e:AX) (fr':List AV) (s':AS)
 | loop (c:Code) (fr:List AV) (s:AS) (e:AX) (fr':List AV) (s':AS)
 | ops (ops:Array Oper) (l:List Nat) (fr:List AV) (s:AS) (e:AX) (fr':List AV) (s':AS)
 | op (ops:Array Oper) (o:Oper) (fr:List AV) (s:AS) (r:CR) (s':AS)
 | call (f:FuncId) (args:List AV) (s:AS) (r:CR) (s':AS)
def Cm(ops:Array Oper)(i:Nat):Option Tmp:=(ops[i]?).bind (·.dst)
def Yo(ops:Array Oper)(i:Nat):Prop:=∃o,ops[i]?=some o/\calm o.op=false
def Win(ops:Array Oper)(i k:Nat):Prop:=(∀l,Yo ops l->R7 (Ij ops.toList []) i l=true->l < k)/\(∀l,Yo ops l->R7 (Ij ops.toList []) l i=true->k<=l)
abbrev Wq:=FuncId->List AV->AS->CR->AS->Prop
abbrev Tg:=FuncId->List AV->Option (FuncId×List AV×(CR->Option CR))
def avF(P:Program)(G:A8)(t tx:TypeId)(a b:AV)(s:AS)(v:AV)(s':AS):Prop:=∀(c:Cx) (w:World) (va vb:Value) (ty:TypeId),St G c w s->Rp c w a va->Rp c w b vb ->
 ∃u w' c',(Builtin.append_ #[t,tx] ty #[va,vb]).run P w=.ok u w'/\Ext c w c' w'/\St G c' w' s'/\Rp c' w' v u
def aBE(G:A8)(c:Cx)(w:World)(r:CR)(s':AS)(e:Ending)(w':World):Prop :=
 ∃c',Ext c w c' w'/\St G c' w' s'/\match r with
   | .ret v=>∃u,e=.returned u/\Rp c' w' v u
   | .pan v=>∃u,e=.panicked [{ v:=u,recovered:=false }]/\Rp c' w' v u
def SQ(G:A8)(c:Cx)(w:World)(e:AX)(fr':List AV)(s':AS)(e':Exit)(a':Act)(w':World):Prop :=
 ∃c',Ext c w c' w'/\St G c' w' s'/\a'.defers=[]/\match e with
   | .normal=>e'=.normal/\CH c' w' fr' a'.tmps.toList
   | .exit id=>e'=.exit id/\CH c' w' fr' a'.tmps.toList
   | .ret=>e'=.ret/\CH c' w' fr' a'.tmps.toList
   | .pan v=>∃u,e'=.panic [{ v:=u,recovered:=false }]/\Rp c' w' v u
def SQ.ext{G:A8}{c c1:Cx}{w w1:World}{e:AX}{fr':List AV}{s':AS}{e':Exit}{a':Act}{w':World}(x:Ext c w c1 w1)(h:SQ G c1 w1 e fr' s' e' a' w'):SQ G c w e fr' s' e' a' w':=by
 obtain⟨c',h1,h2⟩:=h;exact⟨c',x.trans h1,h2⟩
def Mk(P:Program)(ops:Array Oper)(o:Oper)(K:Act->World->Prop)(Q:Exit->Act->World->Prop)(a:Act)(w:World):Prop :=
 if Region.wanted o (yielded ops a.tmps) then o.wp P a w K Q else K (a.put o.dst undef) w
def Sound(P:Program)(G:A8):Jd->Prop
 | .code c fr s e fr' s'=>∀(cx:Cx) (w:World) (a:Act) (Q:Exit->Act->World->Prop),St G cx w s->CH cx w fr a.tmps.toList->a.defers=[]->(∀e' a' w',SQ G cx w e fr' s' e' a' w'->Q e' a' w')->c.wp P Q a w
 | .loop c fr s e fr' s'=>∃n,∀(cx:Cx) (w:World) (a:Act) (Q:Exit->Act->World->Prop),St G cx w s->CH cx w fr a.tmps.toList->a.defers=[]->(∀e' a' w',SQ G cx w e fr' s' e' a' w'->Q e' a' w')->Code.rounds P c Q n a w
 | .ops ops l fr s e fr' s'=>∀(cx:Cx) (w:World) (a:Act) (Q:Exit->Act->World->Prop),St G cx w s->CH cx w fr a.tmps.toList->a.defers=[]->(∀e' a' w',SQ G cx w e fr' s' e' a' w'->Q e' a' w')->wpOps P ops Q l a w
 | .op ops o fr s r s'=>∀(cx:Cx) (w:World) (a:Act) (K:Act->World->Prop) (Q:Exit->Act->World->Prop),St G cx w s->(∀x∈o.op.operands,Zi G cx w fr a.eval x)->Cy ops fr o=Region.wanted o (yielded ops a.tmps) ->
     (match r with
       | .ret v=>∀u w' c',Ext cx w c' w'->St G c' w' s'->Rp c' w' v u->K (a.put o.dst u) w'
       | .pan v=>∀u w' c',Ext cx w c' w'->St G c' w' s'->Rp c' w' v u->Q (.panic [{ v:=u,recovered:=false }]) a w')->Mk P ops o K Q a w
 | .call f args s r s'=>∀(cx:Cx) (w:World) (vs:List Value),St G cx w s->CH cx w args vs->Calls P f vs.toArray w (aBE G cx w r s')
inductive J(P:Program)(G:A8)(X:Wq)(H:Tg):Jd->Prop where
 | skip {fr:List AV} {s:AS}:J P G X H (.code .skip fr s .normal fr s)
 | exit {id:Nat} {fr:List AV} {s:AS}:J P G X H (.code (.exit id) fr s (.exit id) fr s)
 | ret {fr:List AV} {s:AS}:J P G X H (.code .ret fr s .ret fr s)
 | seq {x y:Code} {fr Vl fr':List AV} {s s1 s':AS} {e:AX} (h1:J P G X H (.code x fr s .normal Vl s1)) (h2:J P G X H (.code y Vl s1 e fr' s')):J P G X H (.code (.seq x y) fr s e fr' s')
 | qM {x y:Code} {fr fr':List AV} {s s':AS} {e:AX} (h1:J P G X H (.code x fr s e fr' s')) (he:e≠.normal):J P G X H (.code (.seq x y) fr s e fr' s')
 | cond {q:Operand} {x y:Code} {t:Bool} {fr fr':List AV} {s s':AS} {e:AX} (hq:Ba G fr q=some (.sc (.bool t))) (h:J P G X H (.code (if t then x else y) fr s e fr' s')):J P G X H (.code (.cond q x y) fr s e fr' s')
 | block {id:Nat} {c:Code} {fr fr':List AV} {s s':AS} {e:AX} (h:J P G X H (.code c fr s e fr' s')):J P G X H (.code (.block id c) fr s (D8 id e) fr' s')
 | loop {c:Code} {fr fr':List AV} {s s':AS} {e:AX} (h:J P G X H (.loop c fr s e fr' s')):J P G X H (.code (.loop c) fr s e fr' s')
 | loopN {c:Code} {fr Vl fr':List AV} {s s1 s':AS} {e:AX} (h1:J P G X H (.code c fr s .normal Vl s1)) (h2:J P G X H (.loop c Vl s1 e fr' s')):J P G X H (.loop c fr s e fr' s')
 | loopX {c:Code} {fr fr':List AV} {s s':AS} {e:AX} (h1:J P G X H (.code c fr s e fr' s')) (he:e≠.normal):J P G X H (.loop c fr s e fr' s')
 | region {id:Nat} {ops:Array Oper} {fr fr':List AV} {s s':AS} {e:AX} (h:J P G X H (.ops ops (List.range ops.size) fr s e fr' s')):J P G X H (.code (.region id ops false) fr s e fr' s')
 | agJ {ops:Array Oper} {fr:List AV} {s:AS}:J P G X H (.ops ops [] fr s .normal fr s)
 | tX {ops:Array Oper} {i:Nat} {l:List Nat} {o:Oper} {v:AV} {fr fr':List AV} {s s1 s':AS} {e:AX} (ho:ops[i]?=some o) (h:J P G X H (.op ops o fr s (.ret v) s1)) (t:J P G X H (.ops ops l (IJ fr o.dst v) s1 e fr' s')):J P G X H (.ops ops (i::l) fr s e fr' s')
 | agK {ops:Array Oper} {i:Nat} {l:List Nat} {o:Oper} {v:AV} {fr:List AV} {s s1:AS} (ho:ops[i]?=some o) (h:J P G X H (.op ops o fr s (.pan v) s1)):J P G X H (.ops ops (i::l) fr s (.pan v) fr s1)
 | NB {ops:Array Oper} {o:Oper} {fr:List AV} {s s':AS} {v:AV} (hw:Cy ops fr o=true) (h:PU P G fr s o=some (.val v s')):J P G X H (.op ops o fr s (.ret v) s')
 | pQ {ops:Array Oper} {o:Oper} {fr:List AV} {s s':AS} {v v2:AV} (hq:quiet o.op=false) (h:J P G X H (.op ops o fr s (.ret v) s')) (hv:∀cx w u,Rp cx w v u->Rp cx w v2 u):J P G X H (.op ops o fr s (.ret v2) s')
 | dR {ops:Array Oper} {o:Oper} {fr:List AV} {s s1 s2:AS} {v:AV} (hq:quiet o.op=false) (h:J P G X H (.op ops o fr s (.ret v) s1)) (hs:∀cx w,St G cx w s1->St G cx w s2):J P G X H (.op ops o fr s (.ret v) s2)
 | agI {ops:Array Oper} {o:Oper} {fr:List AV} {s s':AS} {cl:Call} {x y:Operand} {t tx:TypeId} {a b v:AV} (hw:Cy ops fr o=true) (ho:o.op=.call cl) (Iy:cl.callee=.builtin .append) (hx:cl.args.toList=[x,y]) (ht:cl.argTypes.toList=[t,tx]) (ha:Ba G fr x=some a) (hb:Ba G fr y=some b) (h:avF P G t tx a b s v s'):J P G X H (.op ops o fr s (.ret v) s')
 | pP {ops:Array Oper} {o:Oper} {fr:List AV} {s:AS} (hw:Cy ops fr o=false):J P G X H (.op ops o fr s (.ret (.sc undef)) s)
 | RN {ops:Array Oper} {o:Oper} {fr:List AV} {s s':AS} {f:FuncId} {args:List AV} {r:CR} (hw:Cy ops fr o=true) (h:PU P G fr s o=some (.ent f args)) (hc:J P G X H (.call f args s r s')):J P G X H (.op ops o fr s r s')
 | auJ {ops:Array Oper} {o:Oper} {fr:List AV} {s:AS} {v:AV} (hw:Cy ops fr o=true) (h:PU P G fr s o=some (.pan v)):J P G X H (.op ops o fr s (.pan v) s)
 | draw {id:Nat} {ops:Array Oper} {f0:List AV} {s0:AS} (rs:List AL) (vals:Nat->AV) (MG:Nat->AS) (h0:MG 0=s0.hold rs) (Hv:L2 ops=true)
     (hl:∀i o,ops[i]?=some o->calm o.op=false->J P G X H (.op ops o (Iz f0 (Cm ops) vals (λ_=>true) i) (MG i) (.ret (vals i)) (MG (i+1))))
     (hq:∀i o,ops[i]?=some o->quiet o.op=true->MG (i+1)=MG i/\((Cy ops (Iz f0 (Cm ops) vals (λ_=>true) i) o=false/\vals i=.sc undef)\/(Cy ops (Iz f0 (Cm ops) vals (λ_=>true) i) o=true/\∀k,k<=ops.size->Win ops i k->PU P G (Iz f0 (Cm ops) vals (λ_=>true) i) (MG k) o=some (.val (vals i) (MG k)))))
     (ha:∀i o e,ops[i]?=some o->o.op=.alloc e->MG (i+1)=MG i/\((Cy ops (Iz f0 (Cm ops) vals (λ_=>true) i) o=false/\vals i=.sc undef)\/(Cy ops (Iz f0 (Cm ops) vals (λ_=>true) i) o=true/\∃z,LY P e=some z/\rk ops i < rs.length/\vals i=.ptr (s0.nx+rk ops i) 0/\∀k,k<=ops.size->Win ops i k->(MG k).get (s0.nx+rk ops i)=some (.cells (cellsOf z))))) :
     J P G X H (.code (.region id ops true) f0 s0 .normal (Iz f0 (Cm ops) vals (λ_=>true) ops.size) (MG ops.size))
 | body {f:FuncId} {fn:Func} {c:Code} {args fr':List AV} {s s' s2:AS} {e:AX} {v:AV} (hf:P.funcs[f]?=some fn) (hb:fn.body=some c) (h:J P G X H (.code c (args++List.replicate (fn.ntmps - args.length) (.sc undef)) s e fr' s')) (he:e=.normal\/e=.ret) (hr:GB P s' fn fr'=some v) (hk:s2=s'.cut s.nx\/s2=s'):J P G X H (.call f args s (.ret v) s2)
 | atC {f:FuncId} {fn:Func} {c:Code} {args fr':List AV} {s s':AS} {v:AV} (hf:P.funcs[f]?=some fn) (hb:fn.body=some c) (h:J P G X H (.code c (args++List.replicate (fn.ntmps - args.length) (.sc undef)) s (.pan v) fr' s')):J P G X H (.call f args s (.pan v) (s'.cut s.nx))
 | ext {f:FuncId} {args:List AV} {s s':AS} {r:CR} (h:X f args s r s'):J P G X H (.call f args s r s')
 | Y7 {c:Code} {fr fr2 fr':List AV} {s s2 s':AS} {e:AX} (hw:∀cx w vs,St G cx w s->CH cx w fr vs->∃cx2,Ext cx w cx2 w/\St G cx2 w s2/\CH cx2 w fr2 vs) (h:J P G X H (.code c fr2 s2 e fr' s')):J P G X H (.code c fr s e fr' s')
 | avD {c:Code} {fr fr2 fr':List AV} {s s2 s':AS} {e:AX} (hw:∀cx w vs,St G cx w s->CH cx w fr vs->∃cx2,Ext cx w cx2 w/\St G cx2 w s2/\CH cx2 w fr2 vs) (h:J P G X H (.loop c fr2 s2 e fr' s')):J P G X H (.loop c fr s e fr' s')
 | scope {c:Code} {fr fr2 fr':List AV} {s s2 s':AS} {e:AX} (h:J P G X H (.code c fr s e fr' s')) (he:∀v,e≠.pan v) (hs:∀cx w c' w' vs,Ext cx w c' w'->St G cx w s->St G c' w' s'->CH c' w' fr' vs->∃c2,Ext cx w c2 w'/\St G c2 w' s2/\CH c2 w' fr2 vs):J P G X H (.code c fr s e fr2 s2)
 | axJ {f g:FuncId} {args XZ:List AV} {k:CR->Option CR} {s s':AS} {r r':CR} (hh:H f args=some (g,XZ,k)) (h:J P G X H (.call g XZ s r s')) (hk:k r=some r'):J P G X H (.call f args s r' s')
 | sem {c:Code} {fr fr':List AV} {s s':AS} {e:AX} (h:P.follows .mixedOrders=true->Sound P G (.code c fr s e fr' s')):J P G X H (.code c fr s e fr' s')
def Ng{ops:Array Oper}{fr:List AV}{o:Oper}{c:Cx}{w:World}{tmps:Array Value}(h:∀j want,o.guard=some (j,want)->∀d,(ops[j]?).bind (·.dst)=some d->∃M,CH c w M tmps.toList/\M[d]?=fr[d]?):Cy ops fr o=Region.wanted o (yielded ops tmps):=by
 unfold Cy Region.wanted;cases hg:o.guard with
 | none=>rfl
 | some p =>
   obtain⟨j,want⟩:=p;simp only;unfold yielded;cases hd:(ops[j]?).bind (·.dst) with
   | none=>simp
   | some d =>
     obtain⟨M,hM,he⟩:=h j want hg d hd;simp only[Option.bind_some];rw[<- he];cases hm:M[d]? with
     | none =>
       have hl:=hM.len;have h1:=List.getElem?_eq_none_iff.1 hm;have h2:tmps[d]?=none:=Array.getElem?_eq_none (by rw[<- Array.length_toList];omega);simp[h2]
     | some b =>
       obtain⟨u,hu,hr⟩:=hM.get hm;rw[Array.getElem?_toList] at hu;rw[hu];cases hr with
       | sc hs=>cases u<;>simp
       | any hs=>cases u<;>first | (simp[WQ] at hs;done) | simp
       | _=>simp
def yL(tmps:Array Value):ResultVar->Sem Value
 | .tmp t=>pure (tmps.getD t undef)
 | .cell a t=>do loadVar t (<- asAddr (tmps.getD a undef))
def TN(fn:Func)(tmps:Array Value):results fn tmps=(do
 let vs <- fn.results.mapM (yL tmps)
 pure (if h:vs.size=1 then vs[0] else .tuple vs)):=by
 unfold results;congr 2
def gF{P:Program}{G:A8}{c:Cx}{w:World}{s:AS}{fr:List AV}{tmps:Array Value}(hs:St G c w s)(hf:CH c w fr tmps.toList){r:ResultVar}{v:AV}(h:Rj P s fr r=some v) :
   ∃u,(yL tmps r).run P w=.ok u w/\Rp c w v u:=by
 have ht:∀t,Rp c w (fr.getD t (.sc undef)) (tmps.getD t undef):=λt=>Ew (G:=G) (s:=s) (a:=⟨tmps,[]⟩) (x:=.tmp t) hs hf rfl;cases r with
 | tmp t=>simp only[Rj,Option.some.injEq] at h;subst h;exact⟨_,rfl,ht t⟩
 | cell t ty =>
   obtain⟨u,h1,h2⟩:=fY hs h (ht t);refine⟨u,?_,h2⟩;have hr:=ht t;simp only[Instr.loadAt,Sem.run_bind] at h1;simp only[yL,Sem.run_bind];generalize tmps.getD t undef=x at hr h1;simp only[Rj] at h;unfold Jq at h;split at h;rename_i O6;rw[O6] at hr;cases hr;simpa[asAddr,Instr.sureAddr] using h1
   rename_i O6;rw[O6] at hr;cases hr;simpa[asAddr,Instr.sureAddr] using h1
   cases h
def gG{P:Program}{G:A8}{c:Cx}{w:World}{s:AS}{fr:List AV}{tmps:Array Value}(hs:St G c w s)(hf:CH c w fr tmps.toList)(rs:List ResultVar){vs:List AV}(h:Nf P s fr rs=some vs) :
   ∃us,(rs.mapM (yL tmps)).run P w=.ok us w/\CH c w vs us:=by
 induction rs generalizing vs with
 | nil=>simp[Nf] at h;subst h;exact⟨[],rfl,.nil⟩
 | cons r rs ih =>
   simp only[Nf] at h;split at h;rename_i a as h1 h2;cases h;obtain⟨u,hu,hr⟩:=gF hs hf h1;obtain⟨us,hus,hrs⟩:=ih h2;refine⟨u::us,?_,.cons hr hrs⟩;rw[List.mapM_cons];simp only[Sem.run_bind,hu,Result.andThen_ok,hus,Sem.run_pure];cases h
def Rk{P:Program}{G:A8}{c:Cx}{w:World}{s:AS}{fr:List AV}{tmps:Array Value}{fn:Func}{v:AV}(hs:St G c w s)(hf:CH c w fr tmps.toList)(h:GB P s fn fr=some v):∃u,(results fn tmps).run P w=.ok u w/\Rp c w v u:=by
 unfold GB at h;cases hl:Nf P s fr fn.results.toList with
 | none=>rw[hl] at h;cases h
 | some as =>
   rw[hl] at h;obtain⟨us,hus,hrs⟩:=gG hs hf _ hl;have hlen:=hrs.len
   have Q1:(results fn tmps).run P w=.ok (if h:us.toArray.size=1 then us.toArray[0] else .tuple us.toArray) w:=by
     rw[TN,Array.mapM_eq_mapM_toList];simp only[Sem.run_bind,Sem.run_map,hus,Result.andThen_ok,Sem.run_pure]
   rw[Q1];split at h;rename_i a O6;cases O6;cases h;cases hrs with
   | cons h1 t=>cases t;exact⟨_,rfl,h1⟩
   rename_i as' hne O6;cases O6;cases h
   have:¬us.toArray.size=1:=by
     intro h1;simp at h1;obtain⟨a,ha⟩:=List.length_eq_one_iff.1 (hlen.symm.trans h1);exact hne a ha
   rw[dif_neg this];exact⟨_,rfl,.Dd hrs⟩;rename_i O6;cases O6
end AI
namespace AI
open Go Go.RowKit
def ZU(L:Nat->Bool):Nat->Nat
 | 0=>0
 | n+1=>ZU L n+if L n then 0 else 1
def gQ{L:Nat->Bool}:∀(n:Nat),ZU L n=0->∀i,i < n->L i=true:=by
 intro n
 induction n with
 | zero=>intro _ i hi;omega
 | succ n ih =>
   intro h i hi;simp only[ZU] at h;by_cases hn:i=n;subst hn;by_cases hL:L i=true;exact hL;simp[hL] at h;exact ih (by omega) i (by omega)
def rO{L M:Nat->Bool}{i:Nat}(h0:L i=false)(h1:M i=true)(hne:∀j,j≠i->M j=L j):∀(n:Nat),(i < n->ZU L n=ZU M n+1)/\(n<=i->ZU L n=ZU M n):=by
 intro n
 induction n with
 | zero=>exact⟨λh=>by omega,λ_=>rfl⟩
 | succ n ih =>
   refine⟨λh=>?_,λh=>?_⟩;simp only[ZU];by_cases hn:n=i;subst hn;rw[ih.2 (Nat.le_refl _),h0,h1];simp;rw[ih.1 (by omega),hne n hn];omega;simp only[ZU];rw[ih.2 (by omega),hne n (by omega)]
def qQ{ops:Array Oper}{MG:Nat->AS}(hq:∀i o,ops[i]?=some o->calm o.op=true->MG (i+1)=MG i){x:Nat}:∀(y:Nat),x<=y->y<=ops.size->(∀m,x<=m->m < y->¬Yo ops m)->MG x=MG y:=by
 intro y
 induction y with
 | zero=>intro h _ _;have:x=0:=by omega
         subst this;rfl
 | succ y ih =>
   intro h hn hl;by_cases e:x=y+1;subst e;rfl;rw[ih (by omega) (by omega) (λm h1 h2=>hl m h1 (by omega))];have ho:ops[y]?=some (ops[y]'(by omega)):=Array.getElem?_eq_getElem (by omega);have hy:=hl y (by omega) (by omega);refine(hq y _ ho ?_).symm;cases hqq:calm (ops[y]'(by omega)).op with
   | true=>rfl
   | false=>exact absurd ⟨_,ho,hqq⟩ hy
def mem_ready{ops:Array Oper}{L:Array Bool}(hsz:L.size=ops.size){i:Nat}(h:i∈Region.ready .any ops L):∃o,ops[i]?=some o/\L.getD i false=false/\Met (λj=>L.getD j false) o/\i < ops.size:=by
 unfold Region.ready at h;rw[List.mem_filter,List.mem_range,Bool.and_eq_true] at h;obtain⟨h1,h2,h3⟩:=h;have ho:ops[i]?=some (ops[i]'h1):=Array.getElem?_eq_getElem h1;refine⟨_,ho,?_,λe he hb=>?_,h1⟩;have:i < L.size:=by omega
 simpa[this] using h2
 rw[ho] at h3;simp only[Option.map_some,Option.getD_some] at h3;rw[Array.all_eq_true_iff_forall_mem] at h3;have:=h3 e he;rw[hb] at this;simpa using this
def kJ{ops:Array Oper}{L:Array Bool}(hsz:L.size=ops.size){i:Nat}{o:Oper}(ho:ops[i]?=some o)(hL:L.getD i false=false)(hm:Met (λj=>L.getD j false) o):i∈Region.ready .any ops L:=by
 have h1:=(Array.getElem?_eq_some_iff.1 ho).1;unfold Region.ready;rw[List.mem_filter,List.mem_range,Bool.and_eq_true];refine⟨h1,?_,?_⟩;have:i < L.size:=by omega
 simpa[this] using hL
 rw[ho];simp only[Option.map_some,Option.getD_some];rw[Array.all_eq_true_iff_forall_mem];intro e he;by_cases hb:Region.binds .any e=true;have:=hm e he hb;rw[hb];simpa using this
 simp[hb]
section
variable {P:Program} {G:A8} {ops:Array Oper} {f0:List AV} {vals:Nat->AV} {MG:Nat->AS}
structure Inv(G:A8)(ops:Array Oper)(f0:List AV)(vals:Nat->AV)(MG:Nat->AS)(mN:Cx)(w0:World)(nh:Nat)(L:Array Bool)(a:Act)(w:World):Prop where
 size:L.size=ops.size
 closed:Nc ops.toList (λj=>L.getD j false)
 st:∃c k,k<=ops.size/\(∀l,Yo ops l->(L.getD l false=true↔l < k))/\Ext mN w0 c w/\St G c w (MG k)/\CH c w (Iz f0 (Cm ops) vals (λj=>L.getD j false) ops.size) a.tmps.toList /\
   ∀j y,ops[j]?=some y->B2 y.op=true->L.getD j false=false->rk ops j < nh->c.CT[mN.CT.length+rk ops j]?=some none
 defers:a.defers=[]
def looks{x y:Oper}{t:Nat}(hx:x.dst=some t)(hy:t∈y.looksAt ops):Pg ops x y=true:=by
 simp[Pg,hx,hy]
def ayS{x y:Oper}{t:Nat}(hx:t∈x.looksAt ops)(hy:y.dst=some t):Pg ops x y=true:=by
 simp[Pg,hx,hy]
def aFM{x y:Oper}{t:Nat}(hx:x.dst=some t)(hy:y.dst=some t):Pg ops x y=true:=by
 simp[Pg,hx,hy]
def tI{x y:Oper}(hx:calm x.op=false)(hy:calm y.op=false):Pg ops x y=true:=by
 simp[Pg,hx,hy]
def Cj{i:Nat}{o:Oper}(h:ops[i]?=some o):ops.toList[i]?=some o:=by rw[Array.getElem?_toList];exact h
def Vg{L:Nat->Bool}(Hv:L2 ops=true)(hc:Nc ops.toList L){i j:Nat}{x y:Oper}(hx:ops[i]?=some x)(hy:ops[j]?=some y)(hm:Met L y)(hlt:i < j)(Iy:Pg ops x y=true):L i=true :=
 XO hc (Cj hy) hm (aF Hv hx hy hlt Iy)
def P1{L:Nat->Bool}(Hv:L2 ops=true)(hc:Nc ops.toList L){i j:Nat}{x y:Oper}(hx:ops[i]?=some x)(hy:ops[j]?=some y)(hL:L i=false)(hlt:i < j)(Iy:Pg ops x y=true):L j=false:=by
 cases h:L j with
 | false=>rfl
 | true =>
   have:=XO hc (Cj hy) (hc j y (Cj hy) h) (aF Hv hx hy hlt Iy);rw[hL] at this;cases this
def nP{i t:Nat}(h:Cm ops i=some t):∃o,ops[i]?=some o/\o.dst=some t:=by
 unfold Cm at h;cases ho:ops[i]? with
 | none=>rw[ho] at h;cases h
 | some o=>rw[ho] at h;exact⟨o,rfl,by simpa using h⟩
def R9{L:Nat->Bool}(Hv:L2 ops=true)(hc:Nc ops.toList L){i:Nat}{o:Oper}(ho:ops[i]?=some o)(hL:L i=false)(hm:Met L o){t:Nat}(ht:t∈o.looksAt ops) :
   (Iz f0 (Cm ops) vals L ops.size)[t]?=(Iz f0 (Cm ops) vals (λ_=>true) i)[t]?:=by
 have hi:=(Array.getElem?_eq_some_iff.1 ho).1;rw[rZ (j:=i) ops.size (by omega)];refine XX i (λj hj hd=>?_);obtain⟨x,hx,hxd⟩:=nP hd;exact Vg Hv hc hx ho hm hj (looks hxd ht);intro j hj _ hd;by_cases e:j=i;subst e;exact hL;obtain⟨y,hy,hyd⟩:=nP hd;exact P1 Hv hc ho hy hL (by omega) (ayS ht hyd)
def sA{L M:Nat->Bool}(Hv:L2 ops=true)(hc:Nc ops.toList L){i:Nat}{o:Oper}(ho:ops[i]?=some o)(hL:L i=false)(hM:M i=true)(hne:∀j,j≠i->M j=L j) :
   Iz f0 (Cm ops) vals M ops.size=IJ (Iz f0 (Cm ops) vals L ops.size) o.dst (vals i):=by
 have hi:=(Array.getElem?_eq_some_iff.1 ho).1;have hdi:Cm ops i=o.dst:=by unfold Cm;rw[ho];rfl
 apply List.ext_getElem?;intro t;by_cases hd:o.dst=some t;rw[rZ (j:=i+1) ops.size (by omega)];simp only[Iz,hM,if_true,hdi,hd];rw[Oc,Oc,WV,WV];intro j hj _ hdj;obtain⟨y,hy,hyd⟩:=nP hdj;rw[hne j (by omega)];exact P1 Hv hc ho hy hL (by omega) (aFM hd hyd);rw[Ri hd];refine XX ops.size (λj _ hdj=>hne j (λe=>hd ?_));rw[<- hdi,<- e];exact hdj
def Ext.awR{c:Cx}{w:World}{c':Cx}{w':World}(h:Ext c w c' w'){id:Nat}{y:Option Nat}(e:c.CT[id]?=some y):c'.CT[id]?=some y:=by
 obtain⟨t,ht⟩:=h.CT;rw[<- ht,List.getElem?_append_left (List.getElem?_eq_some_iff.1 e).1];exact e
def acH{nh:Nat}(Hv:L2 ops=true)
   (hl:∀i o,ops[i]?=some o->calm o.op=false->Sound P G (.op ops o (Iz f0 (Cm ops) vals (λ_=>true) i) (MG i) (.ret (vals i)) (MG (i+1))))
   (hq:∀i o,ops[i]?=some o->quiet o.op=true->MG (i+1)=MG i/\((Cy ops (Iz f0 (Cm ops) vals (λ_=>true) i) o=false/\vals i=.sc undef)\/(Cy ops (Iz f0 (Cm ops) vals (λ_=>true) i) o=true/\∀k,k<=ops.size->Win ops i k->PU P G (Iz f0 (Cm ops) vals (λ_=>true) i) (MG k) o=some (.val (vals i) (MG k)))))
   (mN:Cx) (w0:World)
   (ha:∀i o e,ops[i]?=some o->o.op=.alloc e->MG (i+1)=MG i/\((Cy ops (Iz f0 (Cm ops) vals (λ_=>true) i) o=false/\vals i=.sc undef)\/(Cy ops (Iz f0 (Cm ops) vals (λ_=>true) i) o=true/\∃z,LY P e=some z/\rk ops i < nh/\vals i=.ptr (mN.CT.length+rk ops i) 0/\∀k,k<=ops.size->Win ops i k->(MG k).get (mN.CT.length+rk ops i)=some (.cells (cellsOf z)))))
   (Q:Exit->Act->World->Prop) (hQ:∀e' a' w',SQ G mN w0 .normal (Iz f0 (Cm ops) vals (λ_=>true) ops.size) (MG ops.size) e' a' w'->Q e' a' w') :
   ∀(fuel:Nat) (L:Array Bool) (a:Act) (w:World),Inv G ops f0 vals MG mN w0 nh L a w->ZU (λj=>L.getD j false) ops.size=fuel->wpAny P .any ops Q fuel L a w:=by
 have hqs:∀i o,ops[i]?=some o->calm o.op=true->MG (i+1)=MG i:=λi o h1 h2=>by
   rcases XK h2 with h2 | ⟨e,h2⟩
   exact(hq i o h1 h2).1;exact(ha i o e h1 h2).1
 have fin:∀(L:Array Bool) (a:Act) (w:World),Inv G ops f0 vals MG mN w0 nh L a w->(∀i,i < ops.size->L.getD i false=true)->Q .normal a w:=by
   intro L a w hI I2;obtain⟨c,k,hk,WX,hx,FW,hfr,_⟩:=hI.st;have aLM:MG k=MG ops.size:=qQ hqs ops.size hk (Nat.le_refl _) (λm h1 h2 hm=>by have:=(WX m hm).1 (I2 m h2);omega);rw[aLM] at FW;refine hQ _ _ _ ⟨c,hx,FW,hI.defers,rfl,?_⟩
   have:Iz f0 (Cm ops) vals (λj=>L.getD j false) ops.size=Iz f0 (Cm ops) vals (λ_=>true) ops.size:=by
     apply List.ext_getElem?;intro t;exact XX ops.size (λi hi _=>I2 i hi)
   rw[<- this];exact hfr
 intro fuel
 induction fuel with
 | zero =>
   intro L a w hI hc;have I2:=gQ ops.size hc;refine⟨?_,fin L a w hI I2⟩;apply List.eq_nil_iff_forall_not_mem.2;intro i hi;obtain⟨o,ho,h1,_,hlt⟩:=mem_ready hI.size hi;have:=I2 i hlt;rw[h1] at this;cases this
 | succ fuel ih =>
   intro L a w hI aKK;refine⟨λcU=>fin L a w hI (λi=>?_),λi hi=>?_⟩
   · induction i using Nat.strongRecOn with
     | _ i ihi =>
       intro hlt;cases fL:L.getD i false with
       | true=>rfl
       | false =>
         exfalso;have ho:ops[i]?=some (ops[i]'hlt):=Array.getElem?_eq_getElem hlt
         have:=kJ hI.size ho fL (λe he hb=>by
           have h1:=jV Hv ho he hb;exact ihi e.on h1 (by omega))
         rw[cU] at this;cases this
   · obtain⟨o,ho,fL,Yc,hlt⟩:=mem_ready hI.size hi
     obtain⟨c,k,hk,WX,hx,FW,hfr,oG⟩:=hI.st
     have hMi:(L.setIfInBounds i true).getD i false=true:=by
       have:i < L.size:=by rw[hI.size];exact hlt
       simp[this]
     have sK:∀j,j≠i->(L.setIfInBounds i true).getD j false=L.getD j false:=by
       intro j hj;simp only[Array.getD_eq_getD_getElem?];rw[Array.getElem?_setIfInBounds_ne (λe=>hj e.symm)]
     have hle:∀j,L.getD j false=true->(L.setIfInBounds i true).getD j false=true:=by
       intro j hj;by_cases e:j=i;subst e;exact hMi;rw[sK j e];exact hj
     have X8:Nc ops.toList (λj=>(L.setIfInBounds i true).getD j false):=by
       intro j y hy hj e he hb;by_cases ej:j=i;subst ej;rw[Cj ho] at hy;cases hy;exact hle _ (Yc e he hb);have hj2:L.getD j false=true:=by rw[<- sK j ej];exact hj
       exact hle _ (hI.closed j y hy hj2 e he hb)
     have aeB:ZU (λj=>(L.setIfInBounds i true).getD j false) ops.size=fuel:=by
       have:=(rO (L:=λj=>L.getD j false) (M:=λj=>(L.setIfInBounds i true).getD j false) fL hMi sK ops.size).1 hlt;omega
     have Zp:=sA (f0:=f0) (vals:=vals) (L:=λj=>L.getD j false) (M:=λj=>(L.setIfInBounds i true).getD j false) Hv hI.closed ho fL hMi sK
     have auW:∀(k':Nat) (u:Value) (w':World) (c':Cx),k'<=ops.size->(∀l,Yo ops l->((L.setIfInBounds i true).getD l false=true↔l < k'))->Ext mN w0 c' w'->Mon c w c' w' ->
         (∀j y,ops[j]?=some y->B2 y.op=true->(L.setIfInBounds i true).getD j false=false->rk ops j < nh->c'.CT[mN.CT.length+rk ops j]?=some none)->St G c' w' (MG k')->Rp c' w' (vals i) u->wpAny P .any ops Q fuel (L.setIfInBounds i true) (a.put o.dst u) w':=by
       intro k' u w' c' hk' cT Tv hm' hh' Mq hu;refine ih _ _ _ ⟨by simp[hI.size],X8,⟨c',k',hk',cT,Tv,Mq,?_,hh'⟩,by cases o.dst<;>exact hI.defers⟩ aeB
       rw[Zp];exact Od (hfr.Dt hm') hu
     have step:∀(k':Nat) (u:Value) (w':World) (c':Cx),k'<=ops.size->(∀l,Yo ops l->((L.setIfInBounds i true).getD l false=true↔l < k'))->Ext c w c' w'->St G c' w' (MG k')->Rp c' w' (vals i) u->wpAny P .any ops Q fuel (L.setIfInBounds i true) (a.put o.dst u) w':=by
       intro k' u w' c' hk' cT Tv Mq hu;refine auW k' u w' c' hk' cT (hx.trans Tv) Tv.mon (λj y hy dB hj hjn=>?_) Mq hu;have hji:j≠i:=λe=>by subst e;rw[hMi] at hj;cases hj
       rw[sK j hji] at hj;exact Tv.awR (oG j y hy dB hj hjn)
     have iW:∀x∈o.op.operands,Zi G c w (Iz f0 (Cm ops) vals (λ_=>true) i) a.eval x:=by
       intro x hxo v hv;cases x with
       | tmp t =>
         have aeG:t∈o.looksAt ops:=by
           unfold Oper.looksAt;rw[List.mem_append];left;rw[List.mem_filterMap];exact⟨.tmp t,Array.mem_toList_iff.2 hxo,rfl⟩
         have he:=R9 (f0:=f0) (vals:=vals) Hv hI.closed ho fL Yc aeG
         have:Ba G (Iz f0 (Cm ops) vals (λj=>L.getD j false) ops.size) (.tmp t)=some v:=by
           rw[<- hv];simp only[Ba,List.getD_eq_getElem?_getD,he]
         exact Ew FW hfr this
       | const z=>exact Ew (fr:=Iz f0 (Cm ops) vals (λj=>L.getD j false) ops.size) FW hfr hv
       | global g=>exact Ew (fr:=Iz f0 (Cm ops) vals (λj=>L.getD j false) ops.size) FW hfr hv
       | func f=>exact Ew (fr:=Iz f0 (Cm ops) vals (λj=>L.getD j false) ops.size) FW hfr hv
     have Wa:Cy ops (Iz f0 (Cm ops) vals (λ_=>true) i) o=Region.wanted o (yielded ops a.tmps):=by
       refine Ng (c:=c) (w:=w) (λj want hg d hd=>⟨_,hfr,?_⟩);refine R9 Hv hI.closed ho fL Yc ?_;unfold Oper.looksAt;rw[List.mem_append];right;rw[hg];simp[hd]
     have cO:Mk P ops o (wpAny P .any ops Q fuel (L.setIfInBounds i true)) Q a w->wpOp P ops Q i (wpAny P .any ops Q fuel (L.setIfInBounds i true)) a w:=by
       intro h;unfold wpOp;rw[ho];unfold Mk at h;simp only;split;rename_i hw;rw[if_pos hw] at h;exact .inl h;rename_i hw;rw[if_neg hw] at h;exact h
     refine cO ?_;cases hqo:calm o.op with
     | false =>
       have hki:MG k=MG i:=by
         rcases Nat.le_total k i with axI | axI
         exact qQ hqs i axI (by omega) (λm h1 h2 hm=>by
           obtain⟨y,hy,sY⟩:=hm;have:=Vg Hv hI.closed hy ho Yc h2 (tI sY hqo);have:=(WX m ⟨y,hy,sY⟩).1 this;omega)
         exact(qQ hqs k axI hk (λm h1 h2 hm=>by
           obtain⟨y,hy,sY⟩:=hm;have hLm:=(WX m ⟨y,hy,sY⟩).2 h2;by_cases e:m=i;subst e;rw[fL] at hLm;cases hLm;have:=P1 Hv hI.closed ho hy fL (by omega) (tI hqo sY);rw[this] at hLm;cases hLm)).symm
       rw[hki] at FW;refine hl i o ho hqo c w a _ _ FW iW Wa ?_;intro u w' c' Tv Mq hu;refine step (i+1) u w' c' (by omega) (λl hl'=>?_) Tv Mq hu;by_cases e:l=i;subst e;rw[hMi];simp;rw[sK l e,WX l hl'];obtain⟨y,hy,sY⟩:=hl';constructor;intro hlt';have hLl:=(WX l ⟨y,hy,sY⟩).2 hlt';rcases Nat.lt_or_ge l i with h1 | h1
       omega;have:=P1 Hv hI.closed ho hy fL (by omega) (tI hqo sY);rw[this] at hLl;cases hLl;intro hlt';have:=Vg Hv hI.closed hy ho Yc (by omega) (tI sY hqo);exact(WX l ⟨y,hy,sY⟩).1 this
     | true =>
       have cT:∀l,Yo ops l->((L.setIfInBounds i true).getD l false=true↔l < k):=by
         intro l hl'
         have hne:l≠i:=by
           intro e;subst e;obtain⟨y,hy,sY⟩:=hl';rw[ho] at hy;cases hy;rw[hqo] at sY;cases sY
         rw[sK l hne];exact WX l hl'
       have Zs:Win ops i k:=by
         refine⟨λl hl' hd=>?_,λl hl' hd=>?_⟩;exact(WX l hl').1 (XO hI.closed (Cj ho) Yc hd);rcases Nat.lt_or_ge l k with h1 | h1
         exfalso;have hLl:=(WX l hl').2 h1;obtain⟨y,hy,sY⟩:=hl';have:=XO hI.closed (Cj hy) (hI.closed l y (Cj hy) hLl) hd;rw[fL] at this;cases this;exact h1
       unfold Mk;rcases XK hqo with hqo | ⟨e,hoe⟩
       obtain⟨_,S4⟩:=hq i o ho hqo;rcases S4 with ⟨hw,hv⟩ | ⟨hw,hv⟩
       rw[<- Wa,hw];simp only[Bool.false_eq_true,if_false];exact step k undef w c hk cT (Ext.refl c w) FW (by rw[hv];exact .sc rfl);rw[<- Wa,hw];simp only[if_true];have aDA:=bQ FW iW (λ_=>rfl) (hv k hk Zs);obtain⟨u,w',c',hr,Tv,Mq,hu⟩:=aDA;unfold Oper.wp;rcases hr with hr | ⟨hr,rfl⟩
       rw[hr];exact step k u w' c' hk cT Tv Mq hu;rw[hr];exact step k undef w' c' hk cT Tv Mq hu;obtain⟨_,S4⟩:=ha i o e ho hoe;rcases S4 with ⟨hw,hv⟩ | ⟨hw,z,hz,hrk,hv,aDB⟩
       rw[<- Wa,hw];simp only[Bool.false_eq_true,if_false];exact step k undef w c hk cT (Ext.refl c w) FW (by rw[hv];exact .sc rfl);rw[<- Wa,hw];simp only[if_true];have hia:B2 o.op=true:=by rw[hoe];rfl
       obtain⟨u,w',c',hr,hm',Mq,hu,aKP,aLI⟩:=nA (ρ:=a.eval) FW hoe hz (oG i o ho hia fL hrk) (aDB k hk Zs);unfold Oper.wp;rw[hr];refine auW k u w' c' hk cT (aKP mN w0 hx (by omega)) hm' (λj y hy dB hj hjn=>?_) Mq (by rw[hv];exact hu);have hji:j≠i:=λe=>by subst e;rw[hMi] at hj;cases hj
       rw[sK j hji] at hj;have hne:rk ops j≠rk ops i:=λe=>hji (azU hy ho dB hia e);rw[aLI _ (by omega)];exact oG j y hy dB hj hjn
end
end AI
namespace AI
open Go Go.RowKit
def dS{G:A8}{c:Cx}{w:World}{s:AS}{fr:List AV}{a:Act}(hs:St G c w s)(hf:CH c w fr a.tmps.toList)(x:Operand):Zi G c w fr a.eval x:=λ_ hv=>Ew hs hf hv
def LD{P:Program}{ops:Array Oper}{o:Oper}{i:Nat}{l:List Nat}{Q:Exit->Act->World->Prop}{a:Act}{w:World}(ho:ops[i]?=some o)(h:Mk P ops o (wpOps P ops Q l) Q a w):wpOps P ops Q (i::l) a w:=by
 unfold wpOps;rw[ho];unfold Mk at h;simp only;split;rename_i hw;rw[if_pos hw] at h;exact .inl h;rename_i hw;rw[if_neg hw] at h;exact h
def SQ.Px{G:A8}{c:Cx}{w:World}{e:AX}{fr':List AV}{s':AS}{e':Exit}{a':Act}{w':World}(h:SQ G c w e fr' s' e' a' w')(he:e≠.normal):e'≠.normal:=by
 obtain⟨c',_,_,_,h4⟩:=h;cases e with
 | normal=>exact absurd rfl he
 | exit id=>intro h5;rw[h4.1] at h5;cases h5
 | ret=>intro h5;rw[h4.1] at h5;cases h5
 | pan v=>obtain⟨u,h5,_⟩:=h4;intro h6;rw[h5] at h6;cases h6
def UM{K:Act->World->Prop}{Q:Exit->Act->World->Prop}{e:Exit}{a:Act}{w:World}(he:e≠.normal)(h:Q e a w):Exit.then K Q e a w:=by
 cases e<;>first | exact absurd rfl he | exact h
structure asY(P:Program)(G:A8)(X:Wq)(H:Tg):Prop where
 mixed:P.follows .mixedOrders=true
 ext:∀f args s r s',X f args s r s'->Sound P G (.call f args s r s')
 axJ:∀f args g XZ k,H f args=some (g,XZ,k)->∀s r s' r',Sound P G (.call g XZ s r s')->k r=some r'->Sound P G (.call f args s r' s')
def sound{P:Program}{G:A8}{X:Wq}{H:Tg}(hg:asY P G X H){jd:Jd}(h:J P G X H jd):Sound P G jd:=by
 induction h with
 | sem h=>exact h hg.mixed
 | Y7 hw _ ih=>intro cx w a Q hs hf hd hQ;obtain⟨c2,x,h1,h2⟩:=hw cx w _ hs hf;exact ih c2 w a Q h1 h2 hd (λe a w hp=>hQ e a w (hp.ext x))
 | avD hw _ ih=>obtain⟨n,ih⟩:=ih;exact⟨n,λcx w a Q hs hf hd hQ=>by obtain⟨c2,x,h1,h2⟩:=hw cx w _ hs hf;exact ih c2 w a Q h1 h2 hd (λe a w hp=>hQ e a w (hp.ext x))⟩
 | pQ _ _ hv ih =>
   intro cx w a K Q hs IS hwa hK;exact ih cx w a K Q hs IS hwa (λu w' c' x st hu=>hK u w' c' x st (hv _ _ _ hu))
 | dR _ _ hv ih =>
   intro cx w a K Q hs IS hwa hK;exact ih cx w a K Q hs IS hwa (λu w' c' x st hu=>hK u w' c' x (hv _ _ st) hu)
 | @scope c fr fr2 fr' s s2 s' e _ he hsc ih =>
   intro cx w a Q hs hf hd hQ;refine ih cx w a Q hs hf hd ?_;rintro e' a' w' ⟨c',hx,hs',QZ,h4⟩;cases e with
   | normal=>obtain⟨rfl,h5⟩:=h4;obtain⟨c2,x2,T8,f2⟩:=hsc cx w c' w' _ hx hs hs' h5;exact hQ _ _ _ ⟨c2,x2,T8,QZ,rfl,f2⟩
   | exit id=>obtain⟨rfl,h5⟩:=h4;obtain⟨c2,x2,T8,f2⟩:=hsc cx w c' w' _ hx hs hs' h5;exact hQ _ _ _ ⟨c2,x2,T8,QZ,rfl,f2⟩
   | ret=>obtain⟨rfl,h5⟩:=h4;obtain⟨c2,x2,T8,f2⟩:=hsc cx w c' w' _ hx hs hs' h5;exact hQ _ _ _ ⟨c2,x2,T8,QZ,rfl,f2⟩
   | pan v=>exact absurd rfl (he v)
 | skip=>intro cx w a Q hs hf hd hQ;exact wp_skip (hQ _ _ _ ⟨cx,Ext.refl _ _,hs,hd,rfl,hf⟩)
 | exit=>intro cx w a Q hs hf hd hQ;exact wp_exit (hQ _ _ _ ⟨cx,Ext.refl _ _,hs,hd,rfl,hf⟩)
 | ret=>intro cx w a Q hs hf hd hQ;exact wp_ret (hQ _ _ _ ⟨cx,Ext.refl _ _,hs,hd,rfl,hf⟩)
 | seq _ _ jA oR =>
   intro cx w a Q hs hf hd hQ;refine wp_seq (jA cx w a _ hs hf hd ?_);rintro e' a' w' ⟨c',hx,hs',QZ,rfl,iR⟩;exact oR c' w' a' Q hs' iR QZ (λe2 a2 w2 h2=>hQ e2 a2 w2 (h2.ext hx))
 | qM _ he jA =>
   intro cx w a Q hs hf hd hQ;refine wp_seq (jA cx w a _ hs hf hd ?_);intro e' a' w' hp;exact UM (hp.Px he) (hQ _ _ _ hp)
 | @cond q x y t fr fr' s s' e hq _ ih =>
   intro cx w a Q hs hf hd hQ;have hr:=Ew hs hf hq
   have IS:a.eval q=.bool t:=by
     generalize a.eval q=v at hr;cases hr;rfl
   exact wp_cond IS (ih cx w a Q hs hf hd hQ)
 | @block id c fr fr' s s' e _ ih =>
   intro cx w a Q hs hf hd hQ;refine wp_block (ih cx w a _ hs hf hd ?_);rintro e' a' w' ⟨c',hx,hs',QZ,h4⟩;cases e with
   | normal=>obtain⟨rfl,h5⟩:=h4;exact hQ _ _ _ ⟨c',hx,hs',QZ,rfl,h5⟩
   | exit QK =>
     obtain⟨rfl,h5⟩:=h4;show if QK=id then Q .normal a' w' else Q (.exit QK) a' w'
     by_cases hid:QK=id;rw[if_pos hid];refine hQ _ _ _ ⟨c',hx,hs',QZ,?_⟩;simp only[D8,hid,if_true];exact⟨trivial,h5⟩;rw[if_neg hid];refine hQ _ _ _ ⟨c',hx,hs',QZ,?_⟩;simp only[D8,hid,if_false];exact⟨trivial,h5⟩
   | ret=>obtain⟨rfl,h5⟩:=h4;exact hQ _ _ _ ⟨c',hx,hs',QZ,rfl,h5⟩
   | pan v=>obtain⟨u,rfl,h5⟩:=h4;exact hQ _ _ _ ⟨c',hx,hs',QZ,u,rfl,h5⟩
 | loop _ ih =>
   intro cx w a Q hs hf hd hQ;obtain⟨n,hn⟩:=ih;exact wp_loop_rounds n (hn cx w a Q hs hf hd hQ)
 | loopN _ _ jA oR =>
   obtain⟨n,hn⟩:=oR;refine⟨n+1,?_⟩;intro cx w a Q hs hf hd hQ;rw[rounds_succ];refine jA cx w a _ hs hf hd ?_;rintro e' a' w' ⟨c',hx,hs',QZ,rfl,iR⟩;exact hn c' w' a' Q hs' iR QZ (λe2 a2 w2 h2=>hQ e2 a2 w2 (h2.ext hx))
 | loopX _ he jA =>
   refine⟨1,?_⟩;intro cx w a Q hs hf hd hQ;rw[rounds_succ];refine jA cx w a _ hs hf hd ?_;intro e' a' w' hp;exact UM (hp.Px he) (hQ _ _ _ hp)
 | region _ ih =>
   intro cx w a Q hs hf hd hQ;exact wp_region (ih cx w a Q hs hf hd hQ)
 | agJ=>intro cx w a Q hs hf hd hQ;exact hQ _ _ _ ⟨cx,Ext.refl _ _,hs,hd,rfl,hf⟩
 | @tX ops i l o v fr fr' s s1 s' e ho _ _ jA oR =>
   intro cx w a Q hs hf hd hQ;refine LD ho (jA cx w a _ _ hs (λx _=>dS hs hf x) (Ng (c:=cx) (w:=w) (λ_ _ _ _ _=>⟨fr,hf,rfl⟩)) ?_);intro u w' c' hx hs' hu;exact oR c' w' (a.put o.dst u) Q hs' (Od (hf.mono hx) hu) (by cases o.dst<;>exact hd) (λe2 a2 w2 h2=>hQ e2 a2 w2 (h2.ext hx))
 | @agK ops i l o v fr s s1 ho _ jA =>
   intro cx w a Q hs hf hd hQ;refine LD ho (jA cx w a _ _ hs (λx _=>dS hs hf x) (Ng (c:=cx) (w:=w) (λ_ _ _ _ _=>⟨fr,hf,rfl⟩)) ?_);intro u w' c' hx hs' hu;exact hQ _ _ _ ⟨c',hx,hs',hd,u,rfl,hu⟩
 | @NB ops o fr s s' v hw h =>
   intro cx w a K Q hs IS hwa hK;unfold Mk;rw[<- hwa,hw];simp only[if_true];obtain⟨u,w',c',hr,hx,hs',hu⟩:=bQ hs IS (λ_=>rfl) h;unfold Oper.wp;rcases hr with hr | ⟨hr,rfl⟩
   rw[hr];exact hK u w' c' hx hs' hu;rw[hr];exact hK undef w' c' hx hs' hu
 | @agI ops o fr s s' cl x y t tx a b v hw ho Iy hxs DT ha hb h =>
   intro cx w ac K Q hs IS hwa hK;unfold Mk;rw[<- hwa,hw];simp only[if_true];have e1:cl.args=#[x,y]:=by apply Array.ext';rw[hxs]
   have e2:cl.argTypes=#[t,tx]:=by apply Array.ext';rw[DT]
   have iU:∀z∈[x,y],z∈o.op.operands:=λz hz=>by rw[ho];simp only[Op.operands,Call.operands,e1,Array.mem_append];exact .inr (by simpa using hz)
   obtain⟨u,w',c',hr,hx,hs',hu⟩:=h cx w _ _ o.type hs (IS x (iU x (by simp)) a ha) (IS y (iU y (by simp)) b hb);unfold Oper.wp
   have hr2:(execOp ac.eval o).run P w=.ok (.value u) w':=by
     simp[execOp,ho,resolve,Iy,e1,e2,invoke,builtin,hr]
   rw[hr2];exact hK u w' c' hx hs' hu
 | @pP ops o fr s hw =>
   intro cx w a K Q hs IS hwa hK;unfold Mk;rw[<- hwa,hw];simp only[Bool.false_eq_true,if_false];exact hK undef w cx (Ext.refl _ _) hs (.sc rfl)
 | @RN ops o fr s s' f args r hw h _ ih =>
   intro cx w a K Q hs IS hwa hK;unfold Mk;rw[<- hwa,hw];simp only[if_true];obtain⟨vs,hr,GD⟩:=bQ hs IS (λ_=>rfl) h;unfold Oper.wp;rw[hr];refine(ih cx w vs hs GD).mono ?_;rintro e w' ⟨c',hx,hs',h4⟩;cases r with
   | ret v=>obtain⟨u,rfl,hu⟩:=h4;exact hK u w' c' hx hs' hu
   | pan v=>obtain⟨u,rfl,hu⟩:=h4;exact hK u w' c' hx hs' hu
 | @auJ ops o fr s v hw h =>
   intro cx w a K Q hs IS hwa hK;unfold Mk;rw[<- hwa,hw];simp only[if_true];obtain⟨u,hr,hu⟩:=bQ hs IS (λ_=>rfl) h;unfold Oper.wp;rw[hr];exact hK u w cx (Ext.refl _ _) hs hu
 | @draw id ops f0 s0 rs vals MG h0 Hv hl hq ha ihl =>
   intro cx w a Q hs hf hd hQ;refine wp_region_any hg.mixed ?_;obtain⟨x,st⟩:=hs.same (gK w);obtain⟨c2,x2,T8,RC⟩:=st.holds rs;rw[<- h0] at T8;rw[hs.len] at ha;refine acH (nh:=rs.length) Hv ihl hq cx w ha Q hQ ops.size _ a _ ⟨by simp,?_,⟨c2,0,Nat.zero_le _,?_,x.trans x2,T8,?_,?_⟩,hd⟩ ?_;intro i o ho hL;exfalso;simp only[Array.getD_eq_getD_getElem?,Array.getElem?_replicate] at hL;split at hL<;>simp at hL
   intro l _;simp only[Array.getD_eq_getD_getElem?,Array.getElem?_replicate];split<;>simp
   · have:Iz f0 (Cm ops) vals (λj=>(Array.replicate ops.size false).getD j false) ops.size=f0:=by
       have key:∀n,Iz f0 (Cm ops) vals (λj=>(Array.replicate ops.size false).getD j false) n=f0:=by
         intro n
         induction n with
         | zero=>rfl
         | succ n ih =>
           simp only[Iz,ih];rw[if_neg];simp only[Array.getD_eq_getD_getElem?,Array.getElem?_replicate];split<;>simp
       exact key _
     rw[this];exact hf.mono (x.trans x2)
   intro j y _ _ _ hj;rw[RC,List.getElem?_append_right (by omega)];simp[List.getElem?_replicate];omega
   · have key:∀n,ZU (λj=>(Array.replicate ops.size false).getD j false) n=n:=by
       intro n
       induction n with
       | zero=>rfl
       | succ n ih =>
         simp only[ZU,ih]
         have:(Array.replicate ops.size false).getD n false=false:=by
           simp only[Array.getD_eq_getD_getElem?,Array.getElem?_replicate];split<;>simp
         simp only[this];simp
     exact key _
 | @body f fn c args fr' s s' s2 e v hf hb _ he hr hk ih =>
   intro cx w vs hs GD;have hl:=GD.len;refine calls_of_wp hf hb (ih cx w _ _ hs ?_ rfl ?_);simp only[Array.toList_append,Array.toList_replicate];rw[List.size_toArray,hl];exact GD.append (CH.replicate (.sc rfl) _);rintro e' a' w' ⟨c',hx,hs',QZ,h4⟩
   have fN:St G c' w' s2:=by
     rcases hk with rfl | rfl
     exact hs'.cut _;exact hs'
   rcases he with rfl | rfl
   obtain⟨rfl,h5⟩:=h4;obtain⟨u,h6,h7⟩:=Rk hs' h5 hr;exact⟨QZ,u,h6,c',hx,fN,u,rfl,h7⟩;obtain⟨rfl,h5⟩:=h4;obtain⟨u,h6,h7⟩:=Rk hs' h5 hr;exact⟨QZ,u,h6,c',hx,fN,u,rfl,h7⟩
 | @atC f fn c args fr' s s' v hf hb _ ih =>
   intro cx w vs hs GD;have hl:=GD.len;refine calls_of_wp hf hb (ih cx w _ _ hs ?_ rfl ?_);simp only[Array.toList_append,Array.toList_replicate];rw[List.size_toArray,hl];exact GD.append (CH.replicate (.sc rfl) _);rintro e' a' w' ⟨c',hx,hs',QZ,u,rfl,h5⟩;exact⟨QZ,c',hx,hs'.cut _,u,rfl,h5⟩
 | ext h=>exact hg.ext _ _ _ _ _ h
 | axJ hh _ hk ih=>exact hg.axJ _ _ _ _ _ hh _ _ _ _ ih hk
end AI
namespace AI
open Go Go.RowKit
def alS:Value->Value->Bool
 | .int k a,.int k' b=>k == k'&&a == b
 | .bool a,.bool b=>a == b
 | .string a,.string b=>a.data.toList == b.data.toList
 | .nilIface,.nilIface=>true
 | .nilFunc,.nilFunc=>true
 | .pointer none,.pointer none=>true
 | .map none,.map none=>true
 | .tuple a,.tuple b=>a.size == 0&&b.size == 0
 | _,_=>false
def rJ{a b:Value}(h:alS a b=true):a=b:=by
 unfold alS at h;split at h;simp at h;rw[h.1,h.2];simp at h;rw[h];simp only[beq_iff_eq] at h;rename_i x y;have:x=y:=ByteArray.ext (Array.ext' h);rw[this];rfl;rfl;rfl;rfl;rename_i x y;simp at h;rw[h.1,h.2];cases h
mutual
def Tn:AV->AV->Bool
 | .sc a,.sc b=>alS a b
 | .agg a,.agg b=>XG a b
 | .Dd a,.Dd b=>XG a b
 | .sl o n a,.sl p m b=>decide (o=p)&&n == m&&XG a b
 | .msl a b c,.msl x y z=>a == x&&b == y&&c == z
 | .el a,.el b=>XG a b
 | .ptr a b,.ptr x y=>a == x&&b == y
 | .fn f a b,.fn g x y=>decide (f=g)&&XG a x&&XG b y
 | .ifc t a,.ifc u b=>t == u&&Tn a b
 | .mp a,.mp b=>a == b
 | _,_=>false
def XG:List AV->List AV->Bool
 | [],[]=>true
 | a::as,b::bs=>Tn a b&&XG as bs
 | _,_=>false
end
mutual
def rI:∀{a b:AV},Tn a b=true->a=b
 | .sc a,b,h=>by cases b<;>simp[Tn] at h;rw[rJ h]
 | .agg a,b,h=>by cases b<;>simp[Tn] at h;rw[Oe h]
 | .Dd a,b,h=>by cases b<;>simp[Tn] at h;rw[Oe h]
 | .sl o n a,b,h=>by cases b<;>simp[Tn] at h;rw[h.1.1,h.1.2,Oe h.2]
 | .msl _ _ _,b,h=>by cases b<;>simp[Tn] at h;rw[h.1.1,h.1.2,h.2]
 | .el a,b,h=>by cases b<;>simp[Tn] at h;rw[Oe h]
 | .ptr _ _,b,h=>by cases b<;>simp[Tn] at h;rw[h.1,h.2]
 | .fn f a c,b,h=>by cases b<;>simp[Tn] at h;rw[h.1.1,Oe h.1.2,Oe h.2]
 | .ifc t a,b,h=>by cases b<;>simp[Tn] at h;rw[h.1,rI h.2]
 | .mp _,b,h=>by cases b<;>simp[Tn] at h;rw[h]
 | .any,b,h=>by cases b<;>simp[Tn] at h
def Oe:∀{a b:List AV},XG a b=true->a=b
 | [],b,h=>by cases b<;>simp[XG] at h;rfl
 | a::as,b,h=>by cases b<;>simp[XG] at h;rw[rI h.1,Oe h.2]
end
def reads:Op->Bool
 | .load .. | .lookup ..=>true
 | .call cl=>(match cl.callee with
   | .builtin .len=>true
   | _=>false)
 | _=>false
def VH{P:Program}{G:A8}{fr:List AV}{s:AS}{o:Oper}{r:AR}(hq:quiet o.op=true)(h:PU P G fr s o=some r):∃v,r=.val v s:=by
 unfold PU at h;split at h<;>rename_i ho<;>(try (rw[ho] at hq;simp[quiet] at hq;done))
 all_goals first
   | (obtain⟨v,_,rfl⟩:=map_some h;exact⟨_,rfl⟩)
   | (split at h
      all_goals first
        | (obtain⟨v,_,rfl⟩:=map_some h;exact⟨_,rfl⟩)
        | (cases h;done)
        | (cases h;exact⟨_,rfl⟩)
        | (split at h
           all_goals first
             | (cases h;done)
             | (cases h;exact⟨_,rfl⟩)))
   | (obtain⟨_,_,h2⟩:=bind_some h;obtain⟨v,_,rfl⟩:=map_some h2;exact⟨_,rfl⟩)
   | (rw[ho] at hq
      unfold SS at h;split at h
      all_goals first
        | (obtain⟨_,_,h2⟩:=bind_some h;obtain⟨v,_,rfl⟩:=map_some h2;exact⟨_,rfl⟩)
        | (rename_i Iy;simp[quiet,Iy] at hq;done)
        | (split at h
           all_goals first
             | (obtain⟨v,_,rfl⟩:=map_some h;exact⟨_,rfl⟩)
             | (cases h;done))
        | (cases h;done))
   | (cases h;done)
def TM{P:Program}{G:A8}{fr:List AV}{s:AS}{o:Oper}{v:AV}{s':AS}(hq:quiet o.op=true)(hr:reads o.op=false)(h:PU P G fr s o=some (.val v s'))(s2:AS):PU P G fr s2 o=some (.val v s2):=by
 have e:=VH hq h;obtain⟨v',e⟩:=e;injection e with e1 e2
 subst e1 e2;obtain⟨dst,op,ty,pos,after,guard⟩:=o;cases op<;>simp only[quiet,reads,Bool.false_eq_true] at hq hr<;>simp only[PU] at h ⊢
 all_goals first
   | (obtain⟨v',h1,h2⟩:=map_some h;injection h2 with h2;subst h2;rw[h1];rfl)
   | (obtain⟨q,h0,h2⟩:=bind_some h;obtain⟨v',h1,h3⟩:=map_some h2;injection h3 with h3;subst h3;rw[h0,Option.bind_some,h1];rfl)
   | (split at h
      all_goals first
        | (obtain⟨v',h1,h2⟩:=map_some h;injection h2 with h2;subst h2;simp only[*,Option.map_some];done)
        | (cases h;done)
        | (cases h;simp only[*];done)
        | (split at h
           all_goals first
             | (cases h;done)
             | (cases h;simp[*];done)))
   | (cases hr;done)
   | (rename_i cl
      unfold SS at h ⊢;split at h
      all_goals first
        | (rename_i Iy;simp[Iy] at hr;done)
        | (rename_i Iy;simp[Iy] at hq;done)
        | (simp only;obtain⟨q,h0,h2⟩:=bind_some h;obtain⟨v',h1,h3⟩:=map_some h2;injection h3 with h3;subst h3;rw[h0,Option.bind_some,h1];rfl)
        | (cases h;done))
end AI
namespace AI
open Go Go.RowKit
inductive Tk where
 | code (c:Code) (fr:List AV) (s:AS)
 | loop (c:Code) (fr:List AV) (s:AS)
 | ops (ops:Array Oper) (l:List Oper) (fr:List AV) (s:AS)
 | draw (ops:Array Oper) (l:List Oper) (fr:List AV) (s:AS) (q:Nat)
 | op (ops:Array Oper) (o:Oper) (fr:List AV) (s:AS)
 | call (f:FuncId) (args:List AV) (s:AS)
inductive Rs where
 | code (e:AX) (fr:List AV) (s:AS)
 | call (r:CR) (s:AS)
 | tr (l:List (List AV×AS×AV)) (fr:List AV) (s:AS)
abbrev asX:=FuncId->List AV->AS->Option (CR×AS)
def MQ:List Oper->Nat->List Nat
 | [],_=>[]
 | o::os,i=>if calm o.op then MQ os (i+1) else i::MQ os (i+1)
def ajV(ms:List Nat)(ls:List Nat)(i k:Nat):Bool:=ls.all λl=>(!R7 ms i l||decide (l < k))&&(!R7 ms l i||decide (k<=l))
def uO(P:Program)(G:A8)(ms ls:List Nat)(i:Nat)(o:Oper)(fr:List AV)(v:AV):List AS->Nat->Bool
 | [],_=>true
 | s::ss,k=>(!ajV ms ls i k||(match PU P G fr s o with
     | some (.val u _)=>Tn u v
     | _=>false))&&uO P G ms ls i o fr v ss (k+1)
def uU(P:Program)(G:A8)(ops:Array Oper)(ms ls:List Nat)(MG:List AS):List Oper->List (List AV×AS×AV)->Nat->Bool
 | o::os,t::ts,i=>(!(quiet o.op&&reads o.op)||!Cy ops t.1 o||uO P G ms ls i o t.1 t.2.2 MG 0)&&uU P G ops ms ls MG os ts (i+1)
 | _,_,_=>true
def XH(ms ls:List Nat)(i id:Nat)(cs:List AV):List AS->Nat->Bool
 | [],_=>true
 | s::ss,k=>(!ajV ms ls i k||(match s.get id with
     | some (.cells ds)=>XG ds cs
     | _=>false))&&XH ms ls i id cs ss (k+1)
def Tl(P:Program)(ops:Array Oper)(ms ls:List Nat)(MG:List AS):List Oper->List (List AV×AS×AV)->Nat->Nat->Bool
 | o::os,t::ts,i,q=>(match o.op with
   | .alloc e=>(!Cy ops t.1 o||(match LY P e with
     | some z=>XH ms ls i q (cellsOf z) MG 0
     | none=>false))&&Tl P ops ms ls MG os ts (i+1) (q+1)
   | _=>Tl P ops ms ls MG os ts (i+1) q)
 | _,_,_,_=>true
def rsv(P:Program):List Oper->Option (List AL)
 | []=>some []
 | o::l=>(match o.op with
   | .alloc e=>(match LY P e,rsv P l with
     | some z,some r=>some (.cells (cellsOf z)::r)
     | _,_=>none)
   | _=>rsv P l)
def aqO(P:Program)(G:A8)(ops:Array Oper)(tr:List (List AV×AS×AV))(sf:AS):Bool :=
 match MQ ops.toList 0 with
 | []=>true
 | ls=>uU P G ops (Ij ops.toList []) ls (tr.map (·.2.1)++[sf]) ops.toList tr 0
def Xi(P:Program)(ops:Array Oper)(tr:List (List AV×AS×AV))(sf:AS)(q:Nat):List AL->Bool
 | []=>true
 | _=>Tl P ops (Ij ops.toList []) (MQ ops.toList 0) (tr.map (·.2.1)++[sf]) ops.toList tr 0 q
def aAJ(P:Program)(G:A8)(ops:Array Oper)(tr:List (List AV×AS×AV))(sf:AS)(q:Nat)(r:List AL):Bool :=
 match aqO P G ops tr sf with
 | true=>Xi P ops tr sf q r
 | false=>false
def aCD:AV->Bool
 | .ptr _ _ | .msl _ _ _ | .mp _ | .fn _ _ _=>true
 | _=>false
def awF:List AV->Bool
 | []=>false
 | a::l=>match aCD a with
   | true=>true
   | false=>awF l
def esc:AV->Bool
 | .agg l=>awF l
 | .Dd l=>awF l
 | a=>aCD a
def fin(v:AV)(s:AS)(n:Nat):AS:=match esc v with
 | true=>s
 | false=>s.cut n
def OK(ops:Array Oper)(fr:List AV)(o:Oper)(q:Nat):AV:=match Cy ops fr o with
 | true=>.ptr q 0
 | false=>.sc undef
inductive Sx(P:Program)(G:A8)(X:Wq)(H:Tg)(ops:Array Oper):Nat->List Oper->List AV->AS->List (List AV×AS×AV)->List AV->AS->Prop where
 | nil {q:Nat} {fr:List AV} {s:AS}:Sx P G X H ops q [] fr s [] fr s
 | cons {q:Nat} {o:Oper} {l:List Oper} {fr fr':List AV} {s s1 s':AS} {v:AV} {t:List (List AV×AS×AV)} (ha:B2 o.op=false) (h:J P G X H (.op ops o fr s (.ret v) s1)) (k:Sx P G X H ops q l (IJ fr o.dst v) s1 t fr' s'):Sx P G X H ops q (o::l) fr s ((fr,s,v)::t) fr' s'
 | alloc {q:Nat} {o:Oper} {l:List Oper} {fr fr':List AV} {s s':AS} {t:List (List AV×AS×AV)} (ha:B2 o.op=true) (k:Sx P G X H ops (q+1) l (IJ fr o.dst (OK ops fr o q)) s t fr' s'):Sx P G X H ops q (o::l) fr s ((fr,s,OK ops fr o q)::t) fr' s'
section
variable {P:Program} {G:A8} {X:Wq} {H:Tg} {ops:Array Oper}
def Sx.len{q:Nat}{l:List Oper}{fr fr':List AV}{s s':AS}{t:List (List AV×AS×AV)}(h:Sx P G X H ops q l fr s t fr' s'):t.length=l.length:=by
 induction h with
 | nil=>rfl
 | cons _ _ _ ih=>simp[ih]
 | alloc _ _ ih=>simp[ih]
def FR(t:List (List AV×AS×AV))(sf:AS)(i:Nat):AS:=match t[i]? with
 | some x=>x.2.1
 | none=>sf
def Kj(t:List (List AV×AS×AV))(i:Nat):AV:=match t[i]? with
 | some x=>x.2.2
 | none=>.sc undef
def Sx.at{q:Nat}{l:List Oper}{fr fr':List AV}{s s':AS}{t:List (List AV×AS×AV)}(h:Sx P G X H ops q l fr s t fr' s'):FR t s' 0=s/\∀i o,l[i]?=some o->∃fi,t[i]?=some (fi,FR t s' i,Kj t i) /\
   ((B2 o.op=false/\J P G X H (.op ops o fi (FR t s' i) (.ret (Kj t i)) (FR t s' (i+1))))\/(B2 o.op=true/\FR t s' (i+1)=FR t s' i/\Kj t i=OK ops fi o (q+mT l i))):=by
 induction h with
 | nil=>exact⟨rfl,λi o ho=>by simp at ho⟩
 | @cons q o l fr fr' s s1 s' v t ha h k ih =>
   refine⟨rfl,λi o' ho=>?_⟩;cases i with
   | zero =>
     simp at ho;subst ho;refine⟨fr,rfl,.inl ⟨ha,?_⟩⟩
     have:FR ((fr,s,v)::t) s' 1=s1:=by
       have:=ih.1;unfold FR at this ⊢;simpa using this
     rw[this];exact h
   | succ i =>
     obtain⟨fi,h1,h2⟩:=ih.2 i o' (by simpa using ho)
     refine⟨fi,?_,?_⟩;have:((fr,s,v)::t)[i+1]?=t[i]?:=by simp
     rw[this,h1];simp[FR,Kj];simp only[mT,ha,Nat.zero_add];simpa[FR,Kj] using h2
 | @alloc q o l fr fr' s s' t ha k ih =>
   refine⟨rfl,λi o' ho=>?_⟩;cases i with
   | zero =>
     simp at ho;subst ho;refine⟨fr,rfl,.inr ⟨ha,?_,?_⟩⟩;have:=ih.1;unfold FR at this ⊢;simpa using this
     simp[Kj,mT]
   | succ i =>
     obtain⟨fi,h1,h2⟩:=ih.2 i o' (by simpa using ho)
     refine⟨fi,?_,?_⟩;have:((fr,s,OK ops fr o q)::t)[i+1]?=t[i]?:=by simp
     rw[this,h1];simp[FR,Kj];simp only[mT,ha];rw[<- Nat.add_assoc];simpa[FR,Kj] using h2
def Sx.cK{q:Nat}{l:List Oper}{fr fr':List AV}{s s':AS}{t:List (List AV×AS×AV)}(h:Sx P G X H ops q l fr s t fr' s')(dst:Nat->Option Tmp)(vals:Nat->AV)(f0:List AV)(k:Nat)(hfr:fr=Iz f0 dst vals (λ_=>true) k)(hd:∀i o,l[i]?=some o->dst (k+i)=o.dst)(hv:∀i,vals (k+i)=Kj t i\/l.length<=i) :
   fr'=Iz f0 dst vals (λ_=>true) (k+l.length)/\∀i x,t[i]?=some x->x.1=Iz f0 dst vals (λ_=>true) (k+i):=by
 have key:∀{q:Nat} {o:Oper} {l:List Oper} {fr fr':List AV} {s:AS} {v:AV} {t:List (List AV×AS×AV)}
     (_:∀(k:Nat),IJ fr o.dst v=Iz f0 dst vals (λ_=>true) k->(∀i o,l[i]?=some o->dst (k+i)=o.dst)->(∀i,vals (k+i)=Kj t i\/l.length<=i)->fr'=Iz f0 dst vals (λ_=>true) (k+l.length)/\∀i x,t[i]?=some x->x.1=Iz f0 dst vals (λ_=>true) (k+i))
     (k:Nat),fr=Iz f0 dst vals (λ_=>true) k->(∀i o',(o::l)[i]?=some o'->dst (k+i)=o'.dst)->(∀i,vals (k+i)=Kj ((fr,s,v)::t) i\/(o::l).length<=i) ->
     fr'=Iz f0 dst vals (λ_=>true) (k+(o::l).length)/\∀i x,((fr,s,v)::t)[i]?=some x->x.1=Iz f0 dst vals (λ_=>true) (k+i):=by
   intro q o l fr fr' s v t ih k hfr hd hv;have hd0:=hd 0 o rfl
   have hv0:vals k=v:=by
     rcases hv 0 with h0 | h0
     simpa[Kj] using h0
     simp at h0
   have:=ih (k+1) (by simp only[Iz,if_true];rw[hfr,<- hd0,hv0];rfl) (λi o' V8=>by have:=hd (i+1) o' (by simpa using V8);rwa[show k+1+i=k+(i+1) from by omega]) (λi=>by
     rcases hv (i+1) with h1 | h1
     left;rw[show k+1+i=k+(i+1) from by omega,h1];simp[Kj];right;simp at h1;omega)
   refine⟨by rw[this.1];congr 1;simp;omega,λi x hx=>?_⟩;cases i with
   | zero=>simp at hx;subst hx;exact hfr
   | succ i =>
     have h2:=this.2 i x (by simpa using hx)
     rw[h2];congr 1;omega
 induction h generalizing k with
 | nil=>exact⟨hfr,λi x hx=>by simp at hx⟩
 | @cons q o l fr fr' s s1 s' v t ha h _ ih=>exact key (q:=q) (λk h1 h2 h3=>ih k h1 h2 h3) k hfr hd hv
 | @alloc q o l fr fr' s s' t ha _ ih=>exact key (q:=q) (λk h1 h2 h3=>ih k h1 h2 h3) k hfr hd hv
def asS{i k:Nat}{ls:List Nat}(hls:∀l,l∈ls->Yo ops l)(h:Win ops i k):ajV (Ij ops.toList []) ls i k=true:=by
 unfold ajV;rw[List.all_eq_true];intro l hl;have h1:=h.1 l (hls l hl);have h2:=h.2 l (hls l hl);cases hd1:R7 (Ij ops.toList []) i l<;>cases hd2:R7 (Ij ops.toList []) l i<;>simp_all
def dI{os:List Oper}{i l:Nat}(h:l∈MQ os i):∃j o,l=i+j/\os[j]?=some o/\calm o.op=false:=by
 induction os generalizing i with
 | nil=>simp[MQ] at h
 | cons x os ih =>
   simp only[MQ] at h;split at h;obtain⟨j,o,h1,h2,h3⟩:=ih h;exact⟨j+1,o,by omega,by simpa using h2,h3⟩
   rename_i hq;rcases List.mem_cons.1 h with h | h
   exact⟨0,x,by omega,rfl,by simpa using hq⟩
   obtain⟨j,o,h1,h2,h3⟩:=ih h;exact⟨j+1,o,by omega,by simpa using h2,h3⟩
def JT{o:Oper}{fr:List AV}{s s':AS}{v:AV}(hq:quiet o.op=true)(h:J P G X H (.op ops o fr s (.ret v) s')):s'=s/\((Cy ops fr o=false/\v=.sc undef)\/(Cy ops fr o=true/\PU P G fr s o=some (.val v s))):=by
 cases h with
 | NB hw h =>
   obtain⟨v',e⟩:=VH hq h;injection e with e1 e2
   subst e2;exact⟨rfl,.inr ⟨hw,h⟩⟩
 | pP hw=>exact⟨rfl,.inl ⟨hw,rfl⟩⟩
 | RN hw h hc =>
   obtain⟨v',e⟩:=VH hq h;cases e
 | pQ Zh=>rw[hq] at Zh;cases Zh
 | dR Zh=>rw[hq] at Zh;cases Zh
 | agI _ ho Iy=>simp[quiet,ho,Iy] at hq
def wM{ms ls:List Nat}{i id:Nat}{cs:List AV}{ss:List AS}{k0:Nat}(h:XH ms ls i id cs ss k0=true){k:Nat}{s:AS}(hs:ss[k]?=some s)(hw:ajV ms ls i (k0+k)=true):s.get id=some (.cells cs):=by
 induction ss generalizing k0 k with
 | nil=>simp at hs
 | cons x ss ih =>
   simp only[XH,Bool.and_eq_true] at h;cases k with
   | zero =>
     simp at hs;subst hs;rw[Nat.add_zero] at hw;have h1:=h.1;rw[hw] at h1;simp only[Bool.not_true,Bool.false_or] at h1;split at h1;rename_i ds hu;rw[hu,Oe h1];cases h1
   | succ k=>exact ih h.2 (by simpa using hs) (by rwa[show k0+1+k=k0+(k+1) from by omega])
def wC{ms ls:List Nat}{MG:List AS}{os:List Oper}{ts:List (List AV×AS×AV)}{i0 q:Nat}(h:Tl P ops ms ls MG os ts i0 q=true){i:Nat}{o:Oper}{e:TypeId}{x:List AV×AS×AV}(ho:os[i]?=some o)(hx:ts[i]?=some x)(he:o.op=.alloc e)(hw:Cy ops x.1 o=true):∃z,LY P e=some z/\XH ms ls (i0+i) (q+mT os i) (cellsOf z) MG 0=true:=by
 induction os generalizing ts i0 i q with
 | nil=>simp at ho
 | cons y os ih =>
   cases ts with
   | nil=>simp at hx
   | cons t ts =>
     cases i with
     | zero =>
       simp at ho hx;subst ho hx;simp only[Tl,he,hw,Bool.not_true,Bool.false_or,Bool.and_eq_true] at h;have h1:=h.1;split at h1;rename_i z hz;exact⟨z,hz,h1⟩;cases h1
     | succ i =>
       simp only[Tl] at h;split at h;rename_i e' he';rw[Bool.and_eq_true] at h;have:=ih h.2 (by simpa using ho) (by simpa using hx)
       simp only[mT,he',B2];rwa[show i0+1+i=i0+(i+1) from by omega,Nat.add_assoc q] at this;rename_i hne;have:=ih h (by simpa using ho) (by simpa using hx)
       have mP:B2 y.op=false:=by
         cases dB:B2 y.op with
         | false=>rfl
         | true=>obtain⟨e',he'⟩:=Ks dB;exact absurd he' (hne e')
       simp only[mT,mP,Nat.zero_add];rwa[show i0+1+i=i0+(i+1) from by omega] at this
def aqB{l:List Oper}{r:List AL}(h:rsv P l=some r):r.length=mT l l.length:=by
 induction l generalizing r with
 | nil=>simp[rsv] at h;subst h;rfl
 | cons o l ih =>
   simp only[rsv] at h;split at h;rename_i e he;split at h;rename_i z r' hz hr;cases h;simp only[List.length_cons,mT,he,B2,ih hr];omega;cases h;rename_i hne
   have mP:B2 o.op=false:=by
     cases dB:B2 o.op with
     | false=>rfl
     | true=>obtain⟨e',he'⟩:=Ks dB;exact absurd he' (hne e')
   simp only[List.length_cons,mT,mP,ih h];omega
def QI{o:Oper}{e:TypeId}(h:o.op=.alloc e):quiet o.op=false:=by rw[h];rfl
end
end AI
namespace AI
open Go Go.RowKit
def inI:Int->Bool
 | .ofNat m=>Nat.ble m 9223372036854775807
 | .negSucc m=>Nat.ble m 9223372036854775807
def MH(k:IntKind)(n:Int):Int:=match k with
 | .i64=>(match inI n with | true=>n | false=>IntKind.i64.wrap n)
 | k=>k.wrap n
def ayF{n:Int}(h:inI n=true):IntKind.i64.wrap n=n:=by
 refine IntWalk.i64_in n ?_;cases n with
 | ofNat m =>
   have:=Nat.le_of_ble_eq_true h;have e:Int.ofNat m=(m:Int):=rfl;rw[e];have h2:(m:Int)<=9223372036854775807:=Int.ofNat_le.2 this;have h3:(0:Int)<=m:=Int.natCast_nonneg m;omega
 | negSucc m =>
   have:=Nat.le_of_ble_eq_true h;rw[Int.negSucc_eq];constructor;have e:(-9223372036854775808:Int)=-(9223372036854775807+1):=rfl;rw[e];have h2:(m:Int)<=9223372036854775807:=Int.ofNat_le.2 this;omega;have h2:(0:Int)<=m:=Int.natCast_nonneg m;omega
def U1(k:IntKind)(n:Int):MH k n=k.wrap n:=by
 cases k<;>try rfl
 simp only[MH];cases h:inI n with
 | true=>exact(ayF h).symm
 | false=>rfl
def aaU:Int->Int->Int
 | .ofNat a,.ofNat b=>.ofNat (Nat.add a b)
 | a,b=>a+b
def bM(a b:Int):aaU a b=a+b:=by cases a<;>cases b<;>rfl
def aFF(a b:Nat):Int:=match Nat.ble b a with
 | true=>.ofNat (Nat.sub a b)
 | false=>(a:Int) - (b:Int)
def eQ:Int->Int->Int
 | .ofNat a,.ofNat b=>aFF a b
 | a,b=>a - b
def eR(a b:Int):eQ a b=a - b:=by
 cases a<;>cases b<;>try rfl
 rename_i a b;simp only[eQ,aFF];cases h:Nat.ble b a with
 | true =>
   have:=Nat.le_of_ble_eq_true h;show Int.ofNat (a - b)=(a:Int) - (b:Int);exact Int.ofNat_sub this
 | false=>rfl
def Dr:Int->Int->Bool
 | .ofNat a,.ofNat b=>Nat.beq a b
 | .negSucc a,.negSucc b=>Nat.beq a b
 | _,_=>false
def Nn(a b:Int):Dr a b=(a == b):=by
 cases a<;>cases b<;>simp only[Dr]
 rename_i a b;rw[Bool.eq_iff_iff,beq_iff_eq,Int.ofNat.injEq];exact⟨λh=>Nat.eq_of_beq_eq_true h,λh=>by subst h;exact Nat.beq_refl a⟩;rw[Bool.eq_iff_iff,beq_iff_eq];exact⟨λh=>by simp at h,λh=>by cases h⟩;rw[Bool.eq_iff_iff,beq_iff_eq];exact⟨λh=>by simp at h,λh=>by cases h⟩;rename_i a b;rw[Bool.eq_iff_iff,beq_iff_eq,Int.negSucc.injEq];exact⟨λh=>Nat.eq_of_beq_eq_true h,λh=>by subst h;exact Nat.beq_refl a⟩
def S7:Int->Int->Bool
 | .ofNat a,.ofNat b=>Nat.ble a b
 | a,b=>decide (a<=b)
def Vy(a b:Int):S7 a b=decide (a<=b):=by
 cases a<;>cases b<;>try rfl
 rename_i a b;simp only[S7];rw[Bool.eq_iff_iff,decide_eq_true_iff];show _↔(a:Int)<=(b:Int);rw[Int.ofNat_le];exact⟨Nat.le_of_ble_eq_true,Nat.ble_eq_true_of_le⟩
def E3:Int->Int->Bool
 | .ofNat a,.ofNat b=>Nat.ble (Nat.succ a) b
 | a,b=>decide (a < b)
def Qb(a b:Int):E3 a b=decide (a < b):=by
 cases a<;>cases b<;>try rfl
 rename_i a b;simp only[E3];rw[Bool.eq_iff_iff,decide_eq_true_iff];show _↔(a:Int) < (b:Int);rw[Int.ofNat_lt];exact⟨Nat.le_of_ble_eq_true,Nat.ble_eq_true_of_le⟩
def sameKind:IntKind->IntKind->Bool
 | .i64,.i64=>true
 | .u8,.u8=>true
 | _,_=>false
def Wm{a b:IntKind}(h:sameKind a b=true):a=b:=by cases a<;>cases b<;>first | rfl | cases h
def anM(k:IntKind)(a b:Int):BinOp->Option Value
 | .add=>some (.int k (MH k (aaU a b)))
 | .sub=>some (.int k (MH k (eQ a b)))
 | .mul=>some (.int k (MH k (a*b)))
 | .eql=>some (.bool (Dr a b))
 | .neq=>some (.bool (!Dr a b))
 | .lss=>some (.bool (E3 a b))
 | .leq=>some (.bool (S7 a b))
 | .gtr=>some (.bool (E3 b a))
 | .geq=>some (.bool (S7 b a))
 | _=>none
def anN{P:Program}{op:BinOp}{k:IntKind}{a b:Int}{t:TypeId}{xo yo:Operand}{v:Value}(h:anM k a b op=some v):pv P (do eqGuard op t xo yo (.int k a) (.int k b);binOp op t (.int k a) (.int k b))=some v/\scalar v=true:=by
 cases op<;>simp only[anM,Option.some.injEq,reduceCtorEq] at h<;>subst h<;>refine⟨?_,rfl⟩<;>simp[eqGuard,binOp,Op.intArith,Op.intCmp,pv,U1,bM,eR,Nn,Qb,Vy,bne,Bind.bind,Sem.bind,Pure.pure]
def BS:List UInt8->List UInt8->Bool
 | [],[]=>true
 | a::l,b::m=>(match Nat.beq a.toNat b.toNat with
   | true=>BS l m
   | false=>false)
 | _,_=>false
def Ru(l m:List UInt8):BS l m=(l == m):=by
 induction l generalizing m with
 | nil=>cases m<;>rfl
 | cons a l ih =>
   cases m with
   | nil=>rfl
   | cons b m =>
     simp only[BS];cases h:Nat.beq a.toNat b.toNat with
     | true =>
       have:a=b:=UInt8.toNat_inj.1 (Nat.eq_of_beq_eq_true h);subst this;simp only[ih];simp
     | false =>
       have:a≠b:=λe=>by subst e;have:=Nat.ne_of_beq_eq_false h;exact this rfl
       simp[this]
def aAL(x y:ByteArray):BinOp->Option Value
 | .eql=>some (.bool (BS x.data.toList y.data.toList))
 | .neq=>some (.bool (!BS x.data.toList y.data.toList))
 | op=>nD op x y
def aqQ(x y:ByteArray)(op:BinOp):aAL x y op=nD op x y:=by cases op<;>simp only[aAL,nD,Ru]
def ahK(v:Option Value):Option AV:=match v with
 | some v=>(match scalar v with | true=>some (.sc v) | false=>none)
 | none=>none
def ahL(v:Option Value):ahK v=v.bind ZD:=by
 cases v with
 | none=>rfl
 | some v=>simp only[ahK,Option.bind_some,ZD];cases scalar v<;>rfl
def scF(P:Program)(op:BinOp)(t:TypeId)(xo yo:Operand)(x y:Value):Option AV :=
 match x with
 | .int k a=>(match y with
   | .int k' b=>(match sameKind k k' with
     | true=>(match anM k a b op with
       | some v=>some (.sc v)
       | none=>Lf P op t xo yo (.sc (.int k a)) (.sc (.int k' b)))
     | false=>Lf P op t xo yo (.sc (.int k a)) (.sc (.int k' b)))
   | y=>Lf P op t xo yo (.sc (.int k a)) (.sc y))
 | .string a=>(match y with
   | .string b=>ahK (aAL a b op)
   | y=>Lf P op t xo yo (.sc (.string a)) (.sc y))
 | x=>Lf P op t xo yo (.sc x) (.sc y)
def Xt(P:Program)(op:BinOp)(t:TypeId)(xo yo:Operand)(a b:AV):Option AV :=
 match a with
 | .sc x=>(match b with
   | .sc y=>scF P op t xo yo x y
   | b=>Lf P op t xo yo (.sc x) b)
 | a=>Lf P op t xo yo a b
def Uf(P:Program)(op:BinOp)(t:TypeId)(xo yo:Operand)(a b:AV):Xt P op t xo yo a b=Lf P op t xo yo a b:=by
 unfold Xt;cases a with
 | sc x =>
   cases b with
   | sc y =>
     simp only[scF];cases x with
     | int k a =>
       cases y with
       | int k' b =>
         simp only;cases hk:sameKind k k' with
         | false=>rfl
         | true =>
           have:=Wm hk;subst this;simp only;cases hf:anM k a b op with
           | none=>rfl
           | some v =>
             obtain⟨h1,h2⟩:=anN (P:=P) (t:=t) (xo:=xo) (yo:=yo) hf;simp[Lf,QH,UO,h1,ZD,h2]
       | _=>rfl
     | string a =>
       cases y with
       | string b=>simp only[ahL,aqQ];rfl
       | _=>rfl
     | _=>rfl
   | _=>rfl
 | _=>rfl
def agC:List UInt8->Nat->Option UInt8
 | [],_=>none
 | a::_,0=>some a
 | _::l,n+1=>agC l n
def aoL(l:List UInt8)(n:Nat):agC l n=l[n]?:=by
 induction l generalizing n with
 | nil=>simp[agC]
 | cons a l ih=>cases n<;>simp[agC,ih]
def aBS:Option UInt8->Option AV
 | some b=>some (.sc (.int .u8 (.ofNat b.toNat)))
 | none=>none
def WO(P:Program)(t:TypeId)(x ix:AV):Option AV :=
 match x with
 | .sc (.string s)=>(match P.underlying t with
   | some .string=>(match QV ix with
     | some i=>aBS (agC s.data.toList i)
     | none=>none)
   | _=>Lq P t (.sc (.string s)) ix)
 | x=>Lq P t x ix
def mY(P:Program)(t:TypeId)(x ix:AV):WO P t x ix=Lq P t x ix:=by
 unfold WO;cases x with
 | sc v =>
   cases v with
   | string s =>
     simp only;split
     · rename_i hu
       unfold Lq;rw[hu];cases QV ix with
       | none=>rfl
       | some i =>
         simp only[aoL];cases s.data.toList[i]?<;>rfl
     rfl
   | _=>rfl
 | _=>rfl
end AI
namespace AI
open Go Go.RowKit
def nth:List AV->Nat->AV
 | [],_=>.sc undef
 | a::_,0=>a
 | _::l,n+1=>nth l n
def azB(l:List AV)(n:Nat):nth l n=l.getD n (.sc undef):=by
 induction l generalizing n with
 | nil=>simp[nth]
 | cons a l ih=>cases n<;>simp[nth,ih]
def evG:Option (List AV)->Option AV
 | some cs=>some (.el cs)
 | none=>none
def AY(G:A8)(fr:List AV):Operand->Option AV
 | .tmp t=>some (nth fr t)
 | .const v=>Wf v
 | .global g=>evG (G g)
 | .func f=>some (.fn (.func f) [] [])
def Cv(G:A8)(fr:List AV)(x:Operand):AY G fr x=Ba G fr x:=by
 cases x with
 | tmp t=>simp only[AY,Ba,azB]
 | const v=>rfl
 | global g=>simp only[AY,Ba];cases G g<;>rfl
 | func f=>rfl
def Mj(s:AS):Option AV->Option AR
 | some v=>some (.val v s)
 | none=>none
def Su(s:AS)(o:Option AV):Mj s o=o.map (λv=>.val v s):=by cases o<;>rfl
def lR:Option AS->Option AR
 | some s=>some (.val (.sc undef) s)
 | none=>none
def asA(o:Option AS):lR o=o.map (λs=>.val (.sc undef) s):=by cases o<;>rfl
def aaD:Option (AV×AS)->Option AR
 | some r=>some (.val r.1 r.2)
 | none=>none
def vO(o:Option (AV×AS)):aaD o=o.map (λr=>.val r.1 r.2):=by cases o<;>rfl
def fH{α β:Type}(o:Option α)(f:α->Option β):Option β:=match o with
 | some a=>f a
 | none=>none
def bW{α β:Type}(o:Option α)(f:α->Option β):fH o f=o.bind f:=by cases o<;>rfl
def two{β:Type}(a b:Option AV)(f:AV->AV->Option β):Option β:=match a with
 | some x=>(match b with
   | some y=>f x y
   | none=>none)
 | none=>none
def three{β:Type}(a b d:Option AV)(f:AV->AV->AV->Option β):Option β:=match a with
 | some x=>(match b with
   | some y=>(match d with
     | some z=>f x y z
     | none=>none)
   | none=>none)
 | none=>none
def auL(x y:Option AV):Option AV->Option AV
 | some (.sc (.bool t))=>(match t with | true=>x | false=>y)
 | _=>none
def afZ(s:AS):Option AV->Option AR
 | some z=>some (.val (.ptr s.nx 0) (s.new (.cells (cellsOf z))))
 | none=>none
def tQ(s:AS):Option AV->Option AR
 | some z=>(match RF z with | true=>none | false=>some (.val (.ptr s.nx 0) (s.new (.cells (cellsOf z)))))
 | none=>none
def nJ(s:AS):Option AV->Option AR
 | some v=>(match notNil v with | true=>some (.val v s) | false=>none)
 | none=>none
def oQ(t:TypeId)(s:AS)(v:Option AV):Option TypeDesc->Option AR
 | some d=>(match v with
   | some v=>(match isIface d with | true=>none | false=>some (.val (.ifc t v) s))
   | none=>none)
 | none=>none
def func1(f:Fn)(s:AS)(b:Option (List AV)):Option (List AV)->Option AR
 | some a=>(match b with
   | some b=>some (.val (.fn f a b) s)
   | none=>none)
 | none=>none
def ahZ(P:Program)(s:AS)(t:TypeId)(l h m:Option (Option AV)):Option AV->Option AR
 | some a=>(match l with
   | some l=>(match h with
     | some h=>(match m with
       | some m=>Mj s (KP P t a l h m)
       | none=>none)
     | none=>none)
   | none=>none)
 | none=>none
def aEM:Option AV->Option AR
 | some (.ifc t v)=>some (.pan (.ifc t v))
 | _=>none
def aCC(P:Program)(as:Option (List AV)):Option AV->Option AR
 | some (.fn (.func g) first caps)=>(match as with
   | some as=>(match LZ P g with | true=>some (.ent g (first++as++caps)) | false=>none)
   | none=>none)
 | _=>none
def aEC(P:Program)(G:A8)(fr:List AV)(s:AS):List Operand->List TypeId->Option AR
 | [x],[t]=>Mj s (fH (AY G fr x) (Wr P s t))
 | _,_=>none
def aBJ(P:Program)(G:A8)(fr:List AV)(s:AS):List Operand->List TypeId->Option AR
 | [x,y],[t,tx]=>aaD (two (AY G fr x) (AY G fr y) (KN P s t tx))
 | _,_=>none
def auO(P:Program)(s:AS)(f:List Value->Sem Value):Option (List Value)->Option AR
 | some vs=>Mj s (VX P (f vs))
 | none=>none
def auP(P:Program)(s:AS)(f:Value->Sem Value):Option Value->Option AR
 | some v=>Mj s (VX P (f v))
 | none=>none
def Rr(P:Program)(G:A8)(fr:List AV)(s:AS)(o:Oper)(cl:Call):Builtin->Option AR
 | .len=>aEC P G fr s cl.args.toList cl.argTypes.toList
 | .append=>aBJ P G fr s cl.args.toList cl.argTypes.toList
 | .max=>auO P s (λvs=>Builtin.max_ cl.argTypes o.type vs.toArray) (fH (Zo G fr cl.args.toList) OC)
 | .min=>auO P s (λvs=>Builtin.min_ cl.argTypes o.type vs.toArray) (fH (Zo G fr cl.args.toList) OC)
 | _=>none
def bL(P:Program)(G:A8)(fr:List AV)(s:AS)(o:Oper)(cl:Call):Option AR :=
 match cl.callee with
 | .builtin b=>Rr P G fr s o cl b
 | .value f=>aCC P (Zo G fr cl.args.toList) (AY G fr f)
 | _=>none
def jL(s:AS):Option Operand->Option AR
 | none=>some (.val (.mp s.nx) (s.new (.map [] 0)))
 | some _=>none
def Ug(P:Program)(G:A8)(fr:List AV)(s:AS)(o:Oper):Option AR :=
 match o.op with
 | .move x=>Mj s (AY G fr x)
 | .assign x=>Mj s (AY G fr x)
 | .pick c a b=>Mj s (auL (AY G fr a) (AY G fr b) (AY G fr c))
 | .alloc e=>afZ s (LY P e)
 | .box _ x=>tQ s (AY G fr x)
 | .build t ps=>Mj s (fH (LJ G fr ps.toList) (Xu P t))
 | .buildSlice t n ps=>Mj s (fH (LJ G fr ps.toList) (LW P t n))
 | .load t a=>Mj s (fH (AY G fr a) (Jq P s t))
 | .store t a x=>lR (two (AY G fr a) (AY G fr x) (Kr P s t))
 | .nilCheck x=>nJ s (AY G fr x)
 | .binOp op t x y _=>Mj s (two (AY G fr x) (AY G fr y) (Xt P op t x y))
 | .unOp op _ x=>auP P s (Op.unary op) (fH (AY G fr x) YU)
 | .convert src dst x=>Mj s (fH (AY G fr x) (Re P src dst))
 | .makeInterface t x=>oQ t s (AY G fr x) (P.underlying t)
 | .makeFunc f first caps=>func1 f s (Zo G fr caps.toList) (Zo G fr first.toList)
 | .makeMap _ r=>jL s r
 | .makeSlice t l c=>aaD (two (AY G fr l) (AY G fr c) (Jr P s t))
 | .slice t x lo hi mx=>ahZ P s t (fJ G fr lo) (fJ G fr hi) (fJ G fr mx) (AY G fr x)
 | .fieldAddr t x k=>Mj s (fH (AY G fr x) λa=>Rg P t a k)
 | .field t x k=>Mj s (fH (AY G fr x) λa=>Xx P t a k)
 | .indexAddr t x i=>Mj s (two (AY G fr x) (AY G fr i) (CO P t))
 | .index t x i=>Mj s (two (AY G fr x) (AY G fr i) (WO P t))
 | .lookup t x k ok=>Mj s (two (AY G fr x) (AY G fr k) λa b=>I9 P s t a b ok)
 | .mapUpdate t m k x=>lR (three (AY G fr m) (AY G fr k) (AY G fr x) (Kl P s t))
 | .insert t m k x=>lR (three (AY G fr m) (AY G fr k) (AY G fr x) (Kl P s t))
 | .mapEntry t m k=>aaD (two (AY G fr m) (AY G fr k) (Pb P s t))
 | .entryStore _ m st x=>lR (three (AY G fr m) (AY G fr st) (AY G fr x) (LX s))
 | .extract x k=>Mj s (fH (AY G fr x) λa=>Rf a k)
 | .call cl=>bL P G fr s o cl
 | .panic x=>aEM (AY G fr x)
 | _=>none
def vZ(P:Program)(G:A8)(fr:List AV)(s:AS)(o:Oper)(cl:Call):bL P G fr s o cl=SS P G fr s o cl:=by
 unfold bL SS;cases hc:cl.callee with
 | value f =>
   simp only[Cv];cases Ba G fr f with
   | none=>rfl
   | some v =>
     cases v with
     | fn g a b =>
       cases g with
       | func g =>
         cases Zo G fr cl.args.toList with
         | none=>rfl
         | some as =>
           simp only[aCC];cases LZ P g<;>rfl
       | _=>rfl
     | _=>rfl
 | invoke r m=>rfl
 | builtin b =>
   cases b<;>try rfl
   · simp only[Rr]
     cases hx:cl.args.toList with
     | nil=>rfl
     | cons x xs =>
       cases xs with
       | nil=>rfl
       | cons y ys =>
         cases ys with
         | cons z zs=>rfl
         | nil =>
           cases ht:cl.argTypes.toList with
           | nil=>rfl
           | cons t ts =>
             cases ts with
             | nil=>rfl
             | cons u us =>
               cases us with
               | cons v vs=>rfl
               | nil =>
                 simp only[aBJ,Cv];cases Ba G fr x<;>cases Ba G fr y<;>first | rfl | exact vO _
   · simp only[Rr]
     cases hx:cl.args.toList with
     | nil=>rfl
     | cons x xs =>
       cases xs with
       | cons y ys=>rfl
       | nil =>
         cases ht:cl.argTypes.toList with
         | nil=>rfl
         | cons t ts =>
           cases ts with
           | cons u us=>rfl
           | nil=>simp only[aEC,Cv,bW];exact Su _ _
   simp only[Rr,bW];cases (Zo G fr cl.args.toList).bind OC with
   | none=>rfl
   | some vs=>exact Su _ _
   simp only[Rr,bW];cases (Zo G fr cl.args.toList).bind OC with
   | none=>rfl
   | some vs=>exact Su _ _
def MN(P:Program)(G:A8)(fr:List AV)(s:AS)(o:Oper):Ug P G fr s o=PU P G fr s o:=by
 unfold Ug PU;cases ho:o.op<;>simp only[Cv,Su,asA,vO,bW,vZ]
 case pick c a b =>
   cases Ba G fr c with
   | none=>rfl
   | some v =>
     cases v with
     | sc u=>cases u<;>first | rfl | (rename_i t;cases t<;>rfl)
     | _=>rfl
 case alloc e=>cases LY P e<;>rfl
 case box e x =>
   cases Ba G fr x with
   | none=>rfl
   | some v=>cases v<;>rfl
 case store t a x=>cases Ba G fr a<;>cases Ba G fr x<;>rfl
 case nilCheck x =>
   cases Ba G fr x with
   | none=>rfl
   | some v=>simp only[nJ];cases notNil v<;>rfl
 case binOp op t x y z=>cases Ba G fr x<;>cases Ba G fr y<;>first | rfl | (simp only[two,Uf])
 case unOp op t x=>cases (Ba G fr x).bind YU with
   | none=>rfl
   | some v=>exact Su _ _
 case makeInterface t x =>
   cases Ba G fr x with
   | none=>cases P.underlying t<;>rfl
   | some v =>
     cases P.underlying t with
     | none=>rfl
     | some d=>simp only[oQ];cases isIface d<;>rfl
 case makeFunc f a b=>cases Zo G fr a.toList<;>cases Zo G fr b.toList<;>rfl
 case makeMap t r=>cases r<;>rfl
 case makeSlice t l c=>cases Ba G fr l<;>cases Ba G fr c<;>rfl
 case slice t x lo hi mx =>
   cases Ba G fr x<;>cases fJ G fr lo<;>cases fJ G fr hi<;>cases fJ G fr mx<;>first | rfl | exact Su _ _
 case indexAddr t x i=>cases Ba G fr x<;>cases Ba G fr i<;>rfl
 case index t x i=>cases Ba G fr x<;>cases Ba G fr i<;>first | rfl | (simp only[two,mY])
 case lookup t x k ok=>cases Ba G fr x<;>cases Ba G fr k<;>rfl
 case mapUpdate t m k x=>cases Ba G fr m<;>cases Ba G fr k<;>cases Ba G fr x<;>rfl
 case insert t m k x=>cases Ba G fr m<;>cases Ba G fr k<;>cases Ba G fr x<;>rfl
 case mapEntry t m k=>cases Ba G fr m<;>cases Ba G fr k<;>rfl
 case entryStore t m k x=>cases Ba G fr m<;>cases Ba G fr k<;>cases Ba G fr x<;>rfl
 case panic x =>
   cases Ba G fr x with
   | none=>rfl
   | some v=>cases v<;>rfl
end AI
namespace AI
open Go Go.RowKit
abbrev Rec:=Tk->Option Rs
def aFC(r:Rec)(y:Code):Option Rs->Option Rs
 | some (.code e fr s)=>(match e with
   | .normal=>r (.code y fr s)
   | e=>some (.code e fr s))
 | _=>none
def atG(r:Rec)(x y:Code)(fr:List AV)(s:AS):Option AV->Option Rs
 | some (.sc (.bool t))=>(match t with
   | true=>r (.code x fr s)
   | false=>r (.code y fr s))
 | _=>none
def abC(id:Nat):Option Rs->Option Rs
 | some (.code e fr s)=>some (.code (D8 id e) fr s)
 | _=>none
def abY:Option Rs->Option Rs
 | some (.code e fr s)=>some (.code e fr s)
 | _=>none
def aCB(P:Program)(G:A8)(ops:Array Oper)(q:Nat)(rs:List AL):Option Rs->Option Rs
 | some (.tr t fr s)=>(match aAJ P G ops t s q rs with
   | true=>some (.code .normal fr s)
   | false=>none)
 | _=>none
def aDH(P:Program)(G:A8)(r:Rec)(ops:Array Oper)(fr:List AV)(s:AS):Option (List AL)->Option Rs
 | some rs=>aCB P G ops s.nx rs (r (.draw ops ops.toList fr (s.hold rs) s.nx))
 | none=>none
def aCA(P:Program)(G:A8)(r:Rec)(ops:Array Oper)(fr:List AV)(s:AS):Bool->Option Rs
 | true=>aDH P G r ops fr s (rsv P ops.toList)
 | false=>none
def uH(P:Program)(G:A8)(r:Rec)(ops:Array Oper)(fr:List AV)(s:AS):Bool->Option Rs
 | false=>abY (r (.ops ops ops.toList fr s))
 | true=>aCA P G r ops fr s (L2 ops)
def aiD(P:Program)(G:A8)(r:Rec)(fr:List AV)(s:AS):Code->Option Rs
 | .skip=>some (.code .normal fr s)
 | .exit id=>some (.code (.exit id) fr s)
 | .ret=>some (.code .ret fr s)
 | .seq x y=>aFC r y (r (.code x fr s))
 | .cond q x y=>atG r x y fr s (AY G fr q)
 | .block id c=>abC id (r (.code c fr s))
 | .loop c=>abY (r (.loop c fr s))
 | .region _ ops d=>uH P G r ops fr s d
 | _=>none
def auH(r:Rec)(c:Code):Option Rs->Option Rs
 | some (.code e fr s)=>(match e with
   | .normal=>r (.loop c fr s)
   | e=>some (.code e fr s))
 | _=>none
def aMV(r:Rec)(ops:Array Oper)(dst:Option Tmp)(l:List Oper)(fr:List AV):Option Rs->Option Rs
 | some (.call c s)=>(match c with
   | .ret v=>r (.ops ops l (IJ fr dst v) s)
   | .pan v=>some (.code (.pan v) fr s))
 | _=>none
def aqP(r:Rec)(ops:Array Oper)(fr:List AV)(s:AS):List Oper->Option Rs
 | []=>some (.code .normal fr s)
 | o::l=>aMV r ops o.dst l fr (r (.op ops o fr s))
def trK(fr:List AV)(s:AS)(v:AV):Option Rs->Option Rs
 | some (.tr t Vl s2)=>some (.tr ((fr,s,v)::t) Vl s2)
 | _=>none
def aAT(r:Rec)(ops:Array Oper)(dst:Option Tmp)(l:List Oper)(fr:List AV)(s:AS)(q:Nat):Option Rs->Option Rs
 | some (.call (.ret v) s1)=>trK fr s v (r (.draw ops l (IJ fr dst v) s1 q))
 | _=>none
def avR(r:Rec)(ops:Array Oper)(o:Oper)(l:List Oper)(fr:List AV)(s:AS)(q:Nat)(v:AV):Option Rs:=trK fr s v (r (.draw ops l (IJ fr o.dst v) s (q+1)))
def aAS(r:Rec)(ops:Array Oper)(o:Oper)(l:List Oper)(fr:List AV)(s:AS)(q:Nat):Bool->Option Rs
 | true=>avR r ops o l fr s q (OK ops fr o q)
 | false=>aAT r ops o.dst l fr s q (r (.op ops o fr s))
def lD(r:Rec)(ops:Array Oper)(fr:List AV)(s:AS)(q:Nat):List Oper->Option Rs
 | []=>some (.tr [] fr s)
 | o::l=>aAS r ops o l fr s q (B2 o.op)
def aBT:Option Rs->Option Rs
 | some (.call c s)=>some (.call c s)
 | _=>none
def opK(r:Rec)(s:AS):Option AR->Option Rs
 | some (.val v s1)=>some (.call (.ret v) s1)
 | some (.pan v)=>some (.call (.pan v) s)
 | some (.ent f args)=>aBT (r (.call f args s))
 | none=>none
def adI(ops:Array Oper)(fr:List AV):Option (Nat×Bool)->Bool
 | none=>true
 | some p=>(match (ops[p.1]?).bind (·.dst) with
   | some d=>(match nth fr d with
     | .sc (.bool b)=>b == p.2
     | _=>false)
   | none=>false)
def aAK(P:Program)(G:A8)(r:Rec)(fr:List AV)(s:AS)(o:Oper):Bool->Option Rs
 | true=>opK r s (Ug P G fr s o)
 | false=>some (.call (.ret (.sc undef)) s)
def aDJ(k:CR->Option CR):Option Rs->Option Rs
 | some (.call c s)=>(match k c with
   | some c1=>some (.call c1 s)
   | none=>none)
 | _=>none
def aES(s:AS)(n:Nat):Option AV->Option Rs
 | some v=>some (.call (.ret v) (fin v s n))
 | none=>none
def aBR(P:Program)(fn:Func)(n:Nat):Option Rs->Option Rs
 | some (.code e fr s)=>(match e with
   | .normal=>aES s n (GB P s fn fr)
   | .ret=>aES s n (GB P s fn fr)
   | .pan v=>some (.call (.pan v) (s.cut n))
   | .exit _=>none)
 | _=>none
def aBQ(P:Program)(r:Rec)(fn:Func)(args:List AV)(s:AS):Option Code->Option Rs
 | some c=>aBR P fn s.nx (r (.code c (args++List.replicate (fn.ntmps - args.length) (.sc undef)) s))
 | none=>none
def rY(P:Program)(r:Rec)(args:List AV)(s:AS):Option Func->Option Rs
 | some fn=>aBQ P r fn args s fn.body
 | none=>none
def aDI(P:Program)(r:Rec)(f:FuncId)(args:List AV)(s:AS):Option (FuncId×List AV×(CR->Option CR))->Option Rs
 | some (g,XZ,k)=>aDJ k (r (.call g XZ s))
 | none=>rY P r args s P.funcs[f]?
def aCF(P:Program)(H:Tg)(r:Rec)(f:FuncId)(args:List AV)(s:AS):Option (CR×AS)->Option Rs
 | some (c,s1)=>some (.call c s1)
 | none=>aDI P r f args s (H f args)
def step(P:Program)(G:A8)(X:asX)(H:Tg)(r:Rec):Tk->Option Rs
 | .code c fr s=>aiD P G r fr s c
 | .loop c fr s=>auH r c (r (.code c fr s))
 | .ops ops l fr s=>aqP r ops fr s l
 | .draw ops l fr s q=>lD r ops fr s q l
 | .op ops o fr s=>aAK P G r fr s o (adI ops fr o.guard)
 | .call f args s=>aCF P H r f args s (X f args s)
end AI
namespace AI
open Go Go.RowKit
def aMS(l:List AV):Nat->AV:=List.rec (motive:=λ_=>Nat->AV) (λ_=>.sc undef) (λa _ ih n=>Nat.rec (motive:=λ_=>AV) a (λk _=>ih k) n) l
def aNB(v:AV)(l:List AV):Nat->List AV:=List.rec (motive:=λ_=>Nat->List AV) (λ_=>[]) (λa t ih n=>Nat.rec (motive:=λ_=>List AV) (v::t) (λk _=>a::ih k) n) l
def aBK(fr:List AV)(dst:Option Tmp)(v:AV):List AV:=Option.rec (motive:=λ_=>List AV) fr (λd=>aNB v fr d) dst
abbrev Sm:=Program->A8->List AV->AS->Oper->Option AR
def awH(t:Tmp)(_:A8)(fr:List AV):Option AV:=some (aMS fr t)
def amL(v:Value)(_:A8)(_:List AV):Option AV:=Wf v
def awG(g:Nat)(G:A8)(_:List AV):Option AV:=evG (G g)
def aJQ(f:FuncId)(_:A8)(_:List AV):Option AV:=some (.fn (.func f) [] [])
def evR(x:Operand):A8->List AV->Option AV:=Operand.rec (motive:=λ_=>A8->List AV->Option AV) awH amL awG aJQ x
def dT{α β:Type}(o:Option α)(f:α->Option β):Option β:=Option.rec (motive:=λ_=>Option β) none f o
def aED(s:AS)(v:AV):Option AR:=some (.val v s)
def aaE(s:AS)(o:Option AV):Option AR:=dT o (aED s)
def uQ(x:Operand):Sm:=λ_ G fr s _=>aaE s (evR x G fr)
def aqH(c a b:Operand):Sm:=λ_ G fr s _=>Mj s (auL (AY G fr a) (AY G fr b) (AY G fr c))
def ahM(e:TypeId):Sm:=λP _ _ s _=>afZ s (LY P e)
def aAA(_:TypeId)(x:Operand):Sm:=λ_ G fr s _=>tQ s (AY G fr x)
def ahN(t:TypeId)(ps:Array (Nat×Operand)):Sm:=λP G fr s _=>Mj s (fH (LJ G fr ps.toList) (Xu P t))
def ZE(t:TypeId)(n:Nat)(ps:Array (Nat×Operand)):Sm:=λP G fr s _=>Mj s (fH (LJ G fr ps.toList) (LW P t n))
def aqF(t:TypeId)(a:Operand):Sm:=λP G fr s _=>aaE s (dT (evR a G fr) (Jq P s t))
def ahV(t:TypeId)(a x:Operand):Sm:=λP G fr s _=>lR (two (AY G fr a) (AY G fr x) (Kr P s t))
def aAC(x:Operand):Sm:=λ_ G fr s _=>nJ s (AY G fr x)
def azZ(op:BinOp)(t:TypeId)(x y:Operand)(_:TypeId):Sm:=λP G fr s _=>aaE s (dT (evR x G fr) (λa=>dT (evR y G fr) (λb=>Xt P op t x y a b)))
def aFA(op:UnOp)(_:TypeId)(x:Operand):Sm:=λP G fr s _=>auP P s (Op.unary op) (fH (AY G fr x) YU)
def aqD(src dst:TypeId)(x:Operand):Sm:=λP G fr s _=>Mj s (fH (AY G fr x) (Re P src dst))
def ahQ(t:TypeId)(x:Operand):Sm:=λP G fr s _=>oQ t s (AY G fr x) (P.underlying t)
def aqE(f:Fn)(first caps:Array Operand):Sm:=λ_ G fr s _=>func1 f s (Zo G fr caps.toList) (Zo G fr first.toList)
def aAB(_:TypeId)(r:Option Operand):Sm:=λ_ _ _ s _=>jL s r
def aqG(t:TypeId)(l c:Operand):Sm:=λP G fr s _=>aaD (two (AY G fr l) (AY G fr c) (Jr P s t))
def ahU(t:TypeId)(x:Operand)(lo hi mx:Option Operand):Sm:=λP G fr s _=>ahZ P s t (fJ G fr lo) (fJ G fr hi) (fJ G fr mx) (AY G fr x)
def yQ(t:TypeId)(x:Operand)(k:Nat):Sm:=λP G fr s _=>aaE s (dT (evR x G fr) λa=>Rg P t a k)
def ahP(t:TypeId)(x:Operand)(k:Nat):Sm:=λP G fr s _=>Mj s (fH (AY G fr x) λa=>Xx P t a k)
def yS(t:TypeId)(x i:Operand):Sm:=λP G fr s _=>aaE s (dT (evR x G fr) (λa=>dT (evR i G fr) (λb=>CO P t a b)))
def ahR(t:TypeId)(x i:Operand):Sm:=λP G fr s _=>aaE s (dT (evR x G fr) (λa=>dT (evR i G fr) (λb=>WO P t a b)))
def yT(t:TypeId)(x k:Operand)(ok:Bool):Sm:=λP G fr s _=>Mj s (two (AY G fr x) (AY G fr k) λa b=>I9 P s t a b ok)
def ahT(t:TypeId)(m k x:Operand):Sm:=λP G fr s _=>lR (three (AY G fr m) (AY G fr k) (AY G fr x) (Kl P s t))
def ahO(t:TypeId)(m k:Operand):Sm:=λP G fr s _=>aaD (two (AY G fr m) (AY G fr k) (Pb P s t))
def yP(_:TypeId)(m st x:Operand):Sm:=λ_ G fr s _=>lR (three (AY G fr m) (AY G fr st) (AY G fr x) (LX s))
def qL(x:Operand)(k:Nat):Sm:=λ_ G fr s _=>Mj s (fH (AY G fr x) λa=>Rf a k)
def aqC(cl:Call):Sm:=λP G fr s o=>bL P G fr s o cl
def ahS(x:Operand):Sm:=λ_ G fr _ _=>aEM (AY G fr x)
def aEZ:Sm:=λ_ _ _ _ _=>none
def aEK(op:Op):Sm:=match op with
 | .move x=>uQ x
 | .assign x=>uQ x
 | .pick c a b=>aqH c a b
 | .alloc e=>ahM e
 | .box e x=>aAA e x
 | .build t ps=>ahN t ps
 | .buildSlice t n ps=>ZE t n ps
 | .load t a=>aqF t a
 | .store t a x=>ahV t a x
 | .nilCheck x=>aAC x
 | .binOp op t x y z=>azZ op t x y z
 | .unOp op t x=>aFA op t x
 | .convert a b x=>aqD a b x
 | .makeInterface t x=>ahQ t x
 | .makeFunc f a b=>aqE f a b
 | .makeMap t r=>aAB t r
 | .makeSlice t l c=>aqG t l c
 | .slice t x lo hi mx=>ahU t x lo hi mx
 | .fieldAddr t x k=>yQ t x k
 | .field t x k=>ahP t x k
 | .indexAddr t x i=>yS t x i
 | .index t x i=>ahR t x i
 | .lookup t x k ok=>yT t x k ok
 | .mapUpdate t m k x=>ahT t m k x
 | .insert t m k x=>ahT t m k x
 | .mapEntry t m k=>ahO t m k
 | .entryStore t m st x=>yP t m st x
 | .extract x k=>qL x k
 | .call cl=>aqC cl
 | .panic x=>ahS x
 | _=>aEZ
def adJ(ops:Array Oper)(fr:List AV)(g:Option (Nat×Bool)):Bool:=Option.rec (motive:=λ_=>Bool) true (λp=>adI ops fr (some p)) g
def aEL(r:Rec)(ops:Array Oper)(dst:Option Tmp)(l:List Oper)(fr:List AV):Option Rs->Option Rs
 | some (.call c s)=>(match c with
   | .ret v=>r (.ops ops l (aBK fr dst v) s)
   | .pan v=>some (.code (.pan v) fr s))
 | _=>none
def uV(P:Program)(G:A8)(r:Rec)(fr:List AV)(s:AS)(o:Oper)(b:Bool):Option Rs:=Bool.rec (motive:=λ_=>Option Rs) (some (.call (.ret (.sc undef)) s)) (opK r s (aEK o.op P G fr s o)) b
def aiE(P:Program)(G:A8)(r:Rec)(ops:Array Oper)(fr:List AV)(s:AS)(l:List Oper):Option Rs:=List.rec (motive:=λ_=>Option Rs) (some (.code .normal fr s)) (λo l _=>aEL r ops o.dst l fr (uV P G r fr s o (adJ ops fr o.guard))) l
abbrev Ss:=Program->A8->Rec->List AV->AS->Option Rs
def aAI:Ss:=λ_ _ _ fr s=>some (.code .normal fr s)
def aAG(id:Nat):Ss:=λ_ _ _ fr s=>some (.code (.exit id) fr s)
def aFD:Ss:=λ_ _ _ fr s=>some (.code .ret fr s)
def aFE(x y:Code):Ss:=λ_ _ r fr s=>aFC r y (r (.code x fr s))
def aAF(q:Operand)(x y:Code):Ss:=λ_ G r fr s=>atG r x y fr s (AY G fr q)
def aqN(id:Nat)(c:Code):Ss:=λ_ _ r fr s=>abC id (r (.code c fr s))
def aAH(c:Code):Ss:=λ_ _ r fr s=>abY (r (.loop c fr s))
def aiB(_:Nat)(ops:Array Oper)(d:Bool):Ss:=λP G r fr s=>uH P G r ops fr s d
def aNC:Ss:=λ_ _ _ _ _=>none
def amE(c:Code):Ss:=match c with
 | .skip=>aAI
 | .exit id=>aAG id
 | .ret=>aFD
 | .seq x y=>aFE x y
 | .cond q x y=>aAF q x y
 | .block id c=>aqN id c
 | .loop c=>aAH c
 | .region id ops d=>aiB id ops d
 | _=>aNC
def QS(P:Program)(G:A8)(X:asX)(H:Tg)(r:Rec):Tk->Option Rs
 | .code c fr s=>amE c P G r fr s
 | .loop c fr s=>auH r c (r (.code c fr s))
 | .ops ops l fr s=>aiE P G r ops fr s l
 | .draw ops l fr s q=>lD r ops fr s q l
 | .op ops o fr s=>uV P G r fr s o (adJ ops fr o.guard)
 | .call f args s=>aCF P H r f args s (X f args s)
end AI
namespace AI
open Go Go.RowKit
mutual
def plain:AV->Bool
 | .sc _=>true
 | .agg cs=>BC cs
 | .Dd cs=>BC cs
 | .sl o _ cs=>(match o with | .row _ _=>false | _=>true)&&BC cs
 | .ifc _ v=>plain v
 | .el cs=>BC cs
 | .fn _ a b=>BC a&&BC b
 | .any=>true
 | _=>false
def BC:List AV->Bool
 | []=>true
 | a::l=>plain a&&BC l
end
mutual
def TA:AV->AV
 | .agg cs=>.agg (Yn cs)
 | .Dd cs=>.Dd (Yn cs)
 | .sl o n cs=>.sl (match o with | .row _ _=>.lost | o=>o) n (Yn cs)
 | .ifc t v=>.ifc t (TA v)
 | .el cs=>.el (Yn cs)
 | a=>a
def Yn:List AV->List AV
 | []=>[]
 | a::l=>TA a::Yn l
end
mutual
def bY:AV->Bool
 | .sc _=>true
 | .agg cs=>KQ cs
 | .Dd cs=>KQ cs
 | .sl _ _ cs=>KQ cs
 | .ifc _ v=>bY v
 | .el cs=>KQ cs
 | .any=>true
 | _=>false
def KQ:List AV->Bool
 | []=>true
 | a::l=>bY a&&KQ l
end
section
variable {c c':Cx} {w w':World}
mutual
def Rp.plain(hv:∀g i v,LG c w g i v->LG c' w' g i v):∀{a:AV} {v:Value},AI.plain a=true->Rp c w a v->Rp c' w' a v:=by
 intro a v hp h;cases h with
 | sc h1=>exact .sc h1
 | agg h1=>exact .agg (CH.plain hv hp h1)
 | Dd h1=>exact .Dd (CH.plain hv hp h1)
 | @sl0 own A cap h1 =>
   simp only[AI.plain,Bool.and_eq_true] at hp;cases own with
   | full=>exact .sl0 h1
   | nil=>exact .sl0 h1
   | nn=>exact .sl0 h1
   | lost=>exact .sl0 h1
   | row r sz=>cases hp.1
 | @KM own n cap g o cs hn h1 ho =>
   simp only[AI.plain,Bool.and_eq_true] at hp;refine .KM hn (Bc.plain hv hp.2 h1) ?_;cases own with
   | full=>exact ho
   | nil=>exact ho
   | nn=>exact ho
   | lost=>trivial
   | row r sz=>cases hp.1
 | msl hn h1=>cases hp
 | el h1=>exact .el (Bc.plain hv hp h1)
 | ptr h1=>cases hp
 | fn h1 h2 =>
   simp only[AI.plain,Bool.and_eq_true] at hp;exact .fn (CH.plain hv hp.1 h1) (CH.plain hv hp.2 h2)
 | ifc h1=>exact .ifc (Rp.plain hv hp h1)
 | mp h1=>cases hp
 | any h1=>exact .any h1
 | raw=>first | (cases hp;done) | exact .raw
def CH.plain(hv:∀g i v,LG c w g i v->LG c' w' g i v):∀{a:List AV} {v:List Value},AI.BC a=true->CH c w a v->CH c' w' a v:=by
 intro a v hp h;cases h with
 | nil=>exact .nil
 | cons h1 t =>
   simp only[AI.BC,Bool.and_eq_true] at hp;exact .cons (Rp.plain hv hp.1 h1) (CH.plain hv hp.2 t)
def Bc.plain(hv:∀g i v,LG c w g i v->LG c' w' g i v):∀{a:List AV} {g o:Nat},AI.BC a=true->Bc c w g o a->Bc c' w' g o a:=by
 intro a g o hp h;cases h with
 | nil=>exact .nil
 | cons iY h1 t =>
   simp only[AI.BC,Bool.and_eq_true] at hp;exact .cons (hv _ _ _ iY) (Rp.plain hv hp.1 h1) (Bc.plain hv hp.2 t)
end
mutual
def Rp.TA(hv:∀g i v,LG c w g i v->LG c' w' g i v):∀{a:AV} {v:Value},bY a=true->Rp c w a v->Rp c' w' (AI.TA a) v:=by
 intro a v hp h;cases h with
 | sc h1=>exact .sc h1
 | agg h1=>exact .agg (CH.TA hv hp h1)
 | Dd h1=>exact .Dd (CH.TA hv hp h1)
 | @sl0 own A cap h1 =>
   cases own with
   | full=>exact .sl0 h1
   | nil=>exact .sl0 h1
   | nn=>exact .sl0 h1
   | lost=>exact .sl0 h1
   | row r sz=>exact .sl0 trivial
 | @KM own n cap g o cs hn h1 ho =>
   have h2:=Bc.TA hv hp h1;refine .KM hn h2 ?_;cases own with
   | full=>exact ho
   | nil=>exact ho
   | nn=>exact ho
   | lost=>trivial
   | row r sz=>trivial
 | msl hn h1=>cases hp
 | el h1=>exact .el (Bc.TA hv hp h1)
 | ptr h1=>cases hp
 | fn h1 h2=>cases hp
 | ifc h1=>exact .ifc (Rp.TA hv hp h1)
 | mp h1=>cases hp
 | any h1=>exact .any h1
 | raw=>first | (cases hp;done) | exact .raw
def CH.TA(hv:∀g i v,LG c w g i v->LG c' w' g i v):∀{a:List AV} {v:List Value},KQ a=true->CH c w a v->CH c' w' (AI.Yn a) v:=by
 intro a v hp h;cases h with
 | nil=>exact .nil
 | cons h1 t =>
   simp only[AI.KQ,Bool.and_eq_true] at hp;exact .cons (Rp.TA hv hp.1 h1) (CH.TA hv hp.2 t)
def Bc.TA(hv:∀g i v,LG c w g i v->LG c' w' g i v):∀{a:List AV} {g o:Nat},KQ a=true->Bc c w g o a->Bc c' w' g o (AI.Yn a):=by
 intro a g o hp h;cases h with
 | nil=>exact .nil
 | cons iY h1 t =>
   simp only[AI.KQ,Bool.and_eq_true] at hp;exact .cons (hv _ _ _ iY) (Rp.TA hv hp.1 h1) (Bc.TA hv hp.2 t)
end
end
def s0:AS:=⟨[],0,[],0⟩
end AI
namespace AI
open Go Go.RowKit
mutual
def under(n m:Nat):AV->Bool
 | .sc _=>true
 | .agg cs=>FC n m cs
 | .Dd cs=>FC n m cs
 | .sl o _ cs=>(match o with | .row r _=>decide (r < m) | _=>true)&&FC n m cs
 | .msl id _ _=>decide (id < n)
 | .el cs=>FC n m cs
 | .ptr id _=>decide (id < n)
 | .fn _ a b=>FC n m a&&FC n m b
 | .ifc _ v=>under n m v
 | .mp id=>decide (id < n)
 | .any=>true
 | .raw _ _ _=>true
def FC(n m:Nat):List AV->Bool
 | []=>true
 | a::l=>under n m a&&FC n m l
end
mutual
def Hp(n m:Nat):∀{a:AV},plain a=true->under n m a=true
 | .sc _,_=>rfl
 | .agg cs,h=>by simp only[plain] at h;simp only[under];exact Cp n m h
 | .Dd cs,h=>by simp only[plain] at h;simp only[under];exact Cp n m h
 | .sl o k cs,h=>by
   simp only[plain,Bool.and_eq_true] at h;simp only[under,Bool.and_eq_true];refine⟨?_,Cp n m h.2⟩;cases o with
   | row r sz=>cases h.1
   | _=>rfl
 | .msl _ _ _,h=>by cases h
 | .el cs,h=>by simp only[plain] at h;simp only[under];exact Cp n m h
 | .ptr _ _,h=>by cases h
 | .fn _ a b,h=>by
   simp only[plain,Bool.and_eq_true] at h;simp only[under,Bool.and_eq_true];exact⟨Cp n m h.1,Cp n m h.2⟩
 | .ifc _ v,h=>by simp only[plain] at h;simp only[under];exact Hp n m h
 | .mp _,h=>by cases h
 | .any,_=>rfl
 | .raw _ _ _,_=>rfl
def Cp(n m:Nat):∀{l:List AV},BC l=true->FC n m l=true
 | [],_=>rfl
 | a::l,h=>by
   simp only[BC,Bool.and_eq_true] at h;simp only[FC,Bool.and_eq_true];exact⟨Hp n m h.1,Cp n m h.2⟩
end
def Cx.upto(c:Cx)(n m:Nat):Cx:=⟨c.base,c.CT.take n,c.rows.take m,c.bad⟩
def EX{α:Type}{l:List α}{n i:Nat}{x:α}(h:(l.take n)[i]?=some x):l[i]?=some x/\i < n:=by
 rw[List.getElem?_take] at h;split at h;rename_i hi;exact⟨h,hi⟩;cases h
def Qw{α:Type}{l:List α}{n i:Nat}{x:α}(h:l[i]?=some x)(hi:i < n):(l.take n)[i]?=some x:=by
 rw[List.getElem?_take,if_pos hi];exact h
section
variable {c:Cx} {w:World} {n m:Nat}
def ahW{g i:Nat}(h:(c.upto n m).ZF g i):c.ZF g i:=by
 rcases h with h | ⟨r,n,cap,sz,hr,h⟩ | h
 exact .inl (List.mem_of_mem_take h);exact .inr (.inl ⟨r,n,cap,sz,(EX hr).1,h⟩);exact .inr (.inr h)
def UY{g i:Nat}{v:Value}(h:LG c w g i v):LG (c.upto n m) w g i v:=⟨h.1,λhs=>h.2.1 (ahW hs),h.2.2⟩
mutual
def Rp.upto:∀{a:AV} {v:Value},under n m a=true->Rp c w a v->Rp (c.upto n m) w a v:=by
 intro a v hp h;cases h with
 | sc h1=>exact .sc h1
 | agg h1=>exact .agg (CH.upto hp h1)
 | Dd h1=>exact .Dd (CH.upto hp h1)
 | @sl0 own A cap h1 =>
   simp only[AI.under,Bool.and_eq_true] at hp;cases own with
   | full=>exact .sl0 h1
   | nil=>exact .sl0 h1
   | nn=>exact .sl0 h1
   | lost=>exact .sl0 trivial
   | row r sz =>
     have hr:r < m:=of_decide_eq_true hp.1;refine .sl0 ⟨h1.1,?_⟩;have:=h1.2;simp only[Cx.upto,List.length_take];omega
 | @KM own k cap g o cs hn h1 ho =>
   simp only[AI.under,Bool.and_eq_true] at hp;refine .KM hn (Bc.upto hp.2 h1) ?_;cases own with
   | full=>exact ho
   | nil=>exact ho
   | nn=>exact ho
   | lost=>trivial
   | row r sz =>
     have hr:r < m:=of_decide_eq_true hp.1;refine⟨ho.1,ho.2.1,?_,λe=>ho.2.2.2.1 (EX e).1,λg' n' c' s' e=>ho.2.2.2.2 g' n' c' s' (EX e).1⟩;have:=ho.2.2.1;simp only[Cx.upto,List.length_take];omega
 | msl hn h1=>exact .msl hn (Qw h1 (of_decide_eq_true hp))
 | el h1=>exact .el (Bc.upto hp h1)
 | ptr h1=>exact .ptr (Qw h1 (of_decide_eq_true hp))
 | fn h1 h2 =>
   simp only[AI.under,Bool.and_eq_true] at hp;exact .fn (CH.upto hp.1 h1) (CH.upto hp.2 h2)
 | ifc h1=>exact .ifc (Rp.upto hp h1)
 | mp h1=>exact .mp (Qw h1 (of_decide_eq_true hp))
 | any h1=>exact .any h1
 | raw=>exact .raw
def CH.upto:∀{a:List AV} {v:List Value},FC n m a=true->CH c w a v->CH (c.upto n m) w a v:=by
 intro a v hp h;cases h with
 | nil=>exact .nil
 | cons h1 t =>
   simp only[AI.FC,Bool.and_eq_true] at hp;exact .cons (Rp.upto hp.1 h1) (CH.upto hp.2 t)
def Bc.upto:∀{a:List AV} {g o:Nat},FC n m a=true->Bc c w g o a->Bc (c.upto n m) w g o a:=by
 intro a g o hp h;cases h with
 | nil=>exact .nil
 | cons iY h1 t =>
   simp only[AI.FC,Bool.and_eq_true] at hp;exact .cons (UY iY) (Rp.upto hp.1 h1) (Bc.upto hp.2 t)
end
end
def Um:AV->Bool
 | .sc v=>WQ v
 | _=>true
def To{c:Cx}{w:World}{a:AV}{v:Value}(h:Rp c w a v)(hd:Um a=true):WQ v=true:=by
 cases h<;>first | rfl | exact hd | assumption | (cases hd;done)
def qW:AV->AV
 | .sl _ n cs=>.sl .lost n cs
 | a=>a
inductive Fg(n m:Nat):List AV->List AV->Prop where
 | nil:Fg n m [] []
 | G3 {a:AV} {l k:List AV} (h:under n m a=true) (t:Fg n m l k):Fg n m (a::l) (a::k)
 | drop {a:AV} {l k:List AV} (h:Um a=true) (t:Fg n m l k):Fg n m (a::l) (.any::k)
 | lost {o:Own} {j:Nat} {cs l k:List AV} (h:FC n m cs=true) (t:Fg n m l k):Fg n m (.sl o j cs::l) (.sl .lost j cs::k)
def Fg.ok{n m:Nat}{l k:List AV}(h:Fg n m l k){c:Cx}{w:World}{vs:List Value}(hr:CH c w l vs):CH (c.upto n m) w k vs:=by
 induction h generalizing vs with
 | nil=>cases hr;exact .nil
 | G3 h _ ih=>cases hr with | cons h1 t=>exact .cons (h1.upto h) (ih t)
 | drop h _ ih=>cases hr with | cons h1 t=>exact .cons (.any (To h1 h)) (ih t)
 | @lost o j cs l k h _ ih =>
   cases hr with
   | cons h1 t =>
     refine .cons ?_ (ih t);cases h1 with
     | sl0 _=>exact .sl0 trivial
     | KM hn hc ho=>exact .KM hn (hc.upto h) trivial
def Xk(n m:Nat):List (Value×AV×Nat)->Bool
 | []=>true
 | e::l=>under n m e.2.1&&Xk n m l
def ajG(n m:Nat):AL->Bool
 | .cells cs=>FC n m cs
 | .map es _=>Xk n m es
def Kp.upto{c:Cx}{w:World}{n m:Nat}:∀{es:List (Value×AV×Nat)} {fs:List MapEntry},Xk n m es=true->Kp c w es fs->Kp (c.upto n m) w es fs:=by
 intro es
 induction es with
 | nil=>intro fs _ h;cases h;exact .nil
 | cons e es ih =>
   intro fs hu h;obtain⟨x,a,b⟩:=e;simp only[Xk,Bool.and_eq_true] at hu;cases h with | cons h1 t=>exact .cons (h1.upto hu.1) (ih hu.2 t)
def Fh.upto{c:Cx}{w:World}{n m:Nat}{b:AL}{o:Obj}(hb:ajG n m b=true)(h:Fh c w b o):Fh (c.upto n m) w b o:=by
 cases h with
 | Hs ext h1=>exact .Hs ext (h1.upto hb)
 | map h1=>exact .map (h1.upto hb)
def Fits(n m:Nat)(a b:AV):Prop:=∀(c:Cx) (w:World) (v:Value),Rp c w a v->Rp (c.upto n m) w b v
def Jp(n m:Nat)(a b:List AV):Prop:=∀(c:Cx) (w:World) (v:List Value),CH c w a v->CH (c.upto n m) w b v
def SR(n m:Nat)(a b:List AV):Prop:=∀(c:Cx) (w:World) (g o:Nat),Bc c w g o a->Bc (c.upto n m) w g o b
def QF(n m:Nat)(a b:AL):Prop:=∀(c:Cx) (w:World) (o:Obj),Fh c w a o->Fh (c.upto n m) w b o
def Fg.fits{n m:Nat}{l k:List AV}(h:Fg n m l k):Jp n m l k:=λ_ _ _ hr=>h.ok hr
def Fits.under{n m:Nat}{a:AV}(h:AI.under n m a=true):Fits n m a a:=λ_ _ _ hr=>hr.upto h
def Jp.under{n m:Nat}{a:List AV}(h:AI.FC n m a=true):Jp n m a a:=λ_ _ _ hr=>hr.upto h
def SR.under{n m:Nat}{a:List AV}(h:AI.FC n m a=true):SR n m a a:=λ_ _ _ _ hr=>hr.upto h
def QF.under{n m:Nat}{b:AL}(h:ajG n m b=true):QF n m b b:=λ_ _ _ hr=>hr.upto h
def Fits.plain{n m:Nat}{a:AV}(h:AI.plain a=true):Fits n m a a:=.under (Hp n m h)
def Jp.plain{n m:Nat}{a:List AV}(h:BC a=true):Jp n m a a:=.under (Cp n m h)
def SR.plain{n m:Nat}{a:List AV}(h:BC a=true):SR n m a a:=.under (Cp n m h)
def Fits.sc{n m:Nat}{v:Value}:Fits n m (.sc v) (.sc v):=.under rfl
def Fits.drop{n m:Nat}{a:AV}(h:Um a=true):Fits n m a .any:=λ_ _ _ hr=>.any (To hr h)
def Fits.agg{n m:Nat}{a b:List AV}(h:Jp n m a b):Fits n m (.agg a) (.agg b):=λ_ _ _ hr=>by cases hr with | agg h1=>exact .agg (h _ _ _ h1)
def Fits.Dd{n m:Nat}{a b:List AV}(h:Jp n m a b):Fits n m (.Dd a) (.Dd b):=λ_ _ _ hr=>by cases hr with | Dd h1=>exact .Dd (h _ _ _ h1)
def Fits.lost{n m:Nat}{o:Own}{k:Nat}{a b:List AV}(h:SR n m a b)(e:a=[]->b=[]):Fits n m (.sl o k a) (.sl .lost k b):=λ_ _ _ hr=>by
 cases hr with
 | sl0 _=>rw[e rfl];exact .sl0 trivial
 | KM hn hc ho=>exact .KM hn (h _ _ _ _ hc) trivial
def Jp.nil{n m:Nat}:Jp n m [] []:=λ_ _ _ hr=>by cases hr;exact .nil
def Jp.cons{n m:Nat}{a b:AV}{l k:List AV}(h:Fits n m a b)(t:Jp n m l k):Jp n m (a::l) (b::k):=λ_ _ _ hr=>by cases hr with | cons h1 t1=>exact .cons (h _ _ _ h1) (t _ _ _ t1)
def SR.nil{n m:Nat}:SR n m [] []:=λ_ _ _ _ hr=>by cases hr;exact .nil
def SR.cons{n m:Nat}{a b:AV}{l k:List AV}(h:Fits n m a b)(t:SR n m l k):SR n m (a::l) (b::k):=λ_ _ _ _ hr=>by cases hr with | cons hv h1 t1=>exact .cons (UY hv) (h _ _ _ h1) (t _ _ _ _ t1)
def QF.cells{n m:Nat}{a b:List AV}(h:Jp n m a b):QF n m (.cells a) (.cells b):=λ_ _ _ hr=>by cases hr with | Hs ext h1=>exact .Hs ext (h _ _ _ h1)
def amS{G:A8}(hG:∀g cs,G g=some cs->BC cs=true){s s' s2:AS}{fr' fr2:List AV}(hn:s2.nx=s.nx)(hr:s2.nr=s.nr)
   (hd:Jo s2.h s2.nx) (axB:∀id b,look id s2.h=some b->∃b',look id s'.h=some b'/\QF s.nx s.nr b' b) (hF:∀r n,DY r s2.F=some n->DY r s'.F=some n/\r < s.nr)
   (hf:Jp s.nx s.nr fr' fr2) (cx:Cx) (w:World) (c':Cx) (w':World) (vs:List Value) (hx:Ext cx w c' w') (hs:St G cx w s) (hs':St G c' w' s') (hfr:CH c' w' fr' vs) :
   ∃c2,Ext cx w c2 w'/\St G c2 w' s2/\CH c2 w' fr2 vs:=by
 have RC:c'.CT.take s.nx=cx.CT:=by
   obtain⟨t,ht⟩:=hx.CT;rw[<- ht,hs.len,List.take_left]
 have hrl:(c'.rows.take s.nr).length=cx.rows.length:=by
   have:=hx.IN;rw[List.length_take,hs.IN];omega
 refine⟨c'.upto s.nx s.nr,⟨?_,?_,λr x WY h=>?_,λg i v hv=>UY (hx.ZI g i v hv),hx.below,hx.base,hx.bad,λg hg=>hx.ZA g (List.mem_of_mem_take hg),λr g n cap sz h=>hx.ZB r g n cap sz (EX h).1,hx.G3⟩,?_,hf _ _ _ hfr⟩;show cx.CT <+: c'.CT.take s.nx;rw[RC];exact List.prefix_refl _;show cx.rows.length<=(c'.rows.take s.nr).length;omega;exact hx.rows r x WY (EX h).1;refine⟨?_,hd,λi j g h1 h2=>hs'.nodup i j g (EX h1).1 (EX h2).1,λg hg=>hs'.low g (List.mem_of_mem_take hg),λid g b h1 h2=>?_,?_,λr g n cap sz h=>?_,λr n h=>?_,λg hg=>hs'.Md g (List.mem_of_mem_take hg),hs'.Mn,λr r' g n cap sz n' cap' M4 h h'=>hs'.IH r r' g n cap sz n' cap' M4 (EX h).1 (EX h').1,λg cs hg=>(hs'.Mp g cs hg).upto (Cp _ _ (hG g cs hg)),hs'.PV⟩;show s2.nx=(c'.CT.take s.nx).length;rw[RC,hn,hs.len];obtain⟨b',h3,h4⟩:=axB id b h2;obtain⟨o,ho,hb⟩:=hs'.box id g b' (EX h1).1 h3;exact⟨o,ho,h4 _ _ _ hb⟩;show s2.nr=(c'.rows.take s.nr).length;rw[hrl,hr,hs.IN];obtain⟨a1,a2,a3,a4⟩:=hs'.row r g n cap sz (EX h).1;exact⟨a1,a2,λhm=>a3 (List.mem_of_mem_take hm),a4⟩;obtain⟨h1,h2⟩:=hF r n h;rcases hs'.IZ r n h1 with ⟨h3,h4⟩ | ⟨g,cap,sz,h3⟩
 exact .inl ⟨Qw h3 h2,h4⟩;exact .inr ⟨g,cap,sz,Qw h3 h2⟩
end AI
namespace AI
open Go Go.RowKit
section
variable {P:Program} {G:A8} {X:Wq} {H:Tg}
def W(P:Program)(G:A8)(X:Wq)(H:Tg)(c:Code)(fr:List AV)(s:AS)(Q:AX->List AV->AS->Prop):Prop:=∃e fr' s',J P G X H (.code c fr s e fr' s')/\Q e fr' s'
def WL(P:Program)(G:A8)(X:Wq)(H:Tg)(c:Code)(fr:List AV)(s:AS)(Q:AX->List AV->AS->Prop):Prop:=∃e fr' s',J P G X H (.loop c fr s e fr' s')/\Q e fr' s'
def WC(P:Program)(G:A8)(X:Wq)(H:Tg)(f:FuncId)(args:List AV)(s:AS)(Q:CR->AS->Prop):Prop:=∃r s',J P G X H (.call f args s r s')/\Q r s'
def auZ(P:Program)(G:A8)(X:Wq)(H:Tg)(y:Code)(Q:AX->List AV->AS->Prop):AX->List AV->AS->Prop
 | .normal,fr,s=>W P G X H y fr s Q
 | e,fr,s=>Q e fr s
def Di(id:Nat)(Q:AX->List AV->AS->Prop):AX->List AV->AS->Prop:=λe fr s=>Q (D8 id e) fr s
def SW(P:Program)(fn:Func)(n:Nat)(Q:CR->AS->Prop):AX->List AV->AS->Prop
 | .normal,fr,s=>∃v,GB P s fn fr=some v/\Q (.ret v) (s.cut n)
 | .ret,fr,s=>∃v,GB P s fn fr=some v/\Q (.ret v) (s.cut n)
 | .pan v,_,s=>Q (.pan v) (s.cut n)
 | _,_,_=>False
def W.mono{c:Code}{fr:List AV}{s:AS}{Q R:AX->List AV->AS->Prop}(h:W P G X H c fr s Q)(k:∀e fr s,Q e fr s->R e fr s):W P G X H c fr s R:=by
 obtain⟨e,fr',s',h1,h2⟩:=h;exact⟨e,fr',s',h1,k _ _ _ h2⟩
def WC.mono{f:FuncId}{args:List AV}{s:AS}{Q R:CR->AS->Prop}(h:WC P G X H f args s Q)(k:∀r s,Q r s->R r s):WC P G X H f args s R:=by
 obtain⟨r,s',h1,h2⟩:=h;exact⟨r,s',h1,k _ _ h2⟩
def aBF{x y:Code}{fr:List AV}{s:AS}{Q:AX->List AV->AS->Prop}(h:W P G X H x fr s (auZ P G X H y Q)):W P G X H (.seq x y) fr s Q:=by
 obtain⟨e,Vl,s1,h1,h2⟩:=h;cases e with
 | normal =>
   obtain⟨e2,fr2,s2,h3,h4⟩:=h2;exact⟨e2,fr2,s2,.seq h1 h3,h4⟩
 | exit id=>exact⟨_,_,_,.qM h1 (by simp),h2⟩
 | ret=>exact⟨_,_,_,.qM h1 (by simp),h2⟩
 | pan v=>exact⟨_,_,_,.qM h1 (by simp),h2⟩
def alM{q:Operand}{x y:Code}{fr:List AV}{s:AS}{Q:AX->List AV->AS->Prop}(hq:Ba G fr q=some (.sc (.bool true)))(h:W P G X H x fr s Q):W P G X H (.cond q x y) fr s Q:=by
 obtain⟨e,Vl,s1,h1,h2⟩:=h;exact⟨e,Vl,s1,.cond hq h1,h2⟩
def alL{q:Operand}{x y:Code}{fr:List AV}{s:AS}{Q:AX->List AV->AS->Prop}(hq:Ba G fr q=some (.sc (.bool false)))(h:W P G X H y fr s Q):W P G X H (.cond q x y) fr s Q:=by
 obtain⟨e,Vl,s1,h1,h2⟩:=h;exact⟨e,Vl,s1,.cond hq h1,h2⟩
def rF{id:Nat}{c:Code}{fr:List AV}{s:AS}{Q:AX->List AV->AS->Prop}(h:W P G X H c fr s (Di id Q)):W P G X H (.block id c) fr s Q:=by
 obtain⟨e,Vl,s1,h1,h2⟩:=h;exact⟨_,Vl,s1,.block h1,h2⟩
def avP{c:Code}{fr:List AV}{s:AS}{Q:AX->List AV->AS->Prop}(h:WL P G X H c fr s Q):W P G X H (.loop c) fr s Q:=by
 obtain⟨e,Vl,s1,h1,h2⟩:=h;exact⟨_,Vl,s1,.loop h1,h2⟩
def drop_cons{α:Type}{o:α}{l m:List α}{k:Nat}(h:o::l=m.drop k):m[k]?=some o/\l=m.drop (k+1):=by
 constructor;have:=congrArg (λx=>x[0]?) h;simpa using this.symm
 have:=congrArg List.tail h;rw[List.tail_drop] at this;exact this
def AA{f:FuncId}{fn:Func}{c:Code}{args:List AV}{s:AS}{Q:CR->AS->Prop}(hf:P.funcs[f]?=some fn)(hb:fn.body=some c)(h:W P G X H c (args++List.replicate (fn.ntmps - args.length) (.sc undef)) s (SW P fn s.nx Q)):WC P G X H f args s Q:=by
 obtain⟨e,Vl,s1,h1,h2⟩:=h;cases e with
 | normal=>obtain⟨v,h3,h4⟩:=h2;exact⟨_,_,.body hf hb h1 (.inl rfl) h3 (.inl rfl),h4⟩
 | ret=>obtain⟨v,h3,h4⟩:=h2;exact⟨_,_,.body hf hb h1 (.inr rfl) h3 (.inl rfl),h4⟩
 | pan v=>exact⟨_,_,.atC hf hb h1,h2⟩
 | exit id=>exact h2.elim
end
end AI
namespace AI
open Go Go.RowKit
abbrev XS(P:Program)(G:A8):Wq:=λf args s r s'=>Sound P G (.call f args s r s')
def H0:Tg:=λ_ _=>none
def Rz{P:Program}{G:A8}(h:P.follows .mixedOrders=true):asY P G (XS P G) H0:=⟨h,λ_ _ _ _ _ h=>h,λ_ _ _ _ _ h=>by cases h⟩
def Pure(P:Program)(G:A8)(f:FuncId)(args:List AV)(v:AV):Prop:=∀s,Sound P G (.call f args s (.ret v) s)
def rows{α:Type}(f:α->List AV)(l:List α):List AV:=l.flatMap f
def Sg{α:Type}{f:α->List AV}{k:Nat}(hf:∀x,(f x).length=k){l:List α}{i:Nat}{x:α}(h:l[i]?=some x):(rows f l).drop (i*k)=f x++rows f (l.drop (i+1)):=by
 induction l generalizing i with
 | nil=>simp at h
 | cons y l ih =>
   cases i with
   | zero=>simp at h;subst h;simp[rows]
   | succ i =>
     have:=ih (i:=i) (by simpa using h)
     have e:rows f (y::l)=f y++rows f l:=by simp[rows]
     rw[e,List.drop_append,hf y,show(i+1)*k - k=i*k by rw[Nat.add_mul];omega,List.drop_eq_nil_of_le (by rw[hf y,Nat.add_mul];omega),List.nil_append,this];simp
def Is{α:Type}{f:α->List AV}{k:Nat}(hf:∀x,(f x).length=k)(l:List α):(rows f l).length=l.length*k:=by
 induction l with
 | nil=>simp[rows]
 | cons y l ih =>
   have e:rows f (y::l)=f y++rows f l:=by simp[rows]
   rw[e,List.length_append,hf y,ih,List.length_cons,Nat.add_mul];omega
def Oz{α:Type}(f:α->List AV)(l m:List α):rows f (l++m)=rows f l++rows f m:=by simp[rows]
def F9{α:Type}(f:α->List AV)(x:α)(m:List α):rows f (x::m)=f x++rows f m:=by simp[rows]
def qG{α:Type}{f:α->List AV}{l:List α}(h:∀x∈l,BC (f x)=true):BC (rows f l)=true:=by
 have T7:∀a b:List AV,BC a=true->BC b=true->BC (a++b)=true:=by
   intro a b ha hb
   induction a with
   | nil=>exact hb
   | cons x a ih =>
     simp only[BC,Bool.and_eq_true,List.cons_append] at ha ⊢;exact⟨ha.1,ih ha.2⟩
 induction l with
 | nil=>rfl
 | cons y l ih=>rw[F9];exact T7 _ _ (h y List.mem_cons_self) (ih λx hx=>h x (List.mem_cons_of_mem _ hx))
def oS{P:Program}{α:Type}{f:α->List AV}{k:Nat}{t elem:TypeId}{e:TypeInfo}(hu:P.underlying t=some (.slice elem))(he:P.info? elem=some e)(hk:e.size=k)(hf:∀x,(f x).length=k){own:Own}{l:List α}{i:Nat}{x:α}(h:l[i]?=some x) :
   CO P t (.sl own l.length (rows f l)) (.sc (.int .i64 (i:Int)))=some (.el (f x++rows f (l.drop (i+1)))):=by
 have hi:=(List.getElem?_eq_some_iff.1 h).1
 have hn:QV (.sc (.int .i64 (i:Int)))=some i:=by
   unfold QV;simp
 unfold CO;rw[hu,hn];simp only[he,hk,if_pos hi,Sg hf h]
def ajX{i:Nat}(h:i<=9223372036854775807):IntKind.i64.wrap (i:Int)=(i:Int):=by
 refine IntWalk.i64_in _ ?_;omega
end AI
namespace AI
open Go Go.RowKit
section
variable {G:A8}
inductive NZ where
 | t (tmp sz:Nat)
 | b (id i sz:Nat)
 | l (tmp:Nat)
 | lb (id i:Nat)
def aoJ:AV->Bool
 | .sl .full n cs=>(match n with | 0=>(match cs with | []=>true | _=>false) | _=>false)
 | _=>false
def nz1(fr:List AV)(s:AS):NZ->Option (List AV×AS)
 | .t k sz=>(match fr[k]? with
   | some a=>(match aoJ a with
     | true=>some (fr.set k (.sl (.row s.nr sz) 0 []),s.tok)
     | false=>none)
   | none=>none)
 | .b id i sz=>(match look id s.h with
   | some (.cells cs)=>(match cs[i]? with
     | some a=>(match aoJ a with
       | true=>some (fr,⟨QT id (.cells (cs.set i (.sl (.row s.nr sz) 0 []))) s.h,s.nx,(s.nr,0)::s.F,s.nr+1⟩)
       | false=>none)
     | none=>none)
   | _=>none)
 | .l k=>(match fr[k]? with
   | some a=>some (fr.set k (qW a),s)
   | none=>none)
 | .lb id i=>(match look id s.h with
   | some (.cells cs)=>(match cs[i]? with
     | some a=>some (fr,⟨QT id (.cells (cs.set i (qW a))) s.h,s.nx,s.F,s.nr⟩)
     | none=>none)
   | _=>none)
def nzs:List NZ->List AV->AS->Option (List AV×AS)
 | [],fr,s=>some (fr,s)
 | z::l,fr,s=>(match nz1 fr s z with
   | some (fr,s)=>nzs l fr s
   | none=>none)
def Wkn(G:A8)(fr:List AV)(s:AS)(fr2:List AV)(s2:AS):Prop:=∀(cx:Cx) (w:World) (vs:List Value),St G cx w s->CH cx w fr vs->∃cx2,Ext cx w cx2 w/\St G cx2 w s2/\CH cx2 w fr2 vs
def Wkn.refl{fr:List AV}{s:AS}:Wkn G fr s fr s:=λcx w vs h1 h2=>⟨cx,Ext.refl _ _,h1,h2⟩
def Wkn.trans{fr fr2 fr3:List AV}{s s2 s3:AS}(h:Wkn G fr s fr2 s2)(k:Wkn G fr2 s2 fr3 s3):Wkn G fr s fr3 s3:=λcx w vs h1 h2=>by
 obtain⟨c2,x2,s2,r2⟩:=h cx w vs h1 h2;obtain⟨c3,x3,s3,r3⟩:=k c2 w vs s2 r2;exact⟨c3,x2.trans x3,s3,r3⟩
def tU{a:AV}(h:aoJ a=true){c:Cx}{w:World}{v:Value}(hr:Rp c w a v){r sz:Nat}(hl:r < c.rows.length):Rp c w (.sl (.row r sz) 0 []) v:=by
 unfold aoJ at h;split at h
 · split at h
   · split at h
     · cases hr with
       | sl0 h0=>exact .sl0 ⟨h0,hl⟩
       | KM hn hc ho =>
         have:_=0:=ho;subst this;exact .sl0 ⟨rfl,hl⟩
     cases h
   cases h
 cases h
def aV{a:AV}{c:Cx}{w:World}{v:Value}(hr:Rp c w a v):Rp c w (qW a) v:=by
 cases hr with
 | sl0 _=>exact .sl0 trivial
 | KM hn hc ho=>exact .KM hn hc trivial
 | sc h=>exact .sc h
 | agg h=>exact .agg h
 | Dd h=>exact .Dd h
 | msl h1 h2=>exact .msl h1 h2
 | el h=>exact .el h
 | ptr h=>exact .ptr h
 | fn h1 h2=>exact .fn h1 h2
 | ifc h=>exact .ifc h
 | mp h=>exact .mp h
 | any h=>exact .any h
 | raw=>exact .raw
def CH.aqK{c:Cx}{w:World}{as:List AV}{vs:List Value}(h:CH c w as vs){i:Nat}{a b:AV}(ha:as[i]?=some a)(hb:∀v,Rp c w a v->Rp c w b v):CH c w (as.set i b) vs:=by
 induction as generalizing vs i with
 | nil=>simp at ha
 | cons x as ih =>
   cases h with
   | cons h1 t =>
     cases i with
     | zero=>simp at ha;subst ha;exact .cons (hb _ h1) t
     | succ i=>exact .cons h1 (ih t (by simpa using ha))
def St.qB{c:Cx}{w:World}{s:AS}(h:St G c w s){id:Nat}{b b2:AL}(hb:look id s.h=some b)(hk:∀o,Fh c w b o->Fh c w b2 o):St G c w ⟨QT id b2 s.h,s.nx,s.F,s.nr⟩ :=
 ⟨h.len,Y1 h.desc,h.nodup,h.low,λQK g b' h1 h2=>by
   rcases Y2 h2 with ⟨rfl,rfl⟩ | ⟨_,h3⟩
   obtain⟨o,ho,xE⟩:=h.box _ g b h1 hb;exact⟨o,ho,hk o xE⟩;exact h.box QK g b' h1 h3,h.IN,h.row,h.IZ,h.Md,h.Mn,h.IH,h.Mp,h.PV⟩
def azD{fr fr2:List AV}{s s2:AS}{z:NZ}(h:nz1 fr s z=some (fr2,s2)):Wkn G fr s fr2 s2:=by
 intro cx w vs hs hr;cases z with
 | t k sz =>
   simp only[nz1] at h;split at h;rename_i a ha;split at h;rename_i hn;cases h;obtain⟨x,st⟩:=hs.tok;refine⟨_,x,st,(hr.mono x).aqK ha (λv hv=>tU hn hv ?_)⟩;simp[hs.IN];cases h;cases h
 | b id i sz =>
   simp only[nz1] at h;split at h;rename_i cs hb;split at h;rename_i a ha;split at h;rename_i hn;cases h;obtain⟨x,st⟩:=hs.tok;refine⟨_,x,st.qB (b:=.cells cs) hb (λo ho=>?_),hr.mono x⟩;cases ho with
   | Hs ext h1=>exact .Hs ext (h1.aqK ha (λv hv=>tU hn hv (by simp[hs.IN])))
   cases h;cases h;cases h
 | l k =>
   simp only[nz1] at h;split at h;rename_i a ha;cases h;exact⟨cx,Ext.refl _ _,hs,hr.aqK ha (λv hv=>aV hv)⟩;cases h
 | lb id i =>
   simp only[nz1] at h;split at h;rename_i cs hb;split at h;rename_i a ha;cases h;refine⟨cx,Ext.refl _ _,hs.qB (b:=.cells cs) hb (λo ho=>?_),hr⟩;cases ho with
   | Hs ext h1=>exact .Hs ext (h1.aqK ha (λv hv=>aV hv))
   cases h;cases h
def pJ:∀{l:List NZ} {fr fr2:List AV} {s s2:AS},nzs l fr s=some (fr2,s2)->Wkn G fr s fr2 s2:=by
 intro l
 induction l with
 | nil=>intro fr fr2 s s2 h;simp only[nzs] at h;cases h;exact .refl
 | cons z l ih =>
   intro fr fr2 s s2 h;simp only[nzs] at h;split at h;rename_i f1 s1 h1;exact(azD h1).trans (ih h);cases h
end
end AI
namespace AI
open Go Go.RowKit
def eqV:Value->Value->Bool
 | .string a,.string b=>BS a.data.toList b.data.toList
 | .int k a,.int k' b=>(match sameKind k k' with | true=>Dr a b | false=>false)
 | a,b=>alS a b
def awE{a b:Value}(h:eqV a b=true):a=b:=by
 unfold eqV at h;split at h;rename_i x y;rw[Ru,beq_iff_eq] at h;have:x=y:=ByteArray.ext (Array.ext' h);rw[this];split at h;rename_i hk;rw[Nn,beq_iff_eq] at h;rw[Wm hk,h];cases h;exact rJ h
def atI:Own->Own->Bool
 | .full,.full=>true
 | .lost,.lost=>true
 | .nil,.nil=>true
 | .nn,.nn=>true
 | _,_=>false
def acO{a b:Own}(h:atI a b=true):a=b:=by cases a<;>cases b<;>first | rfl | cases h
mutual
def cG:AV->AV->Bool
 | .sc a,.sc b=>eqV a b
 | .agg a,.agg b=>eqL a b
 | .Dd a,.Dd b=>eqL a b
 | .sl o n a,.sl p m b=>(match atI o p with
   | true=>(match Nat.beq n m with | true=>eqL a b | false=>false)
   | false=>false)
 | .ifc t a,.ifc u b=>(match Nat.beq t u with | true=>cG a b | false=>false)
 | _,_=>false
def eqL:List AV->List AV->Bool
 | [],[]=>true
 | a::as,b::bs=>(match cG a b with | true=>eqL as bs | false=>false)
 | _,_=>false
end
mutual
def acN:∀{a b:AV},cG a b=true->a=b
 | .sc a,b,h=>by
   cases b<;>first
     | (simp only[cG] at h;rw[awE h])
     | (simp[cG] at h;done)
 | .agg a,b,h=>by
   cases b<;>first
     | (simp only[cG] at h;rw[cH h])
     | (simp[cG] at h;done)
 | .Dd a,b,h=>by
   cases b<;>first
     | (simp only[cG] at h;rw[cH h])
     | (simp[cG] at h;done)
 | .sl o n a,b,h=>by
   cases b<;>first
     | (simp only[cG] at h
        split at h;rename_i h1;split at h;rename_i h2;rw[acO h1,beq_true h2,cH h];cases h;cases h)
     | (simp[cG] at h;done)
 | .ifc t a,b,h=>by
   cases b<;>first
     | (simp only[cG] at h
        split at h;rename_i h1;rw[beq_true h1,acN h];cases h)
     | (simp[cG] at h;done)
 | .msl _ _ _,b,h=>by simp[cG] at h
 | .el _,b,h=>by simp[cG] at h
 | .ptr _ _,b,h=>by simp[cG] at h
 | .fn _ _ _,b,h=>by simp[cG] at h
 | .mp _,b,h=>by simp[cG] at h
 | .any,b,h=>by simp[cG] at h
def cH:∀{a b:List AV},eqL a b=true->a=b
 | [],b,h=>by cases b<;>first | rfl | (simp[eqL] at h;done)
 | a::as,b,h=>by
   cases b<;>first
     | (simp[eqL] at h;done)
     | (simp only[eqL] at h
        split at h;rename_i h1;rw[acN h1,cH h];cases h)
end
structure Ent where
 f:Nat
 args:List AV
 box:Option (List AV×List AV)
 v:AV
def aaL(P:Program)(G:A8)(e:Ent):Prop:=match e.box with
 | none=>∀s,Sound P G (.call e.f e.args s (.ret e.v) s)
 | some (cs,cs')=>∀s id,s.get id=some (.cells cs)->Sound P G (.call e.f (.ptr id 0::e.args) s (.ret e.v) (s.put id (.cells cs')))
def aNU.cons{P:Program}{G:A8}{e:Ent}{l:List Ent}(he:aaL P G e)(hl:∀e∈l,aaL P G e):∀e'∈e::l,aaL P G e':=λe' h=>by
 rcases List.mem_cons.1 h with h | h
 rw[h];exact he;exact hl e' h
end AI
namespace AI
open Go Go.RowKit
inductive Hn where
 | k
 | b (b:Bool)
 | i (z:Int)
 | w (v:AV)
 | a (v:AV) (s:AS)
 | ae (v:AV)
 | af (v:AV)
 | m (s:AS)
 | l (v:AV)
 | s (s:AS)
 | c (v:AV) (s:AS)
 | o (v:AV)
 | z (c:Nat)
 | p (v:AV) (s:AS)
 | g (sz k:Nat) (cs:List AV)
 | u (v:AV) (pre:List (Nat×AL)) (tp:List (Nat×Nat)) (Qy:List (Nat×AL)) (tu:List (Nat×Nat))
 | q (v:AV) (pre:List (Nat×AL)) (tp:List (Nat×Nat)) (Qy:List (Nat×AL)) (tu:List (Nat×Nat))
 | n (l:List NZ)
 | x (b:AL) (v:AV)
 | y (b b2:AL)
 | lb (m:AL) (v:AV)
 | sb (m m2:AL)
 | mb (n:Nat) (m:AL)
 | za
 | zq (c:Nat)
 | cn (v:AV) (h:List (Nat×AL)) (dn:Nat) (F:List (Nat×Nat)) (dr:Nat)
 | f (id:Nat) (b b2:AL)
inductive Cd where
 | eqb (B b:Bool)
 | eqi (X z:Int)
 | idx (t:TypeId) (a b v:AV)
 | bin (op:BinOp) (t:TypeId) (x y:Operand) (a b v:AV)
 | call (f:FuncId) (args:List AV) (s:AS) (v:AV)
 | T7 (s:AS) (t tx:TypeId) (a b v:AV) (s1:AS)
 | ix (t:TypeId) (a b v:AV)
 | lk (s:AS) (t:TypeId) (a b:AV) (ok:Bool) (v:AV)
 | ms (s:AS) (t:TypeId) (a b v:AV) (s1:AS)
 | atF (f:FuncId) (args:List AV) (s:AS) (v:AV) (s1:AS)
 | ld (s:AS) (t:TypeId) (a v:AV)
 | st (s:AS) (t:TypeId) (a x:AV) (s1:AS)
 | mk (s:AS) (t:TypeId) (a b v:AV) (s1:AS)
 | sli (t:TypeId) (a:AV) (l h m:Option AV) (v:AV)
 | atE (f:FuncId) (args:List AV) (s:AS) (v:AV) (s1:AS)
 | pur (f:FuncId) (args:List AV) (v:AV)
 | Zg (t tx:TypeId) (own:Own) (n:Nat) (cs:List AV) (b:AV) (sz k:Nat) (cs2:List AV)
 | eqn (k n:Nat)
 | E6 (f:FuncId) (args:List AV) (r:CR) (pre:List (Nat×AL)) (tp:List (Nat×Nat)) (Qy:List (Nat×AL)) (tu:List (Nat×Nat))
 | rU (a b:List (Option AL)) (c d:List (Option Nat))
 | lkB (b:AL) (t:TypeId) (k:AV) (ok:Bool) (v:AV)
 | msB (b:AL) (t:TypeId) (k v:AV) (b2:AL)
 | ldB (b:AL) (t:TypeId) (off:Nat) (v:AV)
 | stB (b:AL) (t:TypeId) (off:Nat) (x:AV) (b2:AL)
 | mkB (t:TypeId) (a x:AV) (n:Nat) (m:AL)
 | apB (t tx:TypeId) (a b:AV) (n:Nat) (m:AL)
 | ZR (f:FuncId) (args:List AV) (nx nr:Nat) (v:AV) (h:List (Nat×AL)) (dn:Nat) (F:List (Nat×Nat)) (dr:Nat)
 | rd (nr:Nat) (b b2:AL)
 | cv (t t2:TypeId) (a v:AV)
 | apf (t tx:TypeId) (a b v:AV)
def AS.VO(s:AS):List (Nat×AL)->AS
 | []=>s
 | e::l=>(s.put e.1 e.2).VO l
def AS.S3(s:AS):List (Nat×Nat)->AS
 | []=>s
 | e::l=>(AS.mk s.h s.nx (yU e.1 e.2 s.F) s.nr).S3 l
def X0(s:AS):List (Nat×AL)->List (Option AL)
 | []=>[]
 | e::l=>s.get e.1::X0 s l
def N0:List (Nat×AL)->List (Option AL)
 | []=>[]
 | e::l=>some e.2::N0 l
def ZX(F:List (Nat×Nat)):List (Nat×Nat)->List (Option Nat)
 | []=>[]
 | e::l=>DY e.1 F::ZX F l
def OD:List (Nat×Nat)->List (Option Nat)
 | []=>[]
 | e::l=>some e.2::OD l
def Cd.ok(P:Program)(G:A8):Cd->Prop
 | .eqb B b=>B=b
 | .eqi X z=>X=z
 | .idx t a b v=>CO P t a b=some v
 | .bin op t x y a b v=>Lf P op t x y a b=some v
 | .call f args s v=>Sound P G (.call f args s (.ret v) s)
 | .T7 s t tx a b v s1=>∃v0,KN P s t tx a b=some (v0,s1)/\∀c w u,Rp c w v0 u->Rp c w v u
 | .ix t a b v=>Lq P t a b=some v
 | .lk s t a b ok v=>I9 P s t a b ok=some v
 | .ms s t a b v s1=>Kl P s t a b v=some s1
 | .atF f args s v s1=>Sound P G (.call f args s (.ret v) s1)
 | .ld s t a v=>Jq P s t a=some v
 | .st s t a x s1=>Kr P s t a x=some s1
 | .mk s t a b v s1=>Jr P s t a b=some (v,s1)
 | .sli t a l h m v=>KP P t a l h m=some v
 | .atE f args s v s1=>Sound P G (.call f args s (.pan v) s1)
 | .pur f args v=>∀s,Sound P G (.call f args s (.ret v) s)
 | .Zg t tx own n cs b sz k cs2=>∀s:AS,NA sz s.F n own=true->∃cs0,KN P s t tx (.sl own n cs) b=some (.sl (auK s sz own) k cs0,s.to k own)/\∀c w u o,Rp c w (.sl o k cs0) u->Rp c w (.sl o k cs2) u
 | .eqn k n=>k=n
 | .E6 f args r pre tp Qy tu=>∀s:AS,X0 s pre=N0 pre->ZX s.F tp=OD tp->Sound P G (.call f args s r ((s.VO Qy).S3 tu))
 | .rU a b c d=>a=b/\c=d
 | .lkB b t k ok v=>∀(s:AS) (id:Nat),s.get id=some b->I9 P s t (.mp id) k ok=some v
 | .msB b t k v b2=>∀(s:AS) (id:Nat),s.get id=some b->Kl P s t (.mp id) k v=some (s.put id b2)
 | .ldB b t off v=>∀(s:AS) (id:Nat),s.get id=some b->Jq P s t (.ptr id off)=some v
 | .stB b t off x b2=>∀(s:AS) (id:Nat),s.get id=some b->Kr P s t (.ptr id off) x=some (s.put id b2)
 | .mkB t a x n m=>∀s:AS,∃m0,Jr P s t a x=some (.msl s.nx 0 n,s.new m0)/\∀(cx:Cx) (w:World) (o:Obj),Fh cx w m0 o->Fh cx w m o
 | .apB t tx a b n m=>∀s:AS,avF P G t tx a b s (.msl s.nx 0 n) (s.new m)
 | .ZR f args nx nr v h dn F dr=>∀s:AS,s.nx=nx->s.nr=nr->Sound P G (.call f args s (.ret v) ⟨h++s.h,s.nx+dn,F++s.F,s.nr+dr⟩)
 | .apf t tx a b v=>∀s:AS,∃v0,KN P s t tx a b=some (v0,s)/\∀c w u,Rp c w v0 u->Rp c w v u
 | .cv t t2 a v=>Re P t t2 a=some v
 | .rd nr b b2=>∀(cx:Cx) (w:World) (o:Obj),nr < cx.rows.length->Fh cx w b o->Fh cx w b2 o
def QU(P:Program)(G:A8):List Cd->Prop
 | []=>True
 | c::l=>c.ok P G/\QU P G l
def QU.T7{P:Program}{G:A8}{l m:List Cd}(h:QU P G (l++m)):QU P G l/\QU P G m:=by
 induction l with
 | nil=>exact⟨trivial,h⟩
 | cons c l ih=>exact⟨⟨h.1,(ih h.2).1⟩,(ih h.2).2⟩
abbrev HO:=Option (AV×AS×List Hn×List Cd)
def KT(s1:Option AR)(hs:List Hn):HO:=match s1 with
 | some (.val v s)=>some (v,s,hs,[])
 | _=>none
def aCN(P:Program)(op:BinOp)(t:TypeId)(x y:Operand)(a b:AV)(s:AS):List Hn->HO
 | .k::hs=>(match Xt P op t x y a b with
   | some v=>some (v,s,hs,[])
   | none=>none)
 | .b c::hs=>(match Xt P op t x y a b with
   | some (.sc (.bool B))=>some (.sc (.bool c),s,hs,[.eqb B c])
   | _=>none)
 | .i z::hs=>(match Xt P op t x y a b with
   | some (.sc (.int k X))=>some (.sc (.int k z),s,hs,[.eqi X z])
   | _=>none)
 | .w v::hs=>some (v,s,hs,[.bin op t x y a b v])
 | _=>none
def aCQ(P:Program)(t:TypeId)(a b:AV)(s:AS):List Hn->HO
 | .k::hs=>(match CO P t a b with
   | some v=>some (v,s,hs,[])
   | none=>none)
 | .w v::hs=>some (v,s,hs,[.idx t a b v])
 | _=>none
def X3(s:AS)(r:Option AR):List Hn->HO
 | .w v::hs=>(match r with
   | some (.ent f args)=>some (v,s,hs,[.pur f args v])
   | _=>none)
 | .a v s1::hs=>(match r with
   | some (.ent f args)=>some (v,s1,hs,[.atF f args s v s1])
   | _=>none)
 | .u v pre tp Qy tu::hs=>(match r with
   | some (.ent f args)=>some (v,(s.VO Qy).S3 tu,hs,[.E6 f args (.ret v) pre tp Qy tu,.rU (X0 s pre) (N0 pre) (ZX s.F tp) (OD tp)])
   | _=>none)
 | .cn v h dn F dr::hs=>(match r with
   | some (.ent f args)=>some (v,⟨h++s.h,s.nx+dn,F++s.F,s.nr+dr⟩,hs,[.ZR f args s.nx s.nr v h dn F dr])
   | _=>none)
 | _=>none
def adK(s:AS)(t tx:TypeId)(a b:AV):List Hn->HO
 | .mb n m::hs=>some (.msl s.nx 0 n,s.new m,hs,[.apB t tx a b n m])
 | .a v s1::hs=>some (v,s1,hs,[.T7 s t tx a b v s1])
 | .ae v::hs=>some (v,s,hs,[.T7 s t tx a b v s])
 | .af v::hs=>some (v,s,hs,[.apf t tx a b v])
 | .g sz k cs2::hs=>(match a with
   | .sl .full n cs=>some (.sl (.row s.nr sz) k cs2,s.add k,hs,[.Zg t tx .full n cs b sz k cs2])
   | .sl (.row r z) n cs=>(match DY r s.F with
     | some m=>(match Nat.beq z sz with
       | true=>some (.sl (.row r sz) k cs2,s.grow r k,hs,[.Zg t tx (.row r z) n cs b sz k cs2,.eqn m n])
       | false=>none)
     | none=>none)
   | _=>none)
 | _=>none
def aCR(P:Program)(t:TypeId)(a b:AV)(s:AS):List Hn->HO
 | .k::hs=>(match Lq P t a b with
   | some v=>some (v,s,hs,[])
   | none=>none)
 | .w v::hs=>some (v,s,hs,[.ix t a b v])
 | _=>none
def atM(t:TypeId)(a b:AV)(ok:Bool)(s:AS):List Hn->HO
 | .w v::hs=>some (v,s,hs,[.lk s t a b ok v])
 | .x m v::hs=>(match a with
   | .mp id=>some (v,s,hs,[.lkB m t b ok v,.rU [s.get id] [some m] [] []])
   | _=>none)
 | _=>none
def awU(t:TypeId)(a b v:AV)(s:AS):List Hn->HO
 | .m s1::hs=>some (.sc undef,s1,hs,[.ms s t a b v s1])
 | .y m m2::hs=>(match a with
   | .mp id=>some (.sc undef,s.put id m2,hs,[.msB m t b v m2,.rU [s.get id] [some m] [] []])
   | _=>none)
 | _=>none
def adN(t:TypeId)(a:Option AV)(s:AS)(r:Option AR):List Hn->HO
 | .l v::hs=>(match a with
   | some a=>some (v,s,hs,[.ld s t a v])
   | none=>none)
 | .lb m v::hs=>(match a with
   | some (.ptr id off)=>some (v,s,hs,[.ldB m t off v,.rU [s.get id] [some m] [] []])
   | _=>none)
 | hs=>KT r hs
def nX(t:TypeId)(a x:Option AV)(s:AS)(r:Option AR):List Hn->HO
 | .s s1::hs=>(match a,x with
   | some a,some x=>some (.sc undef,s1,hs,[.st s t a x s1])
   | _,_=>none)
 | .sb m m2::hs=>(match a,x with
   | some (.ptr id off),some x=>some (.sc undef,s.put id m2,hs,[.stB m t off x m2,.rU [s.get id] [some m] [] []])
   | _,_=>none)
 | hs=>KT r hs
def adP(t:TypeId)(a x:Option AV)(s:AS)(r:Option AR):List Hn->HO
 | .c v s1::hs=>(match a,x with
   | some a,some x=>some (v,s1,hs,[.mk s t a x v s1])
   | _,_=>none)
 | .mb n m::hs=>(match a,x with
   | some a,some x=>some (.msl s.nx 0 n,s.new m,hs,[.mkB t a x n m])
   | _,_=>none)
 | hs=>KT r hs
def awV(t:TypeId)(a:Option AV)(l h m:Option (Option AV))(s:AS)(r:Option AR):List Hn->HO
 | .o v::hs=>(match a,l,h,m with
   | some a,some l,some h,some m=>some (v,s,hs,[.sli t a l h m v])
   | _,_,_,_=>none)
 | hs=>KT r hs
def atK(P:Program)(t t2:TypeId)(a:AV)(s:AS):List Hn->HO
 | .w v::hs=>some (v,s,hs,[.cv t t2 a v])
 | hs=>(match Re P t t2 a with
   | some v=>some (v,s,hs,[])
   | none=>none)
def wY(P:Program)(G:A8)(fr:List AV)(s:AS)(o:Oper)(hs:List Hn):HO :=
 match o.op with
 | .binOp op t x y _=>(match AY G fr x with
   | some a=>(match AY G fr y with
     | some b=>aCN P op t x y a b s hs
     | none=>none)
   | none=>none)
 | .indexAddr t x i=>(match AY G fr x with
   | some a=>(match AY G fr i with
     | some b=>aCQ P t a b s hs
     | none=>none)
   | none=>none)
 | .index t x i=>(match AY G fr x with
   | some a=>(match AY G fr i with
     | some b=>aCR P t a b s hs
     | none=>none)
   | none=>none)
 | .convert t t2 x=>(match AY G fr x with
   | some (.sl o n cs)=>atK P t t2 (.sl o n cs) s hs
   | _=>KT (Ug P G fr s o) hs)
 | .lookup t x k ok=>(match AY G fr x with
   | some a=>(match AY G fr k with
     | some b=>atM t a b ok s hs
     | none=>none)
   | none=>none)
 | .mapUpdate t m k x=>(match AY G fr m with
   | some a=>(match AY G fr k with
     | some b=>(match AY G fr x with
       | some v=>awU t a b v s hs
       | none=>none)
     | none=>none)
   | none=>none)
 | .load t x=>adN t (Ba G fr x) s (Ug P G fr s o) hs
 | .store t x y=>nX t (Ba G fr x) (Ba G fr y) s (Ug P G fr s o) hs
 | .makeSlice t x y=>adP t (Ba G fr x) (Ba G fr y) s (Ug P G fr s o) hs
 | .slice t x lo hi mx=>awV t (Ba G fr x) (fJ G fr lo) (fJ G fr hi) (fJ G fr mx) s (Ug P G fr s o) hs
 | .call cl=>(match cl.callee with
   | .value _=>X3 s (Ug P G fr s o) hs
   | .builtin .append=>(match cl.args.toList,cl.argTypes.toList with
     | [x,y],[t,tx]=>(match AY G fr x with
       | some a=>(match AY G fr y with
         | some b=>adK s t tx a b hs
         | none=>none)
       | none=>none)
     | _,_=>none)
   | _=>KT (Ug P G fr s o) hs)
 | _=>KT (Ug P G fr s o) hs
def Z2(P:Program)(G:A8)(ops:Array Oper)(fr:List AV)(s:AS)(o:Oper)(hs:List Hn):HO :=
 match Cy ops fr o with
 | true=>wY P G fr s o hs
 | false=>some (.sc undef,s,hs,[])
section
variable {P:Program} {G:A8} {ops:Array Oper}
def Vm{r:Option AR}{hs hs':List Hn}{v:AV}{s:AS}{cd:List Cd}(h:KT r hs=some (v,s,hs',cd)):r=some (.val v s):=by
 unfold KT at h;split at h;cases h;rfl;cases h
def adO{t:TypeId}{a:Option AV}{r:Option AR}{hs hs':List Hn}{v:AV}{s s1:AS}{cd:List Cd}(h:adN t a s r hs=some (v,s1,hs',cd))(hc:QU P G cd):(∃a',a=some a'/\Jq P s t a'=some v/\s1=s)\/KT r hs=some (v,s1,hs',cd):=by
 unfold adN at h;split at h;split at h;cases h;exact .inl ⟨_,rfl,hc.1,rfl⟩;cases h;split at h;cases h;exact .inl ⟨_,rfl,hc.1 _ _ (List.cons.inj hc.2.1.1).1,rfl⟩;cases h;exact .inr h
def Vn{t:TypeId}{a x:Option AV}{r:Option AR}{hs hs':List Hn}{v:AV}{s s1:AS}{cd:List Cd}(h:nX t a x s r hs=some (v,s1,hs',cd))(hc:QU P G cd):(∃a' x',a=some a'/\x=some x'/\Kr P s t a' x'=some s1/\v=.sc undef)\/KT r hs=some (v,s1,hs',cd):=by
 unfold nX at h;split at h;split at h;cases h;exact .inl ⟨_,_,rfl,rfl,hc.1,rfl⟩;cases h;split at h;cases h;exact .inl ⟨_,_,rfl,rfl,hc.1 _ _ (List.cons.inj hc.2.1.1).1,rfl⟩;cases h;exact .inr h
def adQ{t:TypeId}{a x:Option AV}{r:Option AR}{hs hs':List Hn}{v:AV}{s s1:AS}{cd:List Cd}(h:adP t a x s r hs=some (v,s1,hs',cd))(hc:QU P G cd):(∃a' x',a=some a'/\x=some x'/\∃s0,Jr P s t a' x'=some (v,s0)/\∀cx w,St G cx w s0->St G cx w s1)\/KT r hs=some (v,s1,hs',cd):=by
 unfold adP at h;split at h;split at h;cases h;exact .inl ⟨_,_,rfl,rfl,_,hc.1,λ_ _ h=>h⟩;cases h;split at h;cases h;obtain⟨m0,h1,h2⟩:=hc.1 s;refine .inl ⟨_,_,rfl,rfl,_,h1,λcx w hs=>?_⟩;have:=hs.qB (id:=s.nx) (b:=m0) (b2:=_) (by simp[AS.new,look]) (λo ho=>h2 cx w o ho);simpa[AS.new,QT] using this
 cases h;exact .inr h
def anC{t:TypeId}{a:Option AV}{l k m:Option (Option AV)}{r:Option AR}{hs hs':List Hn}{v:AV}{s s1:AS}{cd:List Cd}(h:awV t a l k m s r hs=some (v,s1,hs',cd))(hc:QU P G cd):(∃a' l' k' m',a=some a'/\l=some l'/\k=some k'/\m=some m'/\KP P t a' l' k' m'=some v/\s1=s)\/KT r hs=some (v,s1,hs',cd):=by
 unfold awV at h;split at h;split at h;cases h;exact .inl ⟨_,_,_,_,rfl,rfl,rfl,rfl,hc.1,rfl⟩;cases h;exact .inr h
def awT{fr:List AV}{s s1:AS}{o:Oper}{hs hs':List Hn}{v:AV}{cd:List Cd}(hw:Cy ops fr o=true)(h:wY P G fr s o hs=some (v,s1,hs',cd))(hc:QU P G cd):J P G (XS P G) H0 (.op ops o fr s (.ret v) s1):=by
 have TK:KT (Ug P G fr s o) hs=some (v,s1,hs',cd)->J P G (XS P G) H0 (.op ops o fr s (.ret v) s1):=λh=>by
   have:=Vm h;rw[MN] at this;exact .NB hw this
 unfold wY at h;split at h;rename_i op t x y z ho;rw[Cv,Cv] at h;split at h;rename_i a ha;split at h;rename_i b hb
 have fin:∀v',Lf P op t x y a b=some v'->s1=s->v=v'->J P G (XS P G) H0 (.op ops o fr s (.ret v) s1):=by
   intro v' h1 h2 h3;subst h2 h3;refine .NB hw ?_;unfold PU;rw[ho];simp only[ha,hb,h1,Option.map_some]
 unfold aCN at h;rw[Uf] at h;split at h;split at h;rename_i h1;cases h;exact fin _ h1 rfl rfl;cases h;split at h;rename_i h1;cases h;have e:_=_:=hc.1;subst e;exact fin _ h1 rfl rfl;cases h;split at h;rename_i h1;cases h;have e:_=_:=hc.1;subst e;exact fin _ h1 rfl rfl;cases h;cases h;exact fin _ hc.1 rfl rfl;cases h;cases h;cases h;rename_i t x i ho;rw[Cv,Cv] at h;split at h;rename_i a ha;split at h;rename_i b hb
 have fin:∀v',CO P t a b=some v'->s1=s->v=v'->J P G (XS P G) H0 (.op ops o fr s (.ret v) s1):=by
   intro v' h1 h2 h3;subst h2 h3;refine .NB hw ?_;unfold PU;rw[ho];simp only[ha,hb,h1,Option.map_some]
 unfold aCQ at h;split at h;split at h;rename_i h1;cases h;exact fin _ h1 rfl rfl;cases h;cases h;exact fin _ hc.1 rfl rfl;cases h;cases h;cases h;rename_i t x i ho;rw[Cv,Cv] at h;split at h;rename_i a ha;split at h;rename_i b hb
 have fin:∀v',Lq P t a b=some v'->s1=s->v=v'->J P G (XS P G) H0 (.op ops o fr s (.ret v) s1):=by
   intro v' h1 h2 h3;subst h2 h3;refine .NB hw ?_;unfold PU;rw[ho];simp only[ha,hb,h1,Option.map_some]
 unfold aCR at h;split at h;split at h;rename_i h1;cases h;exact fin _ h1 rfl rfl;cases h;cases h;exact fin _ hc.1 rfl rfl;cases h;cases h;cases h;rename_i t t2 x ho;rw[Cv] at h;split at h;rename_i ow n cs ha
 have fin:∀v',Re P t t2 (.sl ow n cs)=some v'->s1=s->v=v'->J P G (XS P G) H0 (.op ops o fr s (.ret v) s1):=by
   intro v' h1 h2 h3;subst h2 h3;refine .NB hw ?_;unfold PU;rw[ho];simp only[ha,Option.bind_some,h1,Option.map_some]
 unfold atK at h;split at h;cases h;exact fin _ hc.1 rfl rfl;split at h;rename_i h1;cases h;exact fin _ h1 rfl rfl;cases h;exact TK h;rename_i t x k ok ho;rw[Cv,Cv] at h;split at h;rename_i a ha;split at h;rename_i b hb
 have h1:I9 P s t a b ok=some v/\s1=s:=by
   unfold atM at h;split at h;cases h;exact⟨hc.1,rfl⟩;split at h;cases h;refine⟨hc.1 _ _ ?_,rfl⟩;have h2:=hc.2.1.1;simpa using h2
   cases h;cases h
 obtain⟨h1,rfl⟩:=h1;refine .NB hw ?_;unfold PU;rw[ho];simp only[ha,hb,h1,Option.map_some];cases h;cases h;rename_i t m k x ho;rw[Cv,Cv,Cv] at h;split at h;rename_i a ha;split at h;rename_i b hb;split at h;rename_i x' hx
 have h1:Kl P s t a b x'=some s1/\v=.sc undef:=by
   unfold awU at h;split at h;cases h;exact⟨hc.1,rfl⟩;split at h;cases h;refine⟨hc.1 _ _ ?_,rfl⟩;have h2:=hc.2.1.1;simpa using h2
   cases h;cases h
 obtain⟨h1,rfl⟩:=h1;refine .NB hw ?_;unfold PU;rw[ho];simp only[ha,hb,hx,h1,Option.map_some];cases h;cases h;cases h;rename_i t x ho;rcases adO h hc with ⟨a,ha,h1,rfl⟩ | h1
 refine .NB hw ?_;unfold PU;rw[ho];simp only[ha,Option.bind_some,h1,Option.map_some];exact TK h1;rename_i t x y ho;rcases Vn h hc with ⟨a,b,ha,hb,h1,rfl⟩ | h1
 refine .NB hw ?_;unfold PU;rw[ho];simp only[ha,hb,h1,Option.map_some];exact TK h1;rename_i t x y ho;rcases adQ h hc with ⟨a,b,ha,hb,s0,h1,h2⟩ | h1
 refine .dR ?_ (.NB (s':=s0) hw ?_) h2;simp only[quiet,ho];unfold PU;rw[ho];simp only[ha,hb,h1,Option.map_some];exact TK h1;rename_i t x lo hi mx ho;rcases anC h hc with ⟨a,l,k,m,ha,hl,hk,hm,h1,rfl⟩ | h1
 refine .NB hw ?_;unfold PU;rw[ho];simp only[ha,hl,hk,hm,h1,Option.map_some];exact TK h1;rename_i cl ho;split at h;unfold X3 at h;split at h;split at h;rename_i h1;cases h;rw[MN] at h1;exact .RN hw h1 (.ext (hc.1 s));cases h;split at h;rename_i h1;cases h;rw[MN] at h1;exact .RN hw h1 (.ext hc.1);cases h;split at h;rename_i h1;cases h;rw[MN] at h1;exact .RN hw h1 (.ext (hc.1 s hc.2.1.1 hc.2.1.2));cases h;split at h;rename_i h1;cases h;rw[MN] at h1;exact .RN hw h1 (.ext (hc.1 s rfl rfl));cases h;cases h;rename_i Iy;split at h;rename_i x y t tx hxs DT;rw[Cv,Cv] at h;split at h;rename_i a ha;split at h;rename_i b hb
 have fin:∀v0,KN P s t tx a b=some (v0,s1)->(∀c w u,Rp c w v0 u->Rp c w v u)->J P G (XS P G) H0 (.op ops o fr s (.ret v) s1):=by
   intro v0 h1 h2;refine .pQ (v:=v0) ?_ (.NB hw ?_) h2;simp only[quiet,ho,Iy];unfold PU;rw[ho];simp only[SS,Iy,hxs,DT,ha,hb,h1,Option.map_some]
 unfold adK at h;split at h;cases h;exact .agI hw ho Iy hxs DT ha hb (hc.1 s);cases h;obtain⟨v0,h1,h2⟩:=hc.1;exact fin v0 h1 h2;cases h;obtain⟨v0,h1,h2⟩:=hc.1;exact fin v0 h1 h2;cases h;obtain⟨v0,h1,h2⟩:=hc.1 s;exact fin v0 h1 h2;split at h;cases h;obtain⟨cs0,h1,h2⟩:=hc.1 s rfl;exact fin _ h1 (λc w u=>h2 c w u _);rename_i r z n cs;split at h;rename_i m hm;split at h;rename_i hz;have hz:=beq_true hz;subst hz;cases h;have e:m=n:=hc.2.1;subst e;obtain⟨cs0,h1,h2⟩:=hc.1 s (by simp[NA,hm]);exact fin _ h1 (λc w u=>h2 c w u _);cases h;cases h;cases h;cases h;cases h;cases h;cases h;exact TK h;exact TK h
def OP{fr:List AV}{s s1:AS}{o:Oper}{hs hs':List Hn}{v:AV}{cd:List Cd}(h:Z2 P G ops fr s o hs=some (v,s1,hs',cd))(hc:QU P G cd):J P G (XS P G) H0 (.op ops o fr s (.ret v) s1):=by
 unfold Z2 at h;split at h;rename_i hw;exact awT hw h hc;rename_i hw;cases h;exact .pP hw
end
end AI
