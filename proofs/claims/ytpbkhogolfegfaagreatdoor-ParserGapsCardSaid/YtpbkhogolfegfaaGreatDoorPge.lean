/- Part of a proof: see the last text. -/
import Derived.Test.YtpbkhogolfegfaaGreatDoorPgd
import Derived.LoopN
set_option linter.unusedVariables false
set_option linter.unusedSimpArgs false
set_option linter.defProp false
noncomputable section
namespace AI
open Go Go.RowKit
inductive AX where
 | normal
 | exit (id:Nat)
 | ret
 | pan (v:AV)
inductive CR where
 | ret (v:AV)
 | pan (v:AV)
def Cv(ops:Array Oper)(fr:List AV)(o:Oper):Bool:=match o.guard with
 | none=>true
 | some (j,want)=>match (ops[j]?).bind (·.dst) with
   | some d=>match fr[d]? with
     | some (.sc (.bool b))=>b == want
     | _=>false
   | none=>false
def E4(id:Nat):AX->AX
 | .exit Rl=>if Rl=id then .normal else .exit Rl
 | e=>e
def R2(P:Program)(s:AS)(fr:List AV):ResultVar->Option AV
 | .tmp t=>some (fr.getD t (.sc undef))
 | .cell t ty=>JP P s ty (fr.getD t (.sc undef))
def NY(P:Program)(s:AS)(fr:List AV):List ResultVar->Option (List AV)
 | []=>some []
 | r::rs=>match R2 P s fr r,NY P s fr rs with
   | some a,some as=>some (a::as)
   | _,_=>none
def GM(P:Program)(s:AS)(fn:Func)(fr:List AV):Option AV:=match NY P s fr fn.results.toList with
 | some [a]=>some a
 | some as=>some (.C4 as)
 | none=>none
inductive Jd where
 | code (c:Code) (fr:List AV) (s:AS) (e:AX) (fr':List AV) (s':AS)
 | loop (c:Code) (fr:List AV) (s:AS) (e:AX) (fr':List AV) (s':AS)
 | ops (ops:Array Oper) (l:List Nat) (fr:List AV) (s:AS) (e:AX) (fr':List AV) (s':AS)
 | op (ops:Array Oper) (o:Oper) (fr:List AV) (s:AS) (r:CR) (s':AS)
 | call (f:FuncId) (args:List AV) (s:AS) (r:CR) (s':AS)
def Cm(ops:Array Oper)(i:Nat):Option Tmp:=(ops[i]?).bind (·.dst)
def YR(ops:Array Oper)(i:Nat):Prop:=∃o,ops[i]?=some o/\calm o.op=false
def Win(ops:Array Oper)(i k:Nat):Prop:=(∀l,YR ops l->SH (Ix ops.toList []) i l=true->l < k)/\(∀l,YR ops l->SH (Ix ops.toList []) l i=true->k<=l)
abbrev WR:=FuncId->List AV->AS->CR->AS->Prop
abbrev TK:=FuncId->List AV->Option (FuncId×List AV×(CR->Option CR))
def awP(P:Program)(G:Bc)(t tx:TypeId)(a b:AV)(s:AS)(v:AV)(s':AS):Prop:=∀(c:Cx) (w:World) (va vb:Value) (ty:TypeId),St G c w s->Rp c w a va->Rp c w b vb ->
 ∃u w' c',(Builtin.append_ #[t,tx] ty #[va,vb]).run P w=.ok u w'/\Ext c w c' w'/\St G c' w' s'/\Rp c' w' v u
def aDE(G:Bc)(c:Cx)(w:World)(r:CR)(s':AS)(e:Ending)(w':World):Prop :=
 ∃c',Ext c w c' w'/\St G c' w' s'/\match r with
   | .ret v=>∃u,e=.returned u/\Rp c' w' v u
   | .pan v=>∃u,e=.panicked [{ v:=u,recovered:=false }]/\Rp c' w' v u
def Tg(G:Bc)(c:Cx)(w:World)(e:AX)(fr':List AV)(s':AS)(e':Exit)(a':Act)(w':World):Prop :=
 ∃c',Ext c w c' w'/\St G c' w' s'/\a'.defers=[]/\match e with
   | .normal=>e'=.normal/\CG c' w' fr' a'.tmps.toList
   | .exit id=>e'=.exit id/\CG c' w' fr' a'.tmps.toList
   | .ret=>e'=.ret/\CG c' w' fr' a'.tmps.toList
   | .pan v=>∃u,e'=.panic [{ v:=u,recovered:=false }]/\Rp c' w' v u
def Tg.ext{G:Bc}{c c1:Cx}{w w1:World}{e:AX}{fr':List AV}{s':AS}{e':Exit}{a':Act}{w':World}(x:Ext c w c1 w1)(h:Tg G c1 w1 e fr' s' e' a' w'):Tg G c w e fr' s' e' a' w':=by
 obtain⟨c',h1,h2⟩:=h;exact⟨c',x.trans h1,h2⟩
def MW(P:Program)(ops:Array Oper)(o:Oper)(K:Act->World->Prop)(Q:Exit->Act->World->Prop)(a:Act)(w:World):Prop :=
 if Region.wanted o (yielded ops a.tmps) then o.wp P a w K Q else K (a.put o.dst undef) w
def Sound(P:Program)(G:Bc):Jd->Prop
 | .code c fr s e fr' s'=>∀(cx:Cx) (w:World) (a:Act) (Q:Exit->Act->World->Prop),St G cx w s->CG cx w fr a.tmps.toList->a.defers=[]->(∀e' a' w',Tg G cx w e fr' s' e' a' w'->Q e' a' w')->c.wp P Q a w
 | .loop c fr s e fr' s'=>∃n,∀(cx:Cx) (w:World) (a:Act) (Q:Exit->Act->World->Prop),St G cx w s->CG cx w fr a.tmps.toList->a.defers=[]->(∀e' a' w',Tg G cx w e fr' s' e' a' w'->Q e' a' w')->Code.rounds P c Q n a w
 | .ops ops l fr s e fr' s'=>∀(cx:Cx) (w:World) (a:Act) (Q:Exit->Act->World->Prop),St G cx w s->CG cx w fr a.tmps.toList->a.defers=[]->(∀e' a' w',Tg G cx w e fr' s' e' a' w'->Q e' a' w')->wpOps P ops Q l a w
 | .op ops o fr s r s'=>∀(cx:Cx) (w:World) (a:Act) (K:Act->World->Prop) (Q:Exit->Act->World->Prop),St G cx w s->(∀x∈o.op.operands,ZJ G cx w fr a.eval x)->Cv ops fr o=Region.wanted o (yielded ops a.tmps) ->
     (match r with
       | .ret v=>∀u w' c',Ext cx w c' w'->St G c' w' s'->Rp c' w' v u->K (a.put o.dst u) w'
       | .pan v=>∀u w' c',Ext cx w c' w'->St G c' w' s'->Rp c' w' v u->Q (.panic [{ v:=u,recovered:=false }]) a w')->MW P ops o K Q a w
 | .call f args s r s'=>∀(cx:Cx) (w:World) (vs:List Value),St G cx w s->CG cx w args vs->Calls P f vs.toArray w (aDE G cx w r s')
inductive J(P:Program)(G:Bc)(X:WR)(H:TK):Jd->Prop where
 | skip {fr:List AV} {s:AS}:J P G X H (.code .skip fr s .normal fr s)
 | exit {id:Nat} {fr:List AV} {s:AS}:J P G X H (.code (.exit id) fr s (.exit id) fr s)
 | ret {fr:List AV} {s:AS}:J P G X H (.code .ret fr s .ret fr s)
 | seq {x y:Code} {fr VJ fr':List AV} {s s1 s':AS} {e:AX} (h1:J P G X H (.code x fr s .normal VJ s1)) (h2:J P G X H (.code y VJ s1 e fr' s')):J P G X H (.code (.seq x y) fr s e fr' s')
 | rO {x y:Code} {fr fr':List AV} {s s':AS} {e:AX} (h1:J P G X H (.code x fr s e fr' s')) (he:e≠.normal):J P G X H (.code (.seq x y) fr s e fr' s')
 | cond {q:Operand} {x y:Code} {t:Bool} {fr fr':List AV} {s s':AS} {e:AX} (hq:Bd G fr q=some (.sc (.bool t))) (h:J P G X H (.code (if t then x else y) fr s e fr' s')):J P G X H (.code (.cond q x y) fr s e fr' s')
 | block {id:Nat} {c:Code} {fr fr':List AV} {s s':AS} {e:AX} (h:J P G X H (.code c fr s e fr' s')):J P G X H (.code (.block id c) fr s (E4 id e) fr' s')
 | loop {c:Code} {fr fr':List AV} {s s':AS} {e:AX} (h:J P G X H (.loop c fr s e fr' s')):J P G X H (.code (.loop c) fr s e fr' s')
 | loopN {c:Code} {fr VJ fr':List AV} {s s1 s':AS} {e:AX} (h1:J P G X H (.code c fr s .normal VJ s1)) (h2:J P G X H (.loop c VJ s1 e fr' s')):J P G X H (.loop c fr s e fr' s')
 | loopX {c:Code} {fr fr':List AV} {s s':AS} {e:AX} (h1:J P G X H (.code c fr s e fr' s')) (he:e≠.normal):J P G X H (.loop c fr s e fr' s')
 | region {id:Nat} {ops:Array Oper} {fr fr':List AV} {s s':AS} {e:AX} (h:J P G X H (.ops ops (List.range ops.size) fr s e fr' s')):J P G X H (.code (.region id ops false) fr s e fr' s')
 | ahE {ops:Array Oper} {fr:List AV} {s:AS}:J P G X H (.ops ops [] fr s .normal fr s)
 | uY {ops:Array Oper} {i:Nat} {l:List Nat} {o:Oper} {v:AV} {fr fr':List AV} {s s1 s':AS} {e:AX} (ho:ops[i]?=some o) (h:J P G X H (.op ops o fr s (.ret v) s1)) (t:J P G X H (.ops ops l (IY fr o.dst v) s1 e fr' s')):J P G X H (.ops ops (i::l) fr s e fr' s')
 | ahF {ops:Array Oper} {i:Nat} {l:List Nat} {o:Oper} {v:AV} {fr:List AV} {s s1:AS} (ho:ops[i]?=some o) (h:J P G X H (.op ops o fr s (.pan v) s1)):J P G X H (.ops ops (i::l) fr s (.pan v) fr s1)
 | Og {ops:Array Oper} {o:Oper} {fr:List AV} {s s':AS} {v:AV} (hw:Cv ops fr o=true) (h:Qz P G fr s o=some (.val v s')):J P G X H (.op ops o fr s (.ret v) s')
 | qS {ops:Array Oper} {o:Oper} {fr:List AV} {s s':AS} {v v2:AV} (hq:quiet o.op=false) (h:J P G X H (.op ops o fr s (.ret v) s')) (hv:∀cx w u,Rp cx w v u->Rp cx w v2 u):J P G X H (.op ops o fr s (.ret v2) s')
 | fD {ops:Array Oper} {o:Oper} {fr:List AV} {s s1 s2:AS} {v:AV} (hq:quiet o.op=false) (h:J P G X H (.op ops o fr s (.ret v) s1)) (hs:∀cx w,St G cx w s1->St G cx w s2):J P G X H (.op ops o fr s (.ret v) s2)
 | ahD {ops:Array Oper} {o:Oper} {fr:List AV} {s s':AS} {cl:Call} {x y:Operand} {t tx:TypeId} {a b v:AV} (hw:Cv ops fr o=true) (ho:o.op=.call cl) (IN:cl.callee=.builtin .append) (hx:cl.args.toList=[x,y]) (ht:cl.argTypes.toList=[t,tx]) (ha:Bd G fr x=some a) (hb:Bd G fr y=some b) (h:awP P G t tx a b s v s'):J P G X H (.op ops o fr s (.ret v) s')
 | qR {ops:Array Oper} {o:Oper} {fr:List AV} {s:AS} (hw:Cv ops fr o=false):J P G X H (.op ops o fr s (.ret (.sc undef)) s)
 | Sl {ops:Array Oper} {o:Oper} {fr:List AV} {s s':AS} {f:FuncId} {args:List AV} {r:CR} (hw:Cv ops fr o=true) (h:Qz P G fr s o=some (.ent f args)) (hc:J P G X H (.call f args s r s')):J P G X H (.op ops o fr s r s')
 | avQ {ops:Array Oper} {o:Oper} {fr:List AV} {s:AS} {v:AV} (hw:Cv ops fr o=true) (h:Qz P G fr s o=some (.pan v)):J P G X H (.op ops o fr s (.pan v) s)
 | draw {id:Nat} {ops:Array Oper} {f0:List AV} {s0:AS} (rs:List AM) (vals:Nat->AV) (Np:Nat->AS) (h0:Np 0=s0.hold rs) (Ia:MB ops=true)
     (hl:∀i o,ops[i]?=some o->calm o.op=false->J P G X H (.op ops o (IP f0 (Cm ops) vals (λ_=>true) i) (Np i) (.ret (vals i)) (Np (i+1))))
     (hq:∀i o,ops[i]?=some o->quiet o.op=true->Np (i+1)=Np i/\((Cv ops (IP f0 (Cm ops) vals (λ_=>true) i) o=false/\vals i=.sc undef)\/(Cv ops (IP f0 (Cm ops) vals (λ_=>true) i) o=true/\∀k,k<=ops.size->Win ops i k->Qz P G (IP f0 (Cm ops) vals (λ_=>true) i) (Np k) o=some (.val (vals i) (Np k)))))
     (ha:∀i o e,ops[i]?=some o->o.op=.alloc e->Np (i+1)=Np i/\((Cv ops (IP f0 (Cm ops) vals (λ_=>true) i) o=false/\vals i=.sc undef)\/(Cv ops (IP f0 (Cm ops) vals (λ_=>true) i) o=true/\∃z,Mv P e=some z/\rk ops i < rs.length/\vals i=.ptr (s0.nx+rk ops i) 0/\∀k,k<=ops.size->Win ops i k->(Np k).get (s0.nx+rk ops i)=some (.cells (cellsOf z))))) :
     J P G X H (.code (.region id ops true) f0 s0 .normal (IP f0 (Cm ops) vals (λ_=>true) ops.size) (Np ops.size))
 | body {f:FuncId} {fn:Func} {c:Code} {args fr':List AV} {s s' s2:AS} {e:AX} {v:AV} (hf:P.funcs[f]?=some fn) (hb:fn.body=some c) (h:J P G X H (.code c (args++List.replicate (fn.ntmps - args.length) (.sc undef)) s e fr' s')) (he:e=.normal\/e=.ret) (hr:GM P s' fn fr'=some v) (hk:s2=s'.cut s.nx\/s2=s'):J P G X H (.call f args s (.ret v) s2)
 | auN {f:FuncId} {fn:Func} {c:Code} {args fr':List AV} {s s':AS} {v:AV} (hf:P.funcs[f]?=some fn) (hb:fn.body=some c) (h:J P G X H (.code c (args++List.replicate (fn.ntmps - args.length) (.sc undef)) s (.pan v) fr' s')):J P G X H (.call f args s (.pan v) (s'.cut s.nx))
 | ext {f:FuncId} {args:List AV} {s s':AS} {r:CR} (h:X f args s r s'):J P G X H (.call f args s r s')
 | Zz {c:Code} {fr fr2 fr':List AV} {s s2 s':AS} {e:AX} (hw:∀cx w vs,St G cx w s->CG cx w fr vs->∃cx2,Ext cx w cx2 w/\St G cx2 w s2/\CG cx2 w fr2 vs) (h:J P G X H (.code c fr2 s2 e fr' s')):J P G X H (.code c fr s e fr' s')
 | awN {c:Code} {fr fr2 fr':List AV} {s s2 s':AS} {e:AX} (hw:∀cx w vs,St G cx w s->CG cx w fr vs->∃cx2,Ext cx w cx2 w/\St G cx2 w s2/\CG cx2 w fr2 vs) (h:J P G X H (.loop c fr2 s2 e fr' s')):J P G X H (.loop c fr s e fr' s')
 | scope {c:Code} {fr fr2 fr':List AV} {s s2 s':AS} {e:AX} (h:J P G X H (.code c fr s e fr' s')) (he:∀v,e≠.pan v) (hs:∀cx w c' w' vs,Ext cx w c' w'->St G cx w s->St G c' w' s'->CG c' w' fr' vs->∃c2,Ext cx w c2 w'/\St G c2 w' s2/\CG c2 w' fr2 vs):J P G X H (.code c fr s e fr2 s2)
 | ayX {f g:FuncId} {args Ym:List AV} {k:CR->Option CR} {s s':AS} {r r':CR} (hh:H f args=some (g,Ym,k)) (h:J P G X H (.call g Ym s r s')) (hk:k r=some r'):J P G X H (.call f args s r' s')
 | sem {c:Code} {fr fr':List AV} {s s':AS} {e:AX} (h:P.follows .mixedOrders=true->Sound P G (.code c fr s e fr' s')):J P G X H (.code c fr s e fr' s')
def N1{ops:Array Oper}{fr:List AV}{o:Oper}{c:Cx}{w:World}{tmps:Array Value}(h:∀j want,o.guard=some (j,want)->∀d,(ops[j]?).bind (·.dst)=some d->∃M,CG c w M tmps.toList/\M[d]?=fr[d]?):Cv ops fr o=Region.wanted o (yielded ops tmps):=by
 unfold Cv Region.wanted;cases hg:o.guard with
 | none=>rfl
 | some p =>
   obtain⟨j,want⟩:=p;simp only;unfold yielded;cases hd:(ops[j]?).bind (·.dst) with
   | none=>simp
   | some d =>
     obtain⟨M,hM,he⟩:=h j want hg d hd;simp only[Option.bind_some];rw[<- he];cases hm:M[d]? with
     | none =>
       have hl:=hM.len;have h1:=List.getElem?_eq_none_iff.1 hm;have h2:tmps[d]?=none:=Array.getElem?_eq_none (by rw[<- Array.length_toList];omega);simp[h2]
     | some b =>
       obtain⟨u,hu,hr⟩:=hM.get hm;rw[Array.getElem?_toList] at hu;rw[hu];cases hr with
       | sc hs=>cases u<;>simp
       | any hs=>cases u<;>first | (simp[Xc] at hs;done) | simp
       | _=>simp
def aaA(tmps:Array Value):ResultVar->Sem Value
 | .tmp t=>pure (tmps.getD t undef)
 | .cell a t=>do loadVar t (<- asAddr (tmps.getD a undef))
def Ul(fn:Func)(tmps:Array Value):results fn tmps=(do
 let vs <- fn.results.mapM (aaA tmps)
 pure (if h:vs.size=1 then vs[0] else .tuple vs)):=by
 unfold results;congr 2
def iG{P:Program}{G:Bc}{c:Cx}{w:World}{s:AS}{fr:List AV}{tmps:Array Value}(hs:St G c w s)(hf:CG c w fr tmps.toList){r:ResultVar}{v:AV}(h:R2 P s fr r=some v) :
   ∃u,(aaA tmps r).run P w=.ok u w/\Rp c w v u:=by
 have ht:∀t,Rp c w (fr.getD t (.sc undef)) (tmps.getD t undef):=λt=>EA (G:=G) (s:=s) (a:=⟨tmps,[]⟩) (x:=.tmp t) hs hf rfl;cases r with
 | tmp t=>simp only[R2,Option.some.injEq] at h;subst h;exact⟨_,rfl,ht t⟩
 | cell t ty =>
   obtain⟨u,h1,h2⟩:=iC hs h (ht t);refine⟨u,?_,h2⟩;have hr:=ht t;simp only[Instr.loadAt,Sem.run_bind] at h1;simp only[aaA,Sem.run_bind];generalize tmps.getD t undef=x at hr h1;simp only[R2] at h;unfold JP at h;split at h;rename_i PR;rw[PR] at hr;cases hr;simpa[asAddr,Instr.sureAddr] using h1
   rename_i PR;rw[PR] at hr;cases hr;simpa[asAddr,Instr.sureAddr] using h1
   cases h
def iH{P:Program}{G:Bc}{c:Cx}{w:World}{s:AS}{fr:List AV}{tmps:Array Value}(hs:St G c w s)(hf:CG c w fr tmps.toList)(rs:List ResultVar){vs:List AV}(h:NY P s fr rs=some vs) :
   ∃us,(rs.mapM (aaA tmps)).run P w=.ok us w/\CG c w vs us:=by
 induction rs generalizing vs with
 | nil=>simp[NY] at h;subst h;exact⟨[],rfl,.nil⟩
 | cons r rs ih =>
   simp only[NY] at h;split at h;rename_i a as h1 h2;cases h;obtain⟨u,hu,hr⟩:=iG hs hf h1;obtain⟨us,hus,hrs⟩:=ih h2;refine⟨u::us,?_,.cons hr hrs⟩;rw[List.mapM_cons];simp only[Sem.run_bind,hu,Result.andThen_ok,hus,Sem.run_pure];cases h
def R3{P:Program}{G:Bc}{c:Cx}{w:World}{s:AS}{fr:List AV}{tmps:Array Value}{fn:Func}{v:AV}(hs:St G c w s)(hf:CG c w fr tmps.toList)(h:GM P s fn fr=some v):∃u,(results fn tmps).run P w=.ok u w/\Rp c w v u:=by
 unfold GM at h;cases hl:NY P s fr fn.results.toList with
 | none=>rw[hl] at h;cases h
 | some as =>
   rw[hl] at h;obtain⟨us,hus,hrs⟩:=iH hs hf _ hl;have hlen:=hrs.len
   have RG:(results fn tmps).run P w=.ok (if h:us.toArray.size=1 then us.toArray[0] else .tuple us.toArray) w:=by
     rw[Ul,Array.mapM_eq_mapM_toList];simp only[Sem.run_bind,Sem.run_map,hus,Result.andThen_ok,Sem.run_pure]
   rw[RG];split at h;rename_i a PR;cases PR;cases h;cases hrs with
   | cons h1 t=>cases t;exact⟨_,rfl,h1⟩
   rename_i as' hne PR;cases PR;cases h
   have:¬us.toArray.size=1:=by
     intro h1;simp at h1;obtain⟨a,ha⟩:=List.length_eq_one_iff.1 (hlen.symm.trans h1);exact hne a ha
   rw[dif_neg this];exact⟨_,rfl,.C4 hrs⟩;rename_i PR;cases PR
end AI
namespace AI
open Go Go.RowKit
def iQ(L:Nat->Bool):Nat->Nat
 | 0=>0
 | n+1=>iQ L n+if L n then 0 else 1
def iS{L:Nat->Bool}:∀(n:Nat),iQ L n=0->∀i,i < n->L i=true:=by
 intro n
 induction n with
 | zero=>intro _ i hi;omega
 | succ n ih =>
   intro h i hi;simp only[iQ] at h;by_cases hn:i=n;subst hn;by_cases hL:L i=true;exact hL;simp[hL] at h;exact ih (by omega) i (by omega)
def sX{L M:Nat->Bool}{i:Nat}(h0:L i=false)(h1:M i=true)(hne:∀j,j≠i->M j=L j):∀(n:Nat),(i < n->iQ L n=iQ M n+1)/\(n<=i->iQ L n=iQ M n):=by
 intro n
 induction n with
 | zero=>exact⟨λh=>by omega,λ_=>rfl⟩
 | succ n ih =>
   refine⟨λh=>?_,λh=>?_⟩;simp only[iQ];by_cases hn:n=i;subst hn;rw[ih.2 (Nat.le_refl _),h0,h1];simp;rw[ih.1 (by omega),hne n hn];omega;simp only[iQ];rw[ih.2 (by omega),hne n (by omega)]
def rU{ops:Array Oper}{Np:Nat->AS}(hq:∀i o,ops[i]?=some o->calm o.op=true->Np (i+1)=Np i){x:Nat}:∀(y:Nat),x<=y->y<=ops.size->(∀m,x<=m->m < y->¬YR ops m)->Np x=Np y:=by
 intro y
 induction y with
 | zero=>intro h _ _;have:x=0:=by omega
         subst this;rfl
 | succ y ih =>
   intro h hn hl;by_cases e:x=y+1;subst e;rfl;rw[ih (by omega) (by omega) (λm h1 h2=>hl m h1 (by omega))];have ho:ops[y]?=some (ops[y]'(by omega)):=Array.getElem?_eq_getElem (by omega);have hy:=hl y (by omega) (by omega);refine(hq y _ ho ?_).symm;cases hqq:calm (ops[y]'(by omega)).op with
   | true=>rfl
   | false=>exact absurd ⟨_,ho,hqq⟩ hy
def mem_ready{ops:Array Oper}{L:Array Bool}(hsz:L.size=ops.size){i:Nat}(h:i∈Region.ready .any ops L):∃o,ops[i]?=some o/\L.getD i false=false/\Met (λj=>L.getD j false) o/\i < ops.size:=by
 unfold Region.ready at h;rw[List.mem_filter,List.mem_range,Bool.and_eq_true] at h;obtain⟨h1,h2,h3⟩:=h;have ho:ops[i]?=some (ops[i]'h1):=Array.getElem?_eq_getElem h1;refine⟨_,ho,?_,λe he hb=>?_,h1⟩;have:i < L.size:=by omega
 simpa[this] using h2
 rw[ho] at h3;simp only[Option.map_some,Option.getD_some] at h3;rw[Array.all_eq_true_iff_forall_mem] at h3;have:=h3 e he;rw[hb] at this;simpa using this
def lN{ops:Array Oper}{L:Array Bool}(hsz:L.size=ops.size){i:Nat}{o:Oper}(ho:ops[i]?=some o)(hL:L.getD i false=false)(hm:Met (λj=>L.getD j false) o):i∈Region.ready .any ops L:=by
 have h1:=(Array.getElem?_eq_some_iff.1 ho).1;unfold Region.ready;rw[List.mem_filter,List.mem_range,Bool.and_eq_true];refine⟨h1,?_,?_⟩;have:i < L.size:=by omega
 simpa[this] using hL
 rw[ho];simp only[Option.map_some,Option.getD_some];rw[Array.all_eq_true_iff_forall_mem];intro e he;by_cases hb:Region.binds .any e=true;have:=hm e he hb;rw[hb];simpa using this
 simp[hb]
section
variable {P:Program} {G:Bc} {ops:Array Oper} {f0:List AV} {vals:Nat->AV} {Np:Nat->AS}
structure Inv(G:Bc)(ops:Array Oper)(f0:List AV)(vals:Nat->AV)(Np:Nat->AS)(nP:Cx)(w0:World)(nh:Nat)(L:Array Bool)(a:Act)(w:World):Prop where
 size:L.size=ops.size
 closed:NW ops.toList (λj=>L.getD j false)
 st:∃c k,k<=ops.size/\(∀l,YR ops l->(L.getD l false=true↔l < k))/\Ext nP w0 c w/\St G c w (Np k)/\CG c w (IP f0 (Cm ops) vals (λj=>L.getD j false) ops.size) a.tmps.toList /\
   ∀j y,ops[j]?=some y->BZ y.op=true->L.getD j false=false->rk ops j < nh->c.CX[nP.CX.length+rk ops j]?=some none
 defers:a.defers=[]
def looks{x y:Oper}{t:Nat}(hx:x.dst=some t)(hy:t∈y.looksAt ops):PZ ops x y=true:=by
 simp[PZ,hx,hy]
def aAN{x y:Oper}{t:Nat}(hx:t∈x.looksAt ops)(hy:y.dst=some t):PZ ops x y=true:=by
 simp[PZ,hx,hy]
def aHR{x y:Oper}{t:Nat}(hx:x.dst=some t)(hy:y.dst=some t):PZ ops x y=true:=by
 simp[PZ,hx,hy]
def uJ{x y:Oper}(hx:calm x.op=false)(hy:calm y.op=false):PZ ops x y=true:=by
 simp[PZ,hx,hy]
def Ci{i:Nat}{o:Oper}(h:ops[i]?=some o):ops.toList[i]?=some o:=by rw[Array.getElem?_toList];exact h
def VG{L:Nat->Bool}(Ia:MB ops=true)(hc:NW ops.toList L){i j:Nat}{x y:Oper}(hx:ops[i]?=some x)(hy:ops[j]?=some y)(hm:Met L y)(hlt:i < j)(IN:PZ ops x y=true):L i=true :=
 Yb hc (Ci hy) hm (bJ Ia hx hy hlt IN)
def QG{L:Nat->Bool}(Ia:MB ops=true)(hc:NW ops.toList L){i j:Nat}{x y:Oper}(hx:ops[i]?=some x)(hy:ops[j]?=some y)(hL:L i=false)(hlt:i < j)(IN:PZ ops x y=true):L j=false:=by
 cases h:L j with
 | false=>rfl
 | true =>
   have:=Yb hc (Ci hy) (hc j y (Ci hy) h) (bJ Ia hx hy hlt IN);rw[hL] at this;cases this
def oS{i t:Nat}(h:Cm ops i=some t):∃o,ops[i]?=some o/\o.dst=some t:=by
 unfold Cm at h;cases ho:ops[i]? with
 | none=>rw[ho] at h;cases h
 | some o=>rw[ho] at h;exact⟨o,rfl,by simpa using h⟩
def SJ{L:Nat->Bool}(Ia:MB ops=true)(hc:NW ops.toList L){i:Nat}{o:Oper}(ho:ops[i]?=some o)(hL:L i=false)(hm:Met L o){t:Nat}(ht:t∈o.looksAt ops) :
   (IP f0 (Cm ops) vals L ops.size)[t]?=(IP f0 (Cm ops) vals (λ_=>true) i)[t]?:=by
 have hi:=(Array.getElem?_eq_some_iff.1 ho).1;rw[tH (j:=i) ops.size (by omega)];refine Yk i (λj hj hd=>?_);obtain⟨x,hx,hxd⟩:=oS hd;exact VG Ia hc hx ho hm hj (looks hxd ht);intro j hj _ hd;by_cases e:j=i;subst e;exact hL;obtain⟨y,hy,hyd⟩:=oS hd;exact QG Ia hc ho hy hL (by omega) (aAN ht hyd)
def tI{L M:Nat->Bool}(Ia:MB ops=true)(hc:NW ops.toList L){i:Nat}{o:Oper}(ho:ops[i]?=some o)(hL:L i=false)(hM:M i=true)(hne:∀j,j≠i->M j=L j) :
   IP f0 (Cm ops) vals M ops.size=IY (IP f0 (Cm ops) vals L ops.size) o.dst (vals i):=by
 have hi:=(Array.getElem?_eq_some_iff.1 ho).1;have hdi:Cm ops i=o.dst:=by unfold Cm;rw[ho];rfl
 apply List.ext_getElem?;intro t;by_cases hd:o.dst=some t;rw[tH (j:=i+1) ops.size (by omega)];simp only[IP,hM,if_true,hdi,hd];rw[OX,OX,Xi,Xi];intro j hj _ hdj;obtain⟨y,hy,hyd⟩:=oS hdj;rw[hne j (by omega)];exact QG Ia hc ho hy hL (by omega) (aHR hd hyd);rw[R1 hd];refine Yk ops.size (λj _ hdj=>hne j (λe=>hd ?_));rw[<- hdi,<- e];exact hdj
def Ext.ayH{c:Cx}{w:World}{c':Cx}{w':World}(h:Ext c w c' w'){id:Nat}{y:Option Nat}(e:c.CX[id]?=some y):c'.CX[id]?=some y:=by
 obtain⟨t,ht⟩:=h.CX;rw[<- ht,List.getElem?_append_left (List.getElem?_eq_some_iff.1 e).1];exact e
def adC{nh:Nat}(Ia:MB ops=true)
   (hl:∀i o,ops[i]?=some o->calm o.op=false->Sound P G (.op ops o (IP f0 (Cm ops) vals (λ_=>true) i) (Np i) (.ret (vals i)) (Np (i+1))))
   (hq:∀i o,ops[i]?=some o->quiet o.op=true->Np (i+1)=Np i/\((Cv ops (IP f0 (Cm ops) vals (λ_=>true) i) o=false/\vals i=.sc undef)\/(Cv ops (IP f0 (Cm ops) vals (λ_=>true) i) o=true/\∀k,k<=ops.size->Win ops i k->Qz P G (IP f0 (Cm ops) vals (λ_=>true) i) (Np k) o=some (.val (vals i) (Np k)))))
   (nP:Cx) (w0:World)
   (ha:∀i o e,ops[i]?=some o->o.op=.alloc e->Np (i+1)=Np i/\((Cv ops (IP f0 (Cm ops) vals (λ_=>true) i) o=false/\vals i=.sc undef)\/(Cv ops (IP f0 (Cm ops) vals (λ_=>true) i) o=true/\∃z,Mv P e=some z/\rk ops i < nh/\vals i=.ptr (nP.CX.length+rk ops i) 0/\∀k,k<=ops.size->Win ops i k->(Np k).get (nP.CX.length+rk ops i)=some (.cells (cellsOf z)))))
   (Q:Exit->Act->World->Prop) (hQ:∀e' a' w',Tg G nP w0 .normal (IP f0 (Cm ops) vals (λ_=>true) ops.size) (Np ops.size) e' a' w'->Q e' a' w') :
   ∀(fuel:Nat) (L:Array Bool) (a:Act) (w:World),Inv G ops f0 vals Np nP w0 nh L a w->iQ (λj=>L.getD j false) ops.size=fuel->wpAny P .any ops Q fuel L a w:=by
 have hqs:∀i o,ops[i]?=some o->calm o.op=true->Np (i+1)=Np i:=λi o h1 h2=>by
   rcases X7 h2 with h2 | ⟨e,h2⟩
   exact(hq i o h1 h2).1;exact(ha i o e h1 h2).1
 have fin:∀(L:Array Bool) (a:Act) (w:World),Inv G ops f0 vals Np nP w0 nh L a w->(∀i,i < ops.size->L.getD i false=true)->Q .normal a w:=by
   intro L a w hI Hg;obtain⟨c,k,hk,Xk,hx,Gm,hfr,_⟩:=hI.st;have aNU:Np k=Np ops.size:=rU hqs ops.size hk (Nat.le_refl _) (λm h1 h2 hm=>by have:=(Xk m hm).1 (Hg m h2);omega);rw[aNU] at Gm;refine hQ _ _ _ ⟨c,hx,Gm,hI.defers,rfl,?_⟩
   have:IP f0 (Cm ops) vals (λj=>L.getD j false) ops.size=IP f0 (Cm ops) vals (λ_=>true) ops.size:=by
     apply List.ext_getElem?;intro t;exact Yk ops.size (λi hi _=>Hg i hi)
   rw[<- this];exact hfr
 intro fuel
 induction fuel with
 | zero =>
   intro L a w hI hc;have Hg:=iS ops.size hc;refine⟨?_,fin L a w hI Hg⟩;apply List.eq_nil_iff_forall_not_mem.2;intro i hi;obtain⟨o,ho,h1,_,hlt⟩:=mem_ready hI.size hi;have:=Hg i hlt;rw[h1] at this;cases this
 | succ fuel ih =>
   intro L a w hI aMU;refine⟨λeC=>fin L a w hI (λi=>?_),λi hi=>?_⟩
   · induction i using Nat.strongRecOn with
     | _ i ihi =>
       intro hlt;cases gX:L.getD i false with
       | true=>rfl
       | false =>
         exfalso;have ho:ops[i]?=some (ops[i]'hlt):=Array.getElem?_eq_getElem hlt
         have:=lN hI.size ho gX (λe he hb=>by
           have h1:=kW Ia ho he hb;exact ihi e.on h1 (by omega))
         rw[eC] at this;cases this
   · obtain⟨o,ho,gX,YA,hlt⟩:=mem_ready hI.size hi
     obtain⟨c,k,hk,Xk,hx,Gm,hfr,pK⟩:=hI.st
     have hMi:(L.setIfInBounds i true).getD i false=true:=by
       have:i < L.size:=by rw[hI.size];exact hlt
       simp[this]
     have tO:∀j,j≠i->(L.setIfInBounds i true).getD j false=L.getD j false:=by
       intro j hj;simp only[Array.getD_eq_getD_getElem?];rw[Array.getElem?_setIfInBounds_ne (λe=>hj e.symm)]
     have hle:∀j,L.getD j false=true->(L.setIfInBounds i true).getD j false=true:=by
       intro j hj;by_cases e:j=i;subst e;exact hMi;rw[tO j e];exact hj
     have Yu:NW ops.toList (λj=>(L.setIfInBounds i true).getD j false):=by
       intro j y hy hj e he hb;by_cases ej:j=i;subst ej;rw[Ci ho] at hy;cases hy;exact hle _ (YA e he hb);have hj2:L.getD j false=true:=by rw[<- tO j ej];exact hj
       exact hle _ (hI.closed j y hy hj2 e he hb)
     have aeV:iQ (λj=>(L.setIfInBounds i true).getD j false) ops.size=fuel:=by
       have:=(sX (L:=λj=>L.getD j false) (M:=λj=>(L.setIfInBounds i true).getD j false) gX hMi tO ops.size).1 hlt;omega
     have ZS:=tI (f0:=f0) (vals:=vals) (L:=λj=>L.getD j false) (M:=λj=>(L.setIfInBounds i true).getD j false) Ia hI.closed ho gX hMi tO
     have awE:∀(k':Nat) (u:Value) (w':World) (c':Cx),k'<=ops.size->(∀l,YR ops l->((L.setIfInBounds i true).getD l false=true↔l < k'))->Ext nP w0 c' w'->Mon c w c' w' ->
         (∀j y,ops[j]?=some y->BZ y.op=true->(L.setIfInBounds i true).getD j false=false->rk ops j < nh->c'.CX[nP.CX.length+rk ops j]?=some none)->St G c' w' (Np k')->Rp c' w' (vals i) u->wpAny P .any ops Q fuel (L.setIfInBounds i true) (a.put o.dst u) w':=by
       intro k' u w' c' hk' eB TZ hm' hh' M4 hu;refine ih _ _ _ ⟨by simp[hI.size],Yu,⟨c',k',hk',eB,TZ,M4,?_,hh'⟩,by cases o.dst<;>exact hI.defers⟩ aeV
       rw[ZS];exact OY (hfr.Dz hm') hu
     have step:∀(k':Nat) (u:Value) (w':World) (c':Cx),k'<=ops.size->(∀l,YR ops l->((L.setIfInBounds i true).getD l false=true↔l < k'))->Ext c w c' w'->St G c' w' (Np k')->Rp c' w' (vals i) u->wpAny P .any ops Q fuel (L.setIfInBounds i true) (a.put o.dst u) w':=by
       intro k' u w' c' hk' eB TZ M4 hu;refine awE k' u w' c' hk' eB (hx.trans TZ) TZ.mon (λj y hy eQ hj hjn=>?_) M4 hu;have hji:j≠i:=λe=>by subst e;rw[hMi] at hj;cases hj
       rw[tO j hji] at hj;exact TZ.ayH (pK j y hy eQ hj hjn)
     have jX:∀x∈o.op.operands,ZJ G c w (IP f0 (Cm ops) vals (λ_=>true) i) a.eval x:=by
       intro x hxo v hv;cases x with
       | tmp t =>
         have afA:t∈o.looksAt ops:=by
           unfold Oper.looksAt;rw[List.mem_append];left;rw[List.mem_filterMap];exact⟨.tmp t,Array.mem_toList_iff.2 hxo,rfl⟩
         have he:=SJ (f0:=f0) (vals:=vals) Ia hI.closed ho gX YA afA
         have:Bd G (IP f0 (Cm ops) vals (λj=>L.getD j false) ops.size) (.tmp t)=some v:=by
           rw[<- hv];simp only[Bd,List.getD_eq_getElem?_getD,he]
         exact EA Gm hfr this
       | const z=>exact EA (fr:=IP f0 (Cm ops) vals (λj=>L.getD j false) ops.size) Gm hfr hv
       | global g=>exact EA (fr:=IP f0 (Cm ops) vals (λj=>L.getD j false) ops.size) Gm hfr hv
       | func f=>exact EA (fr:=IP f0 (Cm ops) vals (λj=>L.getD j false) ops.size) Gm hfr hv
     have Ww:Cv ops (IP f0 (Cm ops) vals (λ_=>true) i) o=Region.wanted o (yielded ops a.tmps):=by
       refine N1 (c:=c) (w:=w) (λj want hg d hd=>⟨_,hfr,?_⟩);refine SJ Ia hI.closed ho gX YA ?_;unfold Oper.looksAt;rw[List.mem_append];right;rw[hg];simp[hd]
     have dX:MW P ops o (wpAny P .any ops Q fuel (L.setIfInBounds i true)) Q a w->wpOp P ops Q i (wpAny P .any ops Q fuel (L.setIfInBounds i true)) a w:=by
       intro h;unfold wpOp;rw[ho];unfold MW at h;simp only;split;rename_i hw;rw[if_pos hw] at h;exact .inl h;rename_i hw;rw[if_neg hw] at h;exact h
     refine dX ?_;cases hqo:calm o.op with
     | false =>
       have hki:Np k=Np i:=by
         rcases Nat.le_total k i with ayW | ayW
         exact rU hqs i ayW (by omega) (λm h1 h2 hm=>by
           obtain⟨y,hy,tZ⟩:=hm;have:=VG Ia hI.closed hy ho YA h2 (uJ tZ hqo);have:=(Xk m ⟨y,hy,tZ⟩).1 this;omega)
         exact(rU hqs k ayW hk (λm h1 h2 hm=>by
           obtain⟨y,hy,tZ⟩:=hm;have hLm:=(Xk m ⟨y,hy,tZ⟩).2 h2;by_cases e:m=i;subst e;rw[gX] at hLm;cases hLm;have:=QG Ia hI.closed ho hy gX (by omega) (uJ hqo tZ);rw[this] at hLm;cases hLm)).symm
       rw[hki] at Gm;refine hl i o ho hqo c w a _ _ Gm jX Ww ?_;intro u w' c' TZ M4 hu;refine step (i+1) u w' c' (by omega) (λl hl'=>?_) TZ M4 hu;by_cases e:l=i;subst e;rw[hMi];simp;rw[tO l e,Xk l hl'];obtain⟨y,hy,tZ⟩:=hl';constructor;intro hlt';have hLl:=(Xk l ⟨y,hy,tZ⟩).2 hlt';rcases Nat.lt_or_ge l i with h1 | h1
       omega;have:=QG Ia hI.closed ho hy gX (by omega) (uJ hqo tZ);rw[this] at hLl;cases hLl;intro hlt';have:=VG Ia hI.closed hy ho YA (by omega) (uJ tZ hqo);exact(Xk l ⟨y,hy,tZ⟩).1 this
     | true =>
       have eB:∀l,YR ops l->((L.setIfInBounds i true).getD l false=true↔l < k):=by
         intro l hl'
         have hne:l≠i:=by
           intro e;subst e;obtain⟨y,hy,tZ⟩:=hl';rw[ho] at hy;cases hy;rw[hqo] at tZ;cases tZ
         rw[tO l hne];exact Xk l hl'
       have ZV:Win ops i k:=by
         refine⟨λl hl' hd=>?_,λl hl' hd=>?_⟩;exact(Xk l hl').1 (Yb hI.closed (Ci ho) YA hd);rcases Nat.lt_or_ge l k with h1 | h1
         exfalso;have hLl:=(Xk l hl').2 h1;obtain⟨y,hy,tZ⟩:=hl';have:=Yb hI.closed (Ci hy) (hI.closed l y (Ci hy) hLl) hd;rw[gX] at this;cases this;exact h1
       unfold MW;rcases X7 hqo with hqo | ⟨e,hoe⟩
       obtain⟨_,Tx⟩:=hq i o ho hqo;rcases Tx with ⟨hw,hv⟩ | ⟨hw,hv⟩
       rw[<- Ww,hw];simp only[Bool.false_eq_true,if_false];exact step k undef w c hk eB (Ext.refl c w) Gm (by rw[hv];exact .sc rfl);rw[<- Ww,hw];simp only[if_true];have aFC:=dA Gm jX (λ_=>rfl) (hv k hk ZV);obtain⟨u,w',c',hr,TZ,M4,hu⟩:=aFC;unfold Oper.wp;rcases hr with hr | ⟨hr,rfl⟩
       rw[hr];exact step k u w' c' hk eB TZ M4 hu;rw[hr];exact step k undef w' c' hk eB TZ M4 hu;obtain⟨_,Tx⟩:=ha i o e ho hoe;rcases Tx with ⟨hw,hv⟩ | ⟨hw,z,hz,hrk,hv,aFD⟩
       rw[<- Ww,hw];simp only[Bool.false_eq_true,if_false];exact step k undef w c hk eB (Ext.refl c w) Gm (by rw[hv];exact .sc rfl);rw[<- Ww,hw];simp only[if_true];have hia:BZ o.op=true:=by rw[hoe];rfl
       obtain⟨u,w',c',hr,hm',M4,hu,aMZ,aNM⟩:=oC (ρ:=a.eval) Gm hoe hz (pK i o ho hia gX hrk) (aFD k hk ZV);unfold Oper.wp;rw[hr];refine awE k u w' c' hk eB (aMZ nP w0 hx (by omega)) hm' (λj y hy eQ hj hjn=>?_) M4 (by rw[hv];exact hu);have hji:j≠i:=λe=>by subst e;rw[hMi] at hj;cases hj
       rw[tO j hji] at hj;have hne:rk ops j≠rk ops i:=λe=>hji (aBU hy ho eQ hia e);rw[aNM _ (by omega)];exact pK j y hy eQ hj hjn
end
end AI
namespace AI
open Go Go.RowKit
def fE{G:Bc}{c:Cx}{w:World}{s:AS}{fr:List AV}{a:Act}(hs:St G c w s)(hf:CG c w fr a.tmps.toList)(x:Operand):ZJ G c w fr a.eval x:=λ_ hv=>EA hs hf hv
def Mc{P:Program}{ops:Array Oper}{o:Oper}{i:Nat}{l:List Nat}{Q:Exit->Act->World->Prop}{a:Act}{w:World}(ho:ops[i]?=some o)(h:MW P ops o (wpOps P ops Q l) Q a w):wpOps P ops Q (i::l) a w:=by
 unfold wpOps;rw[ho];unfold MW at h;simp only;split;rename_i hw;rw[if_pos hw] at h;exact .inl h;rename_i hw;rw[if_neg hw] at h;exact h
def Tg.P7{G:Bc}{c:Cx}{w:World}{e:AX}{fr':List AV}{s':AS}{e':Exit}{a':Act}{w':World}(h:Tg G c w e fr' s' e' a' w')(he:e≠.normal):e'≠.normal:=by
 obtain⟨c',_,_,_,h4⟩:=h;cases e with
 | normal=>exact absurd rfl he
 | exit id=>intro h5;rw[h4.1] at h5;cases h5
 | ret=>intro h5;rw[h4.1] at h5;cases h5
 | pan v=>obtain⟨u,h5,_⟩:=h4;intro h6;rw[h5] at h6;cases h6
def Vk{K:Act->World->Prop}{Q:Exit->Act->World->Prop}{e:Exit}{a:Act}{w:World}(he:e≠.normal)(h:Q e a w):Exit.then K Q e a w:=by
 cases e<;>first | exact absurd rfl he | exact h
structure auH(P:Program)(G:Bc)(X:WR)(H:TK):Prop where
 mixed:P.follows .mixedOrders=true
 ext:∀f args s r s',X f args s r s'->Sound P G (.call f args s r s')
 ayX:∀f args g Ym k,H f args=some (g,Ym,k)->∀s r s' r',Sound P G (.call g Ym s r s')->k r=some r'->Sound P G (.call f args s r' s')
def sound{P:Program}{G:Bc}{X:WR}{H:TK}(hg:auH P G X H){jd:Jd}(h:J P G X H jd):Sound P G jd:=by
 induction h with
 | sem h=>exact h hg.mixed
 | Zz hw _ ih=>intro cx w a Q hs hf hd hQ;obtain⟨c2,x,h1,h2⟩:=hw cx w _ hs hf;exact ih c2 w a Q h1 h2 hd (λe a w hp=>hQ e a w (hp.ext x))
 | awN hw _ ih=>obtain⟨n,ih⟩:=ih;exact⟨n,λcx w a Q hs hf hd hQ=>by obtain⟨c2,x,h1,h2⟩:=hw cx w _ hs hf;exact ih c2 w a Q h1 h2 hd (λe a w hp=>hQ e a w (hp.ext x))⟩
 | qS _ _ hv ih =>
   intro cx w a K Q hs I6 hwa hK;exact ih cx w a K Q hs I6 hwa (λu w' c' x st hu=>hK u w' c' x st (hv _ _ _ hu))
 | fD _ _ hv ih =>
   intro cx w a K Q hs I6 hwa hK;exact ih cx w a K Q hs I6 hwa (λu w' c' x st hu=>hK u w' c' x (hv _ _ st) hu)
 | @scope c fr fr2 fr' s s2 s' e _ he hsc ih =>
   intro cx w a Q hs hf hd hQ;refine ih cx w a Q hs hf hd ?_;rintro e' a' w' ⟨c',hx,hs',RF,h4⟩;cases e with
   | normal=>obtain⟨rfl,h5⟩:=h4;obtain⟨c2,x2,UF,f2⟩:=hsc cx w c' w' _ hx hs hs' h5;exact hQ _ _ _ ⟨c2,x2,UF,RF,rfl,f2⟩
   | exit id=>obtain⟨rfl,h5⟩:=h4;obtain⟨c2,x2,UF,f2⟩:=hsc cx w c' w' _ hx hs hs' h5;exact hQ _ _ _ ⟨c2,x2,UF,RF,rfl,f2⟩
   | ret=>obtain⟨rfl,h5⟩:=h4;obtain⟨c2,x2,UF,f2⟩:=hsc cx w c' w' _ hx hs hs' h5;exact hQ _ _ _ ⟨c2,x2,UF,RF,rfl,f2⟩
   | pan v=>exact absurd rfl (he v)
 | skip=>intro cx w a Q hs hf hd hQ;exact wp_skip (hQ _ _ _ ⟨cx,Ext.refl _ _,hs,hd,rfl,hf⟩)
 | exit=>intro cx w a Q hs hf hd hQ;exact wp_exit (hQ _ _ _ ⟨cx,Ext.refl _ _,hs,hd,rfl,hf⟩)
 | ret=>intro cx w a Q hs hf hd hQ;exact wp_ret (hQ _ _ _ ⟨cx,Ext.refl _ _,hs,hd,rfl,hf⟩)
 | seq _ _ pU yO =>
   intro cx w a Q hs hf hd hQ;refine wp_seq (pU cx w a _ hs hf hd ?_);rintro e' a' w' ⟨c',hx,hs',RF,rfl,Yw⟩;exact yO c' w' a' Q hs' Yw RF (λe2 a2 w2 h2=>hQ e2 a2 w2 (h2.ext hx))
 | rO _ he pU =>
   intro cx w a Q hs hf hd hQ;refine wp_seq (pU cx w a _ hs hf hd ?_);intro e' a' w' hp;exact Vk (hp.P7 he) (hQ _ _ _ hp)
 | @cond q x y t fr fr' s s' e hq _ ih =>
   intro cx w a Q hs hf hd hQ;have hr:=EA hs hf hq
   have I6:a.eval q=.bool t:=by
     generalize a.eval q=v at hr;cases hr;rfl
   exact wp_cond I6 (ih cx w a Q hs hf hd hQ)
 | @block id c fr fr' s s' e _ ih =>
   intro cx w a Q hs hf hd hQ;refine wp_block (ih cx w a _ hs hf hd ?_);rintro e' a' w' ⟨c',hx,hs',RF,h4⟩;cases e with
   | normal=>obtain⟨rfl,h5⟩:=h4;exact hQ _ _ _ ⟨c',hx,hs',RF,rfl,h5⟩
   | exit Rl =>
     obtain⟨rfl,h5⟩:=h4;show if Rl=id then Q .normal a' w' else Q (.exit Rl) a' w'
     by_cases hid:Rl=id;rw[if_pos hid];refine hQ _ _ _ ⟨c',hx,hs',RF,?_⟩;simp only[E4,hid,if_true];exact⟨trivial,h5⟩;rw[if_neg hid];refine hQ _ _ _ ⟨c',hx,hs',RF,?_⟩;simp only[E4,hid,if_false];exact⟨trivial,h5⟩
   | ret=>obtain⟨rfl,h5⟩:=h4;exact hQ _ _ _ ⟨c',hx,hs',RF,rfl,h5⟩
   | pan v=>obtain⟨u,rfl,h5⟩:=h4;exact hQ _ _ _ ⟨c',hx,hs',RF,u,rfl,h5⟩
 | loop _ ih =>
   intro cx w a Q hs hf hd hQ;obtain⟨n,hn⟩:=ih;exact wp_loop_rounds n (hn cx w a Q hs hf hd hQ)
 | loopN _ _ pU yO =>
   obtain⟨n,hn⟩:=yO;refine⟨n+1,?_⟩;intro cx w a Q hs hf hd hQ;rw[rounds_succ];refine pU cx w a _ hs hf hd ?_;rintro e' a' w' ⟨c',hx,hs',RF,rfl,Yw⟩;exact hn c' w' a' Q hs' Yw RF (λe2 a2 w2 h2=>hQ e2 a2 w2 (h2.ext hx))
 | loopX _ he pU =>
   refine⟨1,?_⟩;intro cx w a Q hs hf hd hQ;rw[rounds_succ];refine pU cx w a _ hs hf hd ?_;intro e' a' w' hp;exact Vk (hp.P7 he) (hQ _ _ _ hp)
 | region _ ih =>
   intro cx w a Q hs hf hd hQ;exact wp_region (ih cx w a Q hs hf hd hQ)
 | ahE=>intro cx w a Q hs hf hd hQ;exact hQ _ _ _ ⟨cx,Ext.refl _ _,hs,hd,rfl,hf⟩
 | @uY ops i l o v fr fr' s s1 s' e ho _ _ pU yO =>
   intro cx w a Q hs hf hd hQ;refine Mc ho (pU cx w a _ _ hs (λx _=>fE hs hf x) (N1 (c:=cx) (w:=w) (λ_ _ _ _ _=>⟨fr,hf,rfl⟩)) ?_);intro u w' c' hx hs' hu;exact yO c' w' (a.put o.dst u) Q hs' (OY (hf.mono hx) hu) (by cases o.dst<;>exact hd) (λe2 a2 w2 h2=>hQ e2 a2 w2 (h2.ext hx))
 | @ahF ops i l o v fr s s1 ho _ pU =>
   intro cx w a Q hs hf hd hQ;refine Mc ho (pU cx w a _ _ hs (λx _=>fE hs hf x) (N1 (c:=cx) (w:=w) (λ_ _ _ _ _=>⟨fr,hf,rfl⟩)) ?_);intro u w' c' hx hs' hu;exact hQ _ _ _ ⟨c',hx,hs',hd,u,rfl,hu⟩
 | @Og ops o fr s s' v hw h =>
   intro cx w a K Q hs I6 hwa hK;unfold MW;rw[<- hwa,hw];simp only[if_true];obtain⟨u,w',c',hr,hx,hs',hu⟩:=dA hs I6 (λ_=>rfl) h;unfold Oper.wp;rcases hr with hr | ⟨hr,rfl⟩
   rw[hr];exact hK u w' c' hx hs' hu;rw[hr];exact hK undef w' c' hx hs' hu
 | @ahD ops o fr s s' cl x y t tx a b v hw ho IN hxs D0 ha hb h =>
   intro cx w ac K Q hs I6 hwa hK;unfold MW;rw[<- hwa,hw];simp only[if_true];have e1:cl.args=#[x,y]:=by apply Array.ext';rw[hxs]
   have e2:cl.argTypes=#[t,tx]:=by apply Array.ext';rw[D0]
   have jV:∀z∈[x,y],z∈o.op.operands:=λz hz=>by rw[ho];simp only[Op.operands,Call.operands,e1,Array.mem_append];exact .inr (by simpa using hz)
   obtain⟨u,w',c',hr,hx,hs',hu⟩:=h cx w _ _ o.type hs (I6 x (jV x (by simp)) a ha) (I6 y (jV y (by simp)) b hb);unfold Oper.wp
   have hr2:(execOp ac.eval o).run P w=.ok (.value u) w':=by
     simp[execOp,ho,resolve,IN,e1,e2,invoke,builtin,hr]
   rw[hr2];exact hK u w' c' hx hs' hu
 | @qR ops o fr s hw =>
   intro cx w a K Q hs I6 hwa hK;unfold MW;rw[<- hwa,hw];simp only[Bool.false_eq_true,if_false];exact hK undef w cx (Ext.refl _ _) hs (.sc rfl)
 | @Sl ops o fr s s' f args r hw h _ ih =>
   intro cx w a K Q hs I6 hwa hK;unfold MW;rw[<- hwa,hw];simp only[if_true];obtain⟨vs,hr,GN⟩:=dA hs I6 (λ_=>rfl) h;unfold Oper.wp;rw[hr];refine(ih cx w vs hs GN).mono ?_;rintro e w' ⟨c',hx,hs',h4⟩;cases r with
   | ret v=>obtain⟨u,rfl,hu⟩:=h4;exact hK u w' c' hx hs' hu
   | pan v=>obtain⟨u,rfl,hu⟩:=h4;exact hK u w' c' hx hs' hu
 | @avQ ops o fr s v hw h =>
   intro cx w a K Q hs I6 hwa hK;unfold MW;rw[<- hwa,hw];simp only[if_true];obtain⟨u,hr,hu⟩:=dA hs I6 (λ_=>rfl) h;unfold Oper.wp;rw[hr];exact hK u w cx (Ext.refl _ _) hs hu
 | @draw id ops f0 s0 rs vals Np h0 Ia hl hq ha ihl =>
   intro cx w a Q hs hf hd hQ;refine wp_region_any hg.mixed ?_;obtain⟨x,st⟩:=hs.same (iN w);obtain⟨c2,x2,UF,Sd⟩:=st.holds rs;rw[<- h0] at UF;rw[hs.len] at ha;refine adC (nh:=rs.length) Ia ihl hq cx w ha Q hQ ops.size _ a _ ⟨by simp,?_,⟨c2,0,Nat.zero_le _,?_,x.trans x2,UF,?_,?_⟩,hd⟩ ?_;intro i o ho hL;exfalso;simp only[Array.getD_eq_getD_getElem?,Array.getElem?_replicate] at hL;split at hL<;>simp at hL
   intro l _;simp only[Array.getD_eq_getD_getElem?,Array.getElem?_replicate];split<;>simp
   · have:IP f0 (Cm ops) vals (λj=>(Array.replicate ops.size false).getD j false) ops.size=f0:=by
       have key:∀n,IP f0 (Cm ops) vals (λj=>(Array.replicate ops.size false).getD j false) n=f0:=by
         intro n
         induction n with
         | zero=>rfl
         | succ n ih =>
           simp only[IP,ih];rw[if_neg];simp only[Array.getD_eq_getD_getElem?,Array.getElem?_replicate];split<;>simp
       exact key _
     rw[this];exact hf.mono (x.trans x2)
   intro j y _ _ _ hj;rw[Sd,List.getElem?_append_right (by omega)];simp[List.getElem?_replicate];omega
   · have key:∀n,iQ (λj=>(Array.replicate ops.size false).getD j false) n=n:=by
       intro n
       induction n with
       | zero=>rfl
       | succ n ih =>
         simp only[iQ,ih]
         have:(Array.replicate ops.size false).getD n false=false:=by
           simp only[Array.getD_eq_getD_getElem?,Array.getElem?_replicate];split<;>simp
         simp only[this];simp
     exact key _
 | @body f fn c args fr' s s' s2 e v hf hb _ he hr hk ih =>
   intro cx w vs hs GN;have hl:=GN.len;refine calls_of_wp hf hb (ih cx w _ _ hs ?_ rfl ?_);simp only[Array.toList_append,Array.toList_replicate];rw[List.size_toArray,hl];exact GN.append (CG.replicate (.sc rfl) _);rintro e' a' w' ⟨c',hx,hs',RF,h4⟩
   have ZI:St G c' w' s2:=by
     rcases hk with rfl | rfl
     exact hs'.cut _;exact hs'
   rcases he with rfl | rfl
   obtain⟨rfl,h5⟩:=h4;obtain⟨u,h6,h7⟩:=R3 hs' h5 hr;exact⟨RF,u,h6,c',hx,ZI,u,rfl,h7⟩;obtain⟨rfl,h5⟩:=h4;obtain⟨u,h6,h7⟩:=R3 hs' h5 hr;exact⟨RF,u,h6,c',hx,ZI,u,rfl,h7⟩
 | @auN f fn c args fr' s s' v hf hb _ ih =>
   intro cx w vs hs GN;have hl:=GN.len;refine calls_of_wp hf hb (ih cx w _ _ hs ?_ rfl ?_);simp only[Array.toList_append,Array.toList_replicate];rw[List.size_toArray,hl];exact GN.append (CG.replicate (.sc rfl) _);rintro e' a' w' ⟨c',hx,hs',RF,u,rfl,h5⟩;exact⟨RF,c',hx,hs'.cut _,u,rfl,h5⟩
 | ext h=>exact hg.ext _ _ _ _ _ h
 | ayX hh _ hk ih=>exact hg.ayX _ _ _ _ _ hh _ _ _ _ ih hk
end AI
namespace AI
open Go Go.RowKit
def amT:Value->Value->Bool
 | .int k a,.int k' b=>k == k'&&a == b
 | .bool a,.bool b=>a == b
 | .string a,.string b=>a.data.toList == b.data.toList
 | .nilIface,.nilIface=>true
 | .nilFunc,.nilFunc=>true
 | .pointer none,.pointer none=>true
 | .map none,.map none=>true
 | .tuple a,.tuple b=>a.size == 0&&b.size == 0
 | _,_=>false
def sT{a b:Value}(h:amT a b=true):a=b:=by
 unfold amT at h;split at h;simp at h;rw[h.1,h.2];simp at h;rw[h];simp only[beq_iff_eq] at h;rename_i x y;have:x=y:=ByteArray.ext (Array.ext' h);rw[this];rfl;rfl;rfl;rfl;rename_i x y;simp at h;rw[h.1,h.2];cases h
mutual
def TQ:AV->AV->Bool
 | .sc a,.sc b=>amT a b
 | .agg a,.agg b=>X3 a b
 | .C4 a,.C4 b=>X3 a b
 | .sl o n a,.sl p m b=>decide (o=p)&&n == m&&X3 a b
 | .msl a b c,.msl x y z=>a == x&&b == y&&c == z
 | .el a,.el b=>X3 a b
 | .ptr a b,.ptr x y=>a == x&&b == y
 | .fn f a b,.fn g x y=>decide (f=g)&&X3 a x&&X3 b y
 | .ifc t a,.ifc u b=>t == u&&TQ a b
 | .mp a,.mp b=>a == b
 | _,_=>false
def X3:List AV->List AV->Bool
 | [],[]=>true
 | a::as,b::bs=>TQ a b&&X3 as bs
 | _,_=>false
end
mutual
def sS:∀{a b:AV},TQ a b=true->a=b
 | .sc a,b,h=>by cases b<;>simp[TQ] at h;rw[sT h]
 | .agg a,b,h=>by cases b<;>simp[TQ] at h;rw[OZ h]
 | .C4 a,b,h=>by cases b<;>simp[TQ] at h;rw[OZ h]
 | .sl o n a,b,h=>by cases b<;>simp[TQ] at h;rw[h.1.1,h.1.2,OZ h.2]
 | .msl _ _ _,b,h=>by cases b<;>simp[TQ] at h;rw[h.1.1,h.1.2,h.2]
 | .el a,b,h=>by cases b<;>simp[TQ] at h;rw[OZ h]
 | .ptr _ _,b,h=>by cases b<;>simp[TQ] at h;rw[h.1,h.2]
 | .fn f a c,b,h=>by cases b<;>simp[TQ] at h;rw[h.1.1,OZ h.1.2,OZ h.2]
 | .ifc t a,b,h=>by cases b<;>simp[TQ] at h;rw[h.1,sS h.2]
 | .mp _,b,h=>by cases b<;>simp[TQ] at h;rw[h]
 | .any,b,h=>by cases b<;>simp[TQ] at h
def OZ:∀{a b:List AV},X3 a b=true->a=b
 | [],b,h=>by cases b<;>simp[X3] at h;rfl
 | a::as,b,h=>by cases b<;>simp[X3] at h;rw[sS h.1,OZ h.2]
end
def reads:Op->Bool
 | .load .. | .lookup ..=>true
 | .call cl=>(match cl.callee with
   | .builtin .len=>true
   | _=>false)
 | _=>false
def V2{P:Program}{G:Bc}{fr:List AV}{s:AS}{o:Oper}{r:AR}(hq:quiet o.op=true)(h:Qz P G fr s o=some r):∃v,r=.val v s:=by
 unfold Qz at h;split at h<;>rename_i ho<;>(try (rw[ho] at hq;simp[quiet] at hq;done))
 all_goals first
   | (obtain⟨v,_,rfl⟩:=map_some h;exact⟨_,rfl⟩)
   | (split at h
      all_goals first
        | (obtain⟨v,_,rfl⟩:=map_some h;exact⟨_,rfl⟩)
        | (cases h;done)
        | (cases h;exact⟨_,rfl⟩)
        | (split at h
           all_goals first
             | (cases h;done)
             | (cases h;exact⟨_,rfl⟩)))
   | (obtain⟨_,_,h2⟩:=bind_some h;obtain⟨v,_,rfl⟩:=map_some h2;exact⟨_,rfl⟩)
   | (rw[ho] at hq
      unfold Tj at h;split at h
      all_goals first
        | (obtain⟨_,_,h2⟩:=bind_some h;obtain⟨v,_,rfl⟩:=map_some h2;exact⟨_,rfl⟩)
        | (rename_i IN;simp[quiet,IN] at hq;done)
        | (split at h
           all_goals first
             | (obtain⟨v,_,rfl⟩:=map_some h;exact⟨_,rfl⟩)
             | (cases h;done))
        | (cases h;done))
   | (cases h;done)
def Ui{P:Program}{G:Bc}{fr:List AV}{s:AS}{o:Oper}{v:AV}{s':AS}(hq:quiet o.op=true)(hr:reads o.op=false)(h:Qz P G fr s o=some (.val v s'))(s2:AS):Qz P G fr s2 o=some (.val v s2):=by
 have e:=V2 hq h;obtain⟨v',e⟩:=e;injection e with e1 e2
 subst e1 e2;obtain⟨dst,op,ty,pos,after,guard⟩:=o;cases op<;>simp only[quiet,reads,Bool.false_eq_true] at hq hr<;>simp only[Qz] at h ⊢
 all_goals first
   | (obtain⟨v',h1,h2⟩:=map_some h;injection h2 with h2;subst h2;rw[h1];rfl)
   | (obtain⟨q,h0,h2⟩:=bind_some h;obtain⟨v',h1,h3⟩:=map_some h2;injection h3 with h3;subst h3;rw[h0,Option.bind_some,h1];rfl)
   | (split at h
      all_goals first
        | (obtain⟨v',h1,h2⟩:=map_some h;injection h2 with h2;subst h2;simp only[*,Option.map_some];done)
        | (cases h;done)
        | (cases h;simp only[*];done)
        | (split at h
           all_goals first
             | (cases h;done)
             | (cases h;simp[*];done)))
   | (cases hr;done)
   | (rename_i cl
      unfold Tj at h ⊢;split at h
      all_goals first
        | (rename_i IN;simp[IN] at hr;done)
        | (rename_i IN;simp[IN] at hq;done)
        | (simp only;obtain⟨q,h0,h2⟩:=bind_some h;obtain⟨v',h1,h3⟩:=map_some h2;injection h3 with h3;subst h3;rw[h0,Option.bind_some,h1];rfl)
        | (cases h;done))
end AI
namespace AI
open Go Go.RowKit
inductive Tk where
 | code (c:Code) (fr:List AV) (s:AS)
 | loop (c:Code) (fr:List AV) (s:AS)
 | ops (ops:Array Oper) (l:List Oper) (fr:List AV) (s:AS)
 | draw (ops:Array Oper) (l:List Oper) (fr:List AV) (s:AS) (q:Nat)
 | op (ops:Array Oper) (o:Oper) (fr:List AV) (s:AS)
 | call (f:FuncId) (args:List AV) (s:AS)
inductive Rs where
 | code (e:AX) (fr:List AV) (s:AS)
 | call (r:CR) (s:AS)
 | tr (l:List (List AV×AS×AV)) (fr:List AV) (s:AS)
abbrev auG:=FuncId->List AV->AS->Option (CR×AS)
def Ny:List Oper->Nat->List Nat
 | [],_=>[]
 | o::os,i=>if calm o.op then Ny os (i+1) else i::Ny os (i+1)
def akW(ms:List Nat)(ls:List Nat)(i k:Nat):Bool:=ls.all λl=>(!SH ms i l||decide (l < k))&&(!SH ms l i||decide (k<=l))
def vS(P:Program)(G:Bc)(ms ls:List Nat)(i:Nat)(o:Oper)(fr:List AV)(v:AV):List AS->Nat->Bool
 | [],_=>true
 | s::ss,k=>(!akW ms ls i k||(match Qz P G fr s o with
     | some (.val u _)=>TQ u v
     | _=>false))&&vS P G ms ls i o fr v ss (k+1)
def vW(P:Program)(G:Bc)(ops:Array Oper)(ms ls:List Nat)(Np:List AS):List Oper->List (List AV×AS×AV)->Nat->Bool
 | o::os,t::ts,i=>(!(quiet o.op&&reads o.op)||!Cv ops t.1 o||vS P G ms ls i o t.1 t.2.2 Np 0)&&vW P G ops ms ls Np os ts (i+1)
 | _,_,_=>true
def X4(ms ls:List Nat)(i id:Nat)(cs:List AV):List AS->Nat->Bool
 | [],_=>true
 | s::ss,k=>(!akW ms ls i k||(match s.get id with
     | some (.cells ds)=>X3 ds cs
     | _=>false))&&X4 ms ls i id cs ss (k+1)
def TO(P:Program)(ops:Array Oper)(ms ls:List Nat)(Np:List AS):List Oper->List (List AV×AS×AV)->Nat->Nat->Bool
 | o::os,t::ts,i,q=>(match o.op with
   | .alloc e=>(!Cv ops t.1 o||(match Mv P e with
     | some z=>X4 ms ls i q (cellsOf z) Np 0
     | none=>false))&&TO P ops ms ls Np os ts (i+1) (q+1)
   | _=>TO P ops ms ls Np os ts (i+1) q)
 | _,_,_,_=>true
def rsv(P:Program):List Oper->Option (List AM)
 | []=>some []
 | o::l=>(match o.op with
   | .alloc e=>(match Mv P e,rsv P l with
     | some z,some r=>some (.cells (cellsOf z)::r)
     | _,_=>none)
   | _=>rsv P l)
def arV(P:Program)(G:Bc)(ops:Array Oper)(tr:List (List AV×AS×AV))(sf:AS):Bool :=
 match Ny ops.toList 0 with
 | []=>true
 | ls=>vW P G ops (Ix ops.toList []) ls (tr.map (·.2.1)++[sf]) ops.toList tr 0
def XD(P:Program)(ops:Array Oper)(tr:List (List AV×AS×AV))(sf:AS)(q:Nat):List AM->Bool
 | []=>true
 | _=>TO P ops (Ix ops.toList []) (Ny ops.toList 0) (tr.map (·.2.1)++[sf]) ops.toList tr 0 q
def aCK(P:Program)(G:Bc)(ops:Array Oper)(tr:List (List AV×AS×AV))(sf:AS)(q:Nat)(r:List AM):Bool :=
 match arV P G ops tr sf with
 | true=>XD P ops tr sf q r
 | false=>false
def aEA:AV->Bool
 | .ptr _ _ | .msl _ _ _ | .mp _ | .fn _ _ _=>true
 | _=>false
def axX:List AV->Bool
 | []=>false
 | a::l=>match aEA a with
   | true=>true
   | false=>axX l
def esc:AV->Bool
 | .agg l=>axX l
 | .C4 l=>axX l
 | a=>aEA a
def fin(v:AV)(s:AS)(n:Nat):AS:=match esc v with
 | true=>s
 | false=>s.cut n
def Pm(ops:Array Oper)(fr:List AV)(o:Oper)(q:Nat):AV:=match Cv ops fr o with
 | true=>.ptr q 0
 | false=>.sc undef
inductive SZ(P:Program)(G:Bc)(X:WR)(H:TK)(ops:Array Oper):Nat->List Oper->List AV->AS->List (List AV×AS×AV)->List AV->AS->Prop where
 | nil {q:Nat} {fr:List AV} {s:AS}:SZ P G X H ops q [] fr s [] fr s
 | cons {q:Nat} {o:Oper} {l:List Oper} {fr fr':List AV} {s s1 s':AS} {v:AV} {t:List (List AV×AS×AV)} (ha:BZ o.op=false) (h:J P G X H (.op ops o fr s (.ret v) s1)) (k:SZ P G X H ops q l (IY fr o.dst v) s1 t fr' s'):SZ P G X H ops q (o::l) fr s ((fr,s,v)::t) fr' s'
 | alloc {q:Nat} {o:Oper} {l:List Oper} {fr fr':List AV} {s s':AS} {t:List (List AV×AS×AV)} (ha:BZ o.op=true) (k:SZ P G X H ops (q+1) l (IY fr o.dst (Pm ops fr o q)) s t fr' s'):SZ P G X H ops q (o::l) fr s ((fr,s,Pm ops fr o q)::t) fr' s'
section
variable {P:Program} {G:Bc} {X:WR} {H:TK} {ops:Array Oper}
def SZ.len{q:Nat}{l:List Oper}{fr fr':List AV}{s s':AS}{t:List (List AV×AS×AV)}(h:SZ P G X H ops q l fr s t fr' s'):t.length=l.length:=by
 induction h with
 | nil=>rfl
 | cons _ _ _ ih=>simp[ih]
 | alloc _ _ ih=>simp[ih]
def FZ(t:List (List AV×AS×AV))(sf:AS)(i:Nat):AS:=match t[i]? with
 | some x=>x.2.1
 | none=>sf
def KH(t:List (List AV×AS×AV))(i:Nat):AV:=match t[i]? with
 | some x=>x.2.2
 | none=>.sc undef
def SZ.at{q:Nat}{l:List Oper}{fr fr':List AV}{s s':AS}{t:List (List AV×AS×AV)}(h:SZ P G X H ops q l fr s t fr' s'):FZ t s' 0=s/\∀i o,l[i]?=some o->∃fi,t[i]?=some (fi,FZ t s' i,KH t i) /\
   ((BZ o.op=false/\J P G X H (.op ops o fi (FZ t s' i) (.ret (KH t i)) (FZ t s' (i+1))))\/(BZ o.op=true/\FZ t s' (i+1)=FZ t s' i/\KH t i=Pm ops fi o (q+nW l i))):=by
 induction h with
 | nil=>exact⟨rfl,λi o ho=>by simp at ho⟩
 | @cons q o l fr fr' s s1 s' v t ha h k ih =>
   refine⟨rfl,λi o' ho=>?_⟩;cases i with
   | zero =>
     simp at ho;subst ho;refine⟨fr,rfl,.inl ⟨ha,?_⟩⟩
     have:FZ ((fr,s,v)::t) s' 1=s1:=by
       have:=ih.1;unfold FZ at this ⊢;simpa using this
     rw[this];exact h
   | succ i =>
     obtain⟨fi,h1,h2⟩:=ih.2 i o' (by simpa using ho)
     refine⟨fi,?_,?_⟩;have:((fr,s,v)::t)[i+1]?=t[i]?:=by simp
     rw[this,h1];simp[FZ,KH];simp only[nW,ha,Nat.zero_add];simpa[FZ,KH] using h2
 | @alloc q o l fr fr' s s' t ha k ih =>
   refine⟨rfl,λi o' ho=>?_⟩;cases i with
   | zero =>
     simp at ho;subst ho;refine⟨fr,rfl,.inr ⟨ha,?_,?_⟩⟩;have:=ih.1;unfold FZ at this ⊢;simpa using this
     simp[KH,nW]
   | succ i =>
     obtain⟨fi,h1,h2⟩:=ih.2 i o' (by simpa using ho)
     refine⟨fi,?_,?_⟩;have:((fr,s,Pm ops fr o q)::t)[i+1]?=t[i]?:=by simp
     rw[this,h1];simp[FZ,KH];simp only[nW,ha];rw[<- Nat.add_assoc];simpa[FZ,KH] using h2
def SZ.dU{q:Nat}{l:List Oper}{fr fr':List AV}{s s':AS}{t:List (List AV×AS×AV)}(h:SZ P G X H ops q l fr s t fr' s')(dst:Nat->Option Tmp)(vals:Nat->AV)(f0:List AV)(k:Nat)(hfr:fr=IP f0 dst vals (λ_=>true) k)(hd:∀i o,l[i]?=some o->dst (k+i)=o.dst)(hv:∀i,vals (k+i)=KH t i\/l.length<=i) :
   fr'=IP f0 dst vals (λ_=>true) (k+l.length)/\∀i x,t[i]?=some x->x.1=IP f0 dst vals (λ_=>true) (k+i):=by
 have key:∀{q:Nat} {o:Oper} {l:List Oper} {fr fr':List AV} {s:AS} {v:AV} {t:List (List AV×AS×AV)}
     (_:∀(k:Nat),IY fr o.dst v=IP f0 dst vals (λ_=>true) k->(∀i o,l[i]?=some o->dst (k+i)=o.dst)->(∀i,vals (k+i)=KH t i\/l.length<=i)->fr'=IP f0 dst vals (λ_=>true) (k+l.length)/\∀i x,t[i]?=some x->x.1=IP f0 dst vals (λ_=>true) (k+i))
     (k:Nat),fr=IP f0 dst vals (λ_=>true) k->(∀i o',(o::l)[i]?=some o'->dst (k+i)=o'.dst)->(∀i,vals (k+i)=KH ((fr,s,v)::t) i\/(o::l).length<=i) ->
     fr'=IP f0 dst vals (λ_=>true) (k+(o::l).length)/\∀i x,((fr,s,v)::t)[i]?=some x->x.1=IP f0 dst vals (λ_=>true) (k+i):=by
   intro q o l fr fr' s v t ih k hfr hd hv;have hd0:=hd 0 o rfl
   have hv0:vals k=v:=by
     rcases hv 0 with h0 | h0
     simpa[KH] using h0
     simp at h0
   have:=ih (k+1) (by simp only[IP,if_true];rw[hfr,<- hd0,hv0];rfl) (λi o' Wu=>by have:=hd (i+1) o' (by simpa using Wu);rwa[show k+1+i=k+(i+1) from by omega]) (λi=>by
     rcases hv (i+1) with h1 | h1
     left;rw[show k+1+i=k+(i+1) from by omega,h1];simp[KH];right;simp at h1;omega)
   refine⟨by rw[this.1];congr 1;simp;omega,λi x hx=>?_⟩;cases i with
   | zero=>simp at hx;subst hx;exact hfr
   | succ i =>
     have h2:=this.2 i x (by simpa using hx)
     rw[h2];congr 1;omega
 induction h generalizing k with
 | nil=>exact⟨hfr,λi x hx=>by simp at hx⟩
 | @cons q o l fr fr' s s1 s' v t ha h _ ih=>exact key (q:=q) (λk h1 h2 h3=>ih k h1 h2 h3) k hfr hd hv
 | @alloc q o l fr fr' s s' t ha _ ih=>exact key (q:=q) (λk h1 h2 h3=>ih k h1 h2 h3) k hfr hd hv
def auB{i k:Nat}{ls:List Nat}(hls:∀l,l∈ls->YR ops l)(h:Win ops i k):akW (Ix ops.toList []) ls i k=true:=by
 unfold akW;rw[List.all_eq_true];intro l hl;have h1:=h.1 l (hls l hl);have h2:=h.2 l (hls l hl);cases hd1:SH (Ix ops.toList []) i l<;>cases hd2:SH (Ix ops.toList []) l i<;>simp_all
def eZ{os:List Oper}{i l:Nat}(h:l∈Ny os i):∃j o,l=i+j/\os[j]?=some o/\calm o.op=false:=by
 induction os generalizing i with
 | nil=>simp[Ny] at h
 | cons x os ih =>
   simp only[Ny] at h;split at h;obtain⟨j,o,h1,h2,h3⟩:=ih h;exact⟨j+1,o,by omega,by simpa using h2,h3⟩
   rename_i hq;rcases List.mem_cons.1 h with h | h
   exact⟨0,x,by omega,rfl,by simpa using hq⟩
   obtain⟨j,o,h1,h2,h3⟩:=ih h;exact⟨j+1,o,by omega,by simpa using h2,h3⟩
def Kg{o:Oper}{fr:List AV}{s s':AS}{v:AV}(hq:quiet o.op=true)(h:J P G X H (.op ops o fr s (.ret v) s')):s'=s/\((Cv ops fr o=false/\v=.sc undef)\/(Cv ops fr o=true/\Qz P G fr s o=some (.val v s))):=by
 cases h with
 | Og hw h =>
   obtain⟨v',e⟩:=V2 hq h;injection e with e1 e2
   subst e2;exact⟨rfl,.inr ⟨hw,h⟩⟩
 | qR hw=>exact⟨rfl,.inl ⟨hw,rfl⟩⟩
 | Sl hw h hc =>
   obtain⟨v',e⟩:=V2 hq h;cases e
 | qS ZH=>rw[hq] at ZH;cases ZH
 | fD ZH=>rw[hq] at ZH;cases ZH
 | ahD _ ho IN=>simp[quiet,ho,IN] at hq
def xL{ms ls:List Nat}{i id:Nat}{cs:List AV}{ss:List AS}{k0:Nat}(h:X4 ms ls i id cs ss k0=true){k:Nat}{s:AS}(hs:ss[k]?=some s)(hw:akW ms ls i (k0+k)=true):s.get id=some (.cells cs):=by
 induction ss generalizing k0 k with
 | nil=>simp at hs
 | cons x ss ih =>
   simp only[X4,Bool.and_eq_true] at h;cases k with
   | zero =>
     simp at hs;subst hs;rw[Nat.add_zero] at hw;have h1:=h.1;rw[hw] at h1;simp only[Bool.not_true,Bool.false_or] at h1;split at h1;rename_i ds hu;rw[hu,OZ h1];cases h1
   | succ k=>exact ih h.2 (by simpa using hs) (by rwa[show k0+1+k=k0+(k+1) from by omega])
def wZ{ms ls:List Nat}{Np:List AS}{os:List Oper}{ts:List (List AV×AS×AV)}{i0 q:Nat}(h:TO P ops ms ls Np os ts i0 q=true){i:Nat}{o:Oper}{e:TypeId}{x:List AV×AS×AV}(ho:os[i]?=some o)(hx:ts[i]?=some x)(he:o.op=.alloc e)(hw:Cv ops x.1 o=true):∃z,Mv P e=some z/\X4 ms ls (i0+i) (q+nW os i) (cellsOf z) Np 0=true:=by
 induction os generalizing ts i0 i q with
 | nil=>simp at ho
 | cons y os ih =>
   cases ts with
   | nil=>simp at hx
   | cons t ts =>
     cases i with
     | zero =>
       simp at ho hx;subst ho hx;simp only[TO,he,hw,Bool.not_true,Bool.false_or,Bool.and_eq_true] at h;have h1:=h.1;split at h1;rename_i z hz;exact⟨z,hz,h1⟩;cases h1
     | succ i =>
       simp only[TO] at h;split at h;rename_i e' he';rw[Bool.and_eq_true] at h;have:=ih h.2 (by simpa using ho) (by simpa using hx)
       simp only[nW,he',BZ];rwa[show i0+1+i=i0+(i+1) from by omega,Nat.add_assoc q] at this;rename_i hne;have:=ih h (by simpa using ho) (by simpa using hx)
       have nR:BZ y.op=false:=by
         cases eQ:BZ y.op with
         | false=>rfl
         | true=>obtain⟨e',he'⟩:=KV eQ;exact absurd he' (hne e')
       simp only[nW,nR,Nat.zero_add];rwa[show i0+1+i=i0+(i+1) from by omega] at this
def arI{l:List Oper}{r:List AM}(h:rsv P l=some r):r.length=nW l l.length:=by
 induction l generalizing r with
 | nil=>simp[rsv] at h;subst h;rfl
 | cons o l ih =>
   simp only[rsv] at h;split at h;rename_i e he;split at h;rename_i z r' hz hr;cases h;simp only[List.length_cons,nW,he,BZ,ih hr];omega;cases h;rename_i hne
   have nR:BZ o.op=false:=by
     cases eQ:BZ o.op with
     | false=>rfl
     | true=>obtain⟨e',he'⟩:=KV eQ;exact absurd he' (hne e')
   simp only[List.length_cons,nW,nR,ih h];omega
def Rh{o:Oper}{e:TypeId}(h:o.op=.alloc e):quiet o.op=false:=by rw[h];rfl
end
end AI
namespace AI
open Go Go.RowKit
def inI:Int->Bool
 | .ofNat m=>Nat.ble m 9223372036854775807
 | .negSucc m=>Nat.ble m 9223372036854775807
def Nq(k:IntKind)(n:Int):Int:=match k with
 | .i64=>(match inI n with | true=>n | false=>IntKind.i64.wrap n)
 | k=>k.wrap n
def azY{n:Int}(h:inI n=true):IntKind.i64.wrap n=n:=by
 refine IntWalk.i64_in n ?_;cases n with
 | ofNat m =>
   have:=Nat.le_of_ble_eq_true h;have e:Int.ofNat m=(m:Int):=rfl;rw[e];have h2:(m:Int)<=9223372036854775807:=Int.ofNat_le.2 this;have h3:(0:Int)<=m:=Int.natCast_nonneg m;omega
 | negSucc m =>
   have:=Nat.le_of_ble_eq_true h;rw[Int.negSucc_eq];constructor;have e:(-9223372036854775808:Int)=-(9223372036854775807+1):=rfl;rw[e];have h2:(m:Int)<=9223372036854775807:=Int.ofNat_le.2 this;omega;have h2:(0:Int)<=m:=Int.natCast_nonneg m;omega
def Vw(k:IntKind)(n:Int):Nq k n=k.wrap n:=by
 cases k<;>try rfl
 simp only[Nq];cases h:inI n with
 | true=>exact(azY h).symm
 | false=>rfl
def abT:Int->Int->Int
 | .ofNat a,.ofNat b=>.ofNat (Nat.add a b)
 | a,b=>a+b
def cW(a b:Int):abT a b=a+b:=by cases a<;>cases b<;>rfl
def aHK(a b:Nat):Int:=match Nat.ble b a with
 | true=>.ofNat (Nat.sub a b)
 | false=>(a:Int) - (b:Int)
def fY:Int->Int->Int
 | .ofNat a,.ofNat b=>aHK a b
 | a,b=>a - b
def fZ(a b:Int):fY a b=a - b:=by
 cases a<;>cases b<;>try rfl
 rename_i a b;simp only[fY,aHK];cases h:Nat.ble b a with
 | true =>
   have:=Nat.le_of_ble_eq_true h;show Int.ofNat (a - b)=(a:Int) - (b:Int);exact Int.ofNat_sub this
 | false=>rfl
def Dh:Int->Int->Bool
 | .ofNat a,.ofNat b=>Nat.beq a b
 | .negSucc a,.negSucc b=>Nat.beq a b
 | _,_=>false
def QL(a b:Int):Dh a b=(a == b):=by
 cases a<;>cases b<;>simp only[Dh]
 rename_i a b;rw[Bool.eq_iff_iff,beq_iff_eq,Int.ofNat.injEq];exact⟨λh=>Nat.eq_of_beq_eq_true h,λh=>by subst h;exact Nat.beq_refl a⟩;rw[Bool.eq_iff_iff,beq_iff_eq];exact⟨λh=>by simp at h,λh=>by cases h⟩;rw[Bool.eq_iff_iff,beq_iff_eq];exact⟨λh=>by simp at h,λh=>by cases h⟩;rename_i a b;rw[Bool.eq_iff_iff,beq_iff_eq,Int.negSucc.injEq];exact⟨λh=>Nat.eq_of_beq_eq_true h,λh=>by subst h;exact Nat.beq_refl a⟩
def NS:Int->Int->Bool
 | .ofNat a,.ofNat b=>Nat.ble a b
 | a,b=>decide (a<=b)
def YM(a b:Int):NS a b=decide (a<=b):=by
 cases a<;>cases b<;>try rfl
 rename_i a b;simp only[NS];rw[Bool.eq_iff_iff,decide_eq_true_iff];show _↔(a:Int)<=(b:Int);rw[Int.ofNat_le];exact⟨Nat.le_of_ble_eq_true,Nat.ble_eq_true_of_le⟩
def Ev:Int->Int->Bool
 | .ofNat a,.ofNat b=>Nat.ble (Nat.succ a) b
 | a,b=>decide (a < b)
def Si(a b:Int):Ev a b=decide (a < b):=by
 cases a<;>cases b<;>try rfl
 rename_i a b;simp only[Ev];rw[Bool.eq_iff_iff,decide_eq_true_iff];show _↔(a:Int) < (b:Int);rw[Int.ofNat_lt];exact⟨Nat.le_of_ble_eq_true,Nat.ble_eq_true_of_le⟩
def sameKind:IntKind->IntKind->Bool
 | .i64,.i64=>true
 | .u8,.u8=>true
 | _,_=>false
def WN{a b:IntKind}(h:sameKind a b=true):a=b:=by cases a<;>cases b<;>first | rfl | cases h
def aoQ(k:IntKind)(a b:Int):BinOp->Option Value
 | .add=>some (.int k (Nq k (abT a b)))
 | .sub=>some (.int k (Nq k (fY a b)))
 | .mul=>some (.int k (Nq k (a*b)))
 | .eql=>some (.bool (Dh a b))
 | .neq=>some (.bool (!Dh a b))
 | .lss=>some (.bool (Ev a b))
 | .leq=>some (.bool (NS a b))
 | .gtr=>some (.bool (Ev b a))
 | .geq=>some (.bool (NS b a))
 | _=>none
def aoR{P:Program}{op:BinOp}{k:IntKind}{a b:Int}{t:TypeId}{xo yo:Operand}{v:Value}(h:aoQ k a b op=some v):pv P (do eqGuard op t xo yo (.int k a) (.int k b);binOp op t (.int k a) (.int k b))=some v/\scalar v=true:=by
 cases op<;>simp only[aoQ,Option.some.injEq,reduceCtorEq] at h<;>subst h<;>refine⟨?_,rfl⟩<;>simp[eqGuard,binOp,Op.intArith,Op.intCmp,pv,Vw,cW,fZ,QL,Si,YM,bne,Bind.bind,Sem.bind,Pure.pure]
def B1:List UInt8->List UInt8->Bool
 | [],[]=>true
 | a::l,b::m=>(match Nat.beq a.toNat b.toNat with
   | true=>B1 l m
   | false=>false)
 | _,_=>false
def TV(l m:List UInt8):B1 l m=(l == m):=by
 induction l generalizing m with
 | nil=>cases m<;>rfl
 | cons a l ih =>
   cases m with
   | nil=>rfl
   | cons b m =>
     simp only[B1];cases h:Nat.beq a.toNat b.toNat with
     | true =>
       have:a=b:=UInt8.toNat_inj.1 (Nat.eq_of_beq_eq_true h);subst this;simp only[ih];simp
     | false =>
       have:a≠b:=λe=>by subst e;have:=Nat.ne_of_beq_eq_false h;exact this rfl
       simp[this]
def aCM(x y:ByteArray):BinOp->Option Value
 | .eql=>some (.bool (B1 x.data.toList y.data.toList))
 | .neq=>some (.bool (!B1 x.data.toList y.data.toList))
 | op=>xE op x y
def arX(x y:ByteArray)(op:BinOp):aCM x y op=xE op x y:=by cases op<;>simp only[aCM,xE,TV]
def aiK(v:Option Value):Option AV:=match v with
 | some v=>(match scalar v with | true=>some (.sc v) | false=>none)
 | none=>none
def aiL(v:Option Value):aiK v=v.bind Z5:=by
 cases v with
 | none=>rfl
 | some v=>simp only[aiK,Option.bind_some,Z5];cases scalar v<;>rfl
def scF(P:Program)(op:BinOp)(t:TypeId)(xo yo:Operand)(x y:Value):Option AV :=
 match x with
 | .int k a=>(match y with
   | .int k' b=>(match sameKind k k' with
     | true=>(match aoQ k a b op with
       | some v=>some (.sc v)
       | none=>MZ P op t xo yo (.sc (.int k a)) (.sc (.int k' b)))
     | false=>MZ P op t xo yo (.sc (.int k a)) (.sc (.int k' b)))
   | y=>MZ P op t xo yo (.sc (.int k a)) (.sc y))
 | .string a=>(match y with
   | .string b=>aiK (aCM a b op)
   | y=>MZ P op t xo yo (.sc (.string a)) (.sc y))
 | x=>MZ P op t xo yo (.sc x) (.sc y)
def XQ(P:Program)(op:BinOp)(t:TypeId)(xo yo:Operand)(a b:AV):Option AV :=
 match a with
 | .sc x=>(match b with
   | .sc y=>scF P op t xo yo x y
   | b=>MZ P op t xo yo (.sc x) b)
 | a=>MZ P op t xo yo a b
def UM(P:Program)(op:BinOp)(t:TypeId)(xo yo:Operand)(a b:AV):XQ P op t xo yo a b=MZ P op t xo yo a b:=by
 unfold XQ;cases a with
 | sc x =>
   cases b with
   | sc y =>
     simp only[scF];cases x with
     | int k a =>
       cases y with
       | int k' b =>
         simp only;cases hk:sameKind k k' with
         | false=>rfl
         | true =>
           have:=WN hk;subst this;simp only;cases hf:aoQ k a b op with
           | none=>rfl
           | some v =>
             obtain⟨h1,h2⟩:=aoR (P:=P) (t:=t) (xo:=xo) (yo:=yo) hf;simp[MZ,Ti,Vm,h1,Z5,h2]
       | _=>rfl
     | string a =>
       cases y with
       | string b=>simp only[aiL,arX];rfl
       | _=>rfl
     | _=>rfl
   | _=>rfl
 | _=>rfl
def agX:List UInt8->Nat->Option UInt8
 | [],_=>none
 | a::_,0=>some a
 | _::l,n+1=>agX l n
def apN(l:List UInt8)(n:Nat):agX l n=l[n]?:=by
 induction l generalizing n with
 | nil=>simp[agX]
 | cons a l ih=>cases n<;>simp[agX,ih]
def aDR:Option UInt8->Option AV
 | some b=>some (.sc (.int .u8 (.ofNat b.toNat)))
 | none=>none
def Xb(P:Program)(t:TypeId)(x ix:AV):Option AV :=
 match x with
 | .sc (.string s)=>(match P.underlying t with
   | some .string=>(match RA ix with
     | some i=>aDR (agX s.data.toList i)
     | none=>none)
   | _=>Lm P t (.sc (.string s)) ix)
 | x=>Lm P t x ix
def oA(P:Program)(t:TypeId)(x ix:AV):Xb P t x ix=Lm P t x ix:=by
 unfold Xb;cases x with
 | sc v =>
   cases v with
   | string s =>
     simp only;split
     · rename_i hu
       unfold Lm;rw[hu];cases RA ix with
       | none=>rfl
       | some i =>
         simp only[apN];cases s.data.toList[i]?<;>rfl
     rfl
   | _=>rfl
 | _=>rfl
end AI
namespace AI
open Go Go.RowKit
def nth:List AV->Nat->AV
 | [],_=>.sc undef
 | a::_,0=>a
 | _::l,n+1=>nth l n
def aAW(l:List AV)(n:Nat):nth l n=l.getD n (.sc undef):=by
 induction l generalizing n with
 | nil=>simp[nth]
 | cons a l ih=>cases n<;>simp[nth,ih]
def evG:Option (List AV)->Option AV
 | some cs=>some (.el cs)
 | none=>none
def A0(G:Bc)(fr:List AV):Operand->Option AV
 | .tmp t=>some (nth fr t)
 | .const v=>WH v
 | .global g=>evG (G g)
 | .func f=>some (.fn (.func f) [] [])
def Cs(G:Bc)(fr:List AV)(x:Operand):A0 G fr x=Bd G fr x:=by
 cases x with
 | tmp t=>simp only[A0,Bd,aAW]
 | const v=>rfl
 | global g=>simp only[A0,Bd];cases G g<;>rfl
 | func f=>rfl
def MV(s:AS):Option AV->Option AR
 | some v=>some (.val v s)
 | none=>none
def SY(s:AS)(o:Option AV):MV s o=o.map (λv=>.val v s):=by cases o<;>rfl
def mT:Option AS->Option AR
 | some s=>some (.val (.sc undef) s)
 | none=>none
def atH(o:Option AS):mT o=o.map (λs=>.val (.sc undef) s):=by cases o<;>rfl
def abE:Option (AV×AS)->Option AR
 | some r=>some (.val r.1 r.2)
 | none=>none
def wN(o:Option (AV×AS)):abE o=o.map (λr=>.val r.1 r.2):=by cases o<;>rfl
def gU{α β:Type}(o:Option α)(f:α->Option β):Option β:=match o with
 | some a=>f a
 | none=>none
def dG{α β:Type}(o:Option α)(f:α->Option β):gU o f=o.bind f:=by cases o<;>rfl
def two{β:Type}(a b:Option AV)(f:AV->AV->Option β):Option β:=match a with
 | some x=>(match b with
   | some y=>f x y
   | none=>none)
 | none=>none
def three{β:Type}(a b d:Option AV)(f:AV->AV->AV->Option β):Option β:=match a with
 | some x=>(match b with
   | some y=>(match d with
     | some z=>f x y z
     | none=>none)
   | none=>none)
 | none=>none
def avS(x y:Option AV):Option AV->Option AV
 | some (.sc (.bool t))=>(match t with | true=>x | false=>y)
 | _=>none
def agU(s:AS):Option AV->Option AR
 | some z=>some (.val (.ptr s.nx 0) (s.new (.cells (cellsOf z))))
 | none=>none
def uQ(s:AS):Option AV->Option AR
 | some z=>(match Se z with | true=>none | false=>some (.val (.ptr s.nx 0) (s.new (.cells (cellsOf z)))))
 | none=>none
def oL(s:AS):Option AV->Option AR
 | some v=>(match notNil v with | true=>some (.val v s) | false=>none)
 | none=>none
def pT(t:TypeId)(s:AS)(v:Option AV):Option TypeDesc->Option AR
 | some d=>(match v with
   | some v=>(match isIface d with | true=>none | false=>some (.val (.ifc t v) s))
   | none=>none)
 | none=>none
def func1(f:Fn)(s:AS)(b:Option (List AV)):Option (List AV)->Option AR
 | some a=>(match b with
   | some b=>some (.val (.fn f a b) s)
   | none=>none)
 | none=>none
def aiZ(P:Program)(s:AS)(t:TypeId)(l h m:Option (Option AV)):Option AV->Option AR
 | some a=>(match l with
   | some l=>(match h with
     | some h=>(match m with
       | some m=>MV s (LZ P t a l h m)
       | none=>none)
     | none=>none)
   | none=>none)
 | none=>none
def aGQ:Option AV->Option AR
 | some (.ifc t v)=>some (.pan (.ifc t v))
 | _=>none
def aDZ(P:Program)(as:Option (List AV)):Option AV->Option AR
 | some (.fn (.func g) first caps)=>(match as with
   | some as=>(match Mw P g with | true=>some (.ent g (first++as++caps)) | false=>none)
   | none=>none)
 | _=>none
def afY(P:Program)(G:Bc)(fr:List AV)(s:AS):List Operand->List TypeId->Option AR
 | [x],[t]=>MV s (gU (A0 G fr x) (WS P s t))
 | _,_=>none
def aDJ(P:Program)(G:Bc)(fr:List AV)(s:AS):List Operand->List TypeId->Option AR
 | [x,y],[t,tx]=>abE (two (A0 G fr x) (A0 G fr y) (KL P s t tx))
 | _,_=>none
def avV(P:Program)(s:AS)(f:List Value->Sem Value):Option (List Value)->Option AR
 | some vs=>MV s (Wk P (f vs))
 | none=>none
def avW(P:Program)(s:AS)(f:Value->Sem Value):Option Value->Option AR
 | some v=>MV s (Wk P (f v))
 | none=>none
def R6(P:Program)(G:Bc)(fr:List AV)(s:AS)(o:Oper)(cl:Call):Builtin->Option AR
 | .len=>afY P G fr s cl.args.toList cl.argTypes.toList
 | .append=>aDJ P G fr s cl.args.toList cl.argTypes.toList
 | .max=>avV P s (λvs=>Builtin.max_ cl.argTypes o.type vs.toArray) (gU (ZO G fr cl.args.toList) Pf)
 | .min=>avV P s (λvs=>Builtin.min_ cl.argTypes o.type vs.toArray) (gU (ZO G fr cl.args.toList) Pf)
 | _=>none
def cV(P:Program)(G:Bc)(fr:List AV)(s:AS)(o:Oper)(cl:Call):Option AR :=
 match cl.callee with
 | .builtin b=>R6 P G fr s o cl b
 | .value f=>aDZ P (ZO G fr cl.args.toList) (A0 G fr f)
 | _=>none
def kJ(s:AS):Option Operand->Option AR
 | none=>some (.val (.mp s.nx) (s.new (.map [] 0)))
 | some _=>none
def UN(P:Program)(G:Bc)(fr:List AV)(s:AS)(o:Oper):Option AR :=
 match o.op with
 | .move x=>MV s (A0 G fr x)
 | .assign x=>MV s (A0 G fr x)
 | .pick c a b=>MV s (avS (A0 G fr a) (A0 G fr b) (A0 G fr c))
 | .alloc e=>agU s (Mv P e)
 | .box _ x=>uQ s (A0 G fr x)
 | .build t ps=>MV s (gU (Mh G fr ps.toList) (XR P t))
 | .buildSlice t n ps=>MV s (gU (Mh G fr ps.toList) (Mt P t n))
 | .load t a=>MV s (gU (A0 G fr a) (JP P s t))
 | .store t a x=>mT (two (A0 G fr a) (A0 G fr x) (KT P s t))
 | .nilCheck x=>oL s (A0 G fr x)
 | .binOp op t x y _=>MV s (two (A0 G fr x) (A0 G fr y) (XQ P op t x y))
 | .unOp op _ x=>avW P s (Op.unary op) (gU (A0 G fr x) Zm)
 | .convert src dst x=>MV s (gU (A0 G fr x) (RX P src dst))
 | .makeInterface t x=>pT t s (A0 G fr x) (P.underlying t)
 | .makeFunc f first caps=>func1 f s (ZO G fr caps.toList) (ZO G fr first.toList)
 | .makeMap _ r=>kJ s r
 | .makeSlice t l c=>abE (two (A0 G fr l) (A0 G fr c) (JQ P s t))
 | .slice t x lo hi mx=>aiZ P s t (gV G fr lo) (gV G fr hi) (gV G fr mx) (A0 G fr x)
 | .fieldAddr t x k=>MV s (gU (A0 G fr x) λa=>RZ P t a k)
 | .field t x k=>MV s (gU (A0 G fr x) λa=>XV P t a k)
 | .indexAddr t x i=>MV s (two (A0 G fr x) (A0 G fr i) (CH P t))
 | .index t x i=>MV s (two (A0 G fr x) (A0 G fr i) (Xb P t))
 | .lookup t x k ok=>MV s (two (A0 G fr x) (A0 G fr k) λa b=>Jr P s t a b ok)
 | .mapUpdate t m k x=>mT (three (A0 G fr m) (A0 G fr k) (A0 G fr x) (KM P s t))
 | .insert t m k x=>mT (three (A0 G fr m) (A0 G fr k) (A0 G fr x) (KM P s t))
 | .mapEntry t m k=>abE (two (A0 G fr m) (A0 G fr k) (PV P s t))
 | .entryStore _ m st x=>mT (three (A0 G fr m) (A0 G fr st) (A0 G fr x) (Mu s))
 | .extract x k=>MV s (gU (A0 G fr x) λa=>RY a k)
 | .call cl=>cV P G fr s o cl
 | .panic x=>aGQ (A0 G fr x)
 | _=>none
def wW(P:Program)(G:Bc)(fr:List AV)(s:AS)(o:Oper)(cl:Call):cV P G fr s o cl=Tj P G fr s o cl:=by
 unfold cV Tj;cases hc:cl.callee with
 | value f =>
   simp only[Cs];cases Bd G fr f with
   | none=>rfl
   | some v =>
     cases v with
     | fn g a b =>
       cases g with
       | func g =>
         cases ZO G fr cl.args.toList with
         | none=>rfl
         | some as =>
           simp only[aDZ];cases Mw P g<;>rfl
       | _=>rfl
     | _=>rfl
 | invoke r m=>rfl
 | builtin b =>
   cases b<;>try rfl
   · simp only[R6]
     cases hx:cl.args.toList with
     | nil=>rfl
     | cons x xs =>
       cases xs with
       | nil=>rfl
       | cons y ys =>
         cases ys with
         | cons z zs=>rfl
         | nil =>
           cases ht:cl.argTypes.toList with
           | nil=>rfl
           | cons t ts =>
             cases ts with
             | nil=>rfl
             | cons u us =>
               cases us with
               | cons v vs=>rfl
               | nil =>
                 simp only[aDJ,Cs];cases Bd G fr x<;>cases Bd G fr y<;>first | rfl | exact wN _
   · simp only[R6]
     cases hx:cl.args.toList with
     | nil=>rfl
     | cons x xs =>
       cases xs with
       | cons y ys=>rfl
       | nil =>
         cases ht:cl.argTypes.toList with
         | nil=>rfl
         | cons t ts =>
           cases ts with
           | cons u us=>rfl
           | nil=>simp only[afY,Cs,dG];exact SY _ _
   simp only[R6,dG];cases (ZO G fr cl.args.toList).bind Pf with
   | none=>rfl
   | some vs=>exact SY _ _
   simp only[R6,dG];cases (ZO G fr cl.args.toList).bind Pf with
   | none=>rfl
   | some vs=>exact SY _ _
def Nv(P:Program)(G:Bc)(fr:List AV)(s:AS)(o:Oper):UN P G fr s o=Qz P G fr s o:=by
 unfold UN Qz;cases ho:o.op<;>simp only[Cs,SY,atH,wN,dG,wW]
 case pick c a b =>
   cases Bd G fr c with
   | none=>rfl
   | some v =>
     cases v with
     | sc u=>cases u<;>first | rfl | (rename_i t;cases t<;>rfl)
     | _=>rfl
 case alloc e=>cases Mv P e<;>rfl
 case box e x =>
   cases Bd G fr x with
   | none=>rfl
   | some v=>cases v<;>rfl
 case store t a x=>cases Bd G fr a<;>cases Bd G fr x<;>rfl
 case nilCheck x =>
   cases Bd G fr x with
   | none=>rfl
   | some v=>simp only[oL];cases notNil v<;>rfl
 case binOp op t x y z=>cases Bd G fr x<;>cases Bd G fr y<;>first | rfl | (simp only[two,UM])
 case unOp op t x=>cases (Bd G fr x).bind Zm with
   | none=>rfl
   | some v=>exact SY _ _
 case makeInterface t x =>
   cases Bd G fr x with
   | none=>cases P.underlying t<;>rfl
   | some v =>
     cases P.underlying t with
     | none=>rfl
     | some d=>simp only[pT];cases isIface d<;>rfl
 case makeFunc f a b=>cases ZO G fr a.toList<;>cases ZO G fr b.toList<;>rfl
 case makeMap t r=>cases r<;>rfl
 case makeSlice t l c=>cases Bd G fr l<;>cases Bd G fr c<;>rfl
 case slice t x lo hi mx =>
   cases Bd G fr x<;>cases gV G fr lo<;>cases gV G fr hi<;>cases gV G fr mx<;>first | rfl | exact SY _ _
 case indexAddr t x i=>cases Bd G fr x<;>cases Bd G fr i<;>rfl
 case index t x i=>cases Bd G fr x<;>cases Bd G fr i<;>first | rfl | (simp only[two,oA])
 case lookup t x k ok=>cases Bd G fr x<;>cases Bd G fr k<;>rfl
 case mapUpdate t m k x=>cases Bd G fr m<;>cases Bd G fr k<;>cases Bd G fr x<;>rfl
 case insert t m k x=>cases Bd G fr m<;>cases Bd G fr k<;>cases Bd G fr x<;>rfl
 case mapEntry t m k=>cases Bd G fr m<;>cases Bd G fr k<;>rfl
 case entryStore t m k x=>cases Bd G fr m<;>cases Bd G fr k<;>cases Bd G fr x<;>rfl
 case panic x =>
   cases Bd G fr x with
   | none=>rfl
   | some v=>cases v<;>rfl
end AI
namespace AI
open Go Go.RowKit
abbrev Rec:=Tk->Option Rs
def aHH(r:Rec)(y:Code):Option Rs->Option Rs
 | some (.code e fr s)=>(match e with
   | .normal=>r (.code y fr s)
   | e=>some (.code e fr s))
 | _=>none
def auR(r:Rec)(x y:Code)(fr:List AV)(s:AS):Option AV->Option Rs
 | some (.sc (.bool t))=>(match t with
   | true=>r (.code x fr s)
   | false=>r (.code y fr s))
 | _=>none
def abZ(id:Nat):Option Rs->Option Rs
 | some (.code e fr s)=>some (.code (E4 id e) fr s)
 | _=>none
def acV:Option Rs->Option Rs
 | some (.code e fr s)=>some (.code e fr s)
 | _=>none
def aDY(P:Program)(G:Bc)(ops:Array Oper)(q:Nat)(rs:List AM):Option Rs->Option Rs
 | some (.tr t fr s)=>(match aCK P G ops t s q rs with
   | true=>some (.code .normal fr s)
   | false=>none)
 | _=>none
def aFJ(P:Program)(G:Bc)(r:Rec)(ops:Array Oper)(fr:List AV)(s:AS):Option (List AM)->Option Rs
 | some rs=>aDY P G ops s.nx rs (r (.draw ops ops.toList fr (s.hold rs) s.nx))
 | none=>none
def aDX(P:Program)(G:Bc)(r:Rec)(ops:Array Oper)(fr:List AV)(s:AS):Bool->Option Rs
 | true=>aFJ P G r ops fr s (rsv P ops.toList)
 | false=>none
def vI(P:Program)(G:Bc)(r:Rec)(ops:Array Oper)(fr:List AV)(s:AS):Bool->Option Rs
 | false=>acV (r (.ops ops ops.toList fr s))
 | true=>aDX P G r ops fr s (MB ops)
def ajE(P:Program)(G:Bc)(r:Rec)(fr:List AV)(s:AS):Code->Option Rs
 | .skip=>some (.code .normal fr s)
 | .exit id=>some (.code (.exit id) fr s)
 | .ret=>some (.code .ret fr s)
 | .seq x y=>aHH r y (r (.code x fr s))
 | .cond q x y=>auR r x y fr s (A0 G fr q)
 | .block id c=>abZ id (r (.code c fr s))
 | .loop c=>acV (r (.loop c fr s))
 | .region _ ops d=>vI P G r ops fr s d
 | _=>none
def avO(r:Rec)(c:Code):Option Rs->Option Rs
 | some (.code e fr s)=>(match e with
   | .normal=>r (.loop c fr s)
   | e=>some (.code e fr s))
 | _=>none
def aPF(r:Rec)(ops:Array Oper)(dst:Option Tmp)(l:List Oper)(fr:List AV):Option Rs->Option Rs
 | some (.call c s)=>(match c with
   | .ret v=>r (.ops ops l (IY fr dst v) s)
   | .pan v=>some (.code (.pan v) fr s))
 | _=>none
def arW(r:Rec)(ops:Array Oper)(fr:List AV)(s:AS):List Oper->Option Rs
 | []=>some (.code .normal fr s)
 | o::l=>aPF r ops o.dst l fr (r (.op ops o fr s))
def trK(fr:List AV)(s:AS)(v:AV):Option Rs->Option Rs
 | some (.tr t VJ s2)=>some (.tr ((fr,s,v)::t) VJ s2)
 | _=>none
def aCT(r:Rec)(ops:Array Oper)(dst:Option Tmp)(l:List Oper)(fr:List AV)(s:AS)(q:Nat):Option Rs->Option Rs
 | some (.call (.ret v) s1)=>trK fr s v (r (.draw ops l (IY fr dst v) s1 q))
 | _=>none
def axD(r:Rec)(ops:Array Oper)(o:Oper)(l:List Oper)(fr:List AV)(s:AS)(q:Nat)(v:AV):Option Rs:=trK fr s v (r (.draw ops l (IY fr o.dst v) s (q+1)))
def aCS(r:Rec)(ops:Array Oper)(o:Oper)(l:List Oper)(fr:List AV)(s:AS)(q:Nat):Bool->Option Rs
 | true=>axD r ops o l fr s q (Pm ops fr o q)
 | false=>aCT r ops o.dst l fr s q (r (.op ops o fr s))
def mG(r:Rec)(ops:Array Oper)(fr:List AV)(s:AS)(q:Nat):List Oper->Option Rs
 | []=>some (.tr [] fr s)
 | o::l=>aCS r ops o l fr s q (BZ o.op)
def aDS:Option Rs->Option Rs
 | some (.call c s)=>some (.call c s)
 | _=>none
def opK(r:Rec)(s:AS):Option AR->Option Rs
 | some (.val v s1)=>some (.call (.ret v) s1)
 | some (.pan v)=>some (.call (.pan v) s)
 | some (.ent f args)=>aDS (r (.call f args s))
 | none=>none
def aeC(ops:Array Oper)(fr:List AV):Option (Nat×Bool)->Bool
 | none=>true
 | some p=>(match (ops[p.1]?).bind (·.dst) with
   | some d=>(match nth fr d with
     | .sc (.bool b)=>b == p.2
     | _=>false)
   | none=>false)
def aCL(P:Program)(G:Bc)(r:Rec)(fr:List AV)(s:AS)(o:Oper):Bool->Option Rs
 | true=>opK r s (UN P G fr s o)
 | false=>some (.call (.ret (.sc undef)) s)
def aFL(k:CR->Option CR):Option Rs->Option Rs
 | some (.call c s)=>(match k c with
   | some c1=>some (.call c1 s)
   | none=>none)
 | _=>none
def aGW(s:AS)(n:Nat):Option AV->Option Rs
 | some v=>some (.call (.ret v) (fin v s n))
 | none=>none
def aDQ(P:Program)(fn:Func)(n:Nat):Option Rs->Option Rs
 | some (.code e fr s)=>(match e with
   | .normal=>aGW s n (GM P s fn fr)
   | .ret=>aGW s n (GM P s fn fr)
   | .pan v=>some (.call (.pan v) (s.cut n))
   | .exit _=>none)
 | _=>none
def aDP(P:Program)(r:Rec)(fn:Func)(args:List AV)(s:AS):Option Code->Option Rs
 | some c=>aDQ P fn s.nx (r (.code c (args++List.replicate (fn.ntmps - args.length) (.sc undef)) s))
 | none=>none
def tG(P:Program)(r:Rec)(args:List AV)(s:AS):Option Func->Option Rs
 | some fn=>aDP P r fn args s fn.body
 | none=>none
def aFK(P:Program)(r:Rec)(f:FuncId)(args:List AV)(s:AS):Option (FuncId×List AV×(CR->Option CR))->Option Rs
 | some (g,Ym,k)=>aFL k (r (.call g Ym s))
 | none=>tG P r args s P.funcs[f]?
def aEB(P:Program)(H:TK)(r:Rec)(f:FuncId)(args:List AV)(s:AS):Option (CR×AS)->Option Rs
 | some (c,s1)=>some (.call c s1)
 | none=>aFK P r f args s (H f args)
def step(P:Program)(G:Bc)(X:auG)(H:TK)(r:Rec):Tk->Option Rs
 | .code c fr s=>ajE P G r fr s c
 | .loop c fr s=>avO r c (r (.code c fr s))
 | .ops ops l fr s=>arW r ops fr s l
 | .draw ops l fr s q=>mG r ops fr s q l
 | .op ops o fr s=>aCL P G r fr s o (aeC ops fr o.guard)
 | .call f args s=>aEB P H r f args s (X f args s)
end AI
namespace AI
open Go Go.RowKit
def aPC(l:List AV):Nat->AV:=List.rec (motive:=λ_=>Nat->AV) (λ_=>.sc undef) (λa _ ih n=>Nat.rec (motive:=λ_=>AV) a (λk _=>ih k) n) l
def aPL(v:AV)(l:List AV):Nat->List AV:=List.rec (motive:=λ_=>Nat->List AV) (λ_=>[]) (λa t ih n=>Nat.rec (motive:=λ_=>List AV) (v::t) (λk _=>a::ih k) n) l
def aDK(fr:List AV)(dst:Option Tmp)(v:AV):List AV:=Option.rec (motive:=λ_=>List AV) fr (λd=>aPL v fr d) dst
abbrev Sm:=Program->Bc->List AV->AS->Oper->Option AR
def axZ(t:Tmp)(_:Bc)(fr:List AV):Option AV:=some (aPC fr t)
def anL(v:Value)(_:Bc)(_:List AV):Option AV:=WH v
def axY(g:Nat)(G:Bc)(_:List AV):Option AV:=evG (G g)
def aLZ(f:FuncId)(_:Bc)(_:List AV):Option AV:=some (.fn (.func f) [] [])
def evR(x:Operand):Bc->List AV->Option AV:=Operand.rec (motive:=λ_=>Bc->List AV->Option AV) axZ anL axY aLZ x
def fF{α β:Type}(o:Option α)(f:α->Option β):Option β:=Option.rec (motive:=λ_=>Option β) none f o
def aGG(s:AS)(v:AV):Option AR:=some (.val v s)
def abF(s:AS)(o:Option AV):Option AR:=fF o (aGG s)
def vT(x:Operand):Sm:=λ_ G fr s _=>abF s (evR x G fr)
def arO(c a b:Operand):Sm:=λ_ G fr s _=>MV s (avS (A0 G fr a) (A0 G fr b) (A0 G fr c))
def aiM(e:TypeId):Sm:=λP _ _ s _=>agU s (Mv P e)
def aCB(_:TypeId)(x:Operand):Sm:=λ_ G fr s _=>uQ s (A0 G fr x)
def aiN(t:TypeId)(ps:Array (Nat×Operand)):Sm:=λP G fr s _=>MV s (gU (Mh G fr ps.toList) (XR P t))
def Z6(t:TypeId)(n:Nat)(ps:Array (Nat×Operand)):Sm:=λP G fr s _=>MV s (gU (Mh G fr ps.toList) (Mt P t n))
def arM(t:TypeId)(a:Operand):Sm:=λP G fr s _=>abF s (fF (evR a G fr) (JP P s t))
def aiV(t:TypeId)(a x:Operand):Sm:=λP G fr s _=>mT (two (A0 G fr a) (A0 G fr x) (KT P s t))
def aCD(x:Operand):Sm:=λ_ G fr s _=>oL s (A0 G fr x)
def aCA(op:BinOp)(t:TypeId)(x y:Operand)(_:TypeId):Sm:=λP G fr s _=>abF s (fF (evR x G fr) (λa=>fF (evR y G fr) (λb=>XQ P op t x y a b)))
def aHF(op:UnOp)(_:TypeId)(x:Operand):Sm:=λP G fr s _=>avW P s (Op.unary op) (gU (A0 G fr x) Zm)
def arK(src dst:TypeId)(x:Operand):Sm:=λP G fr s _=>MV s (gU (A0 G fr x) (RX P src dst))
def aiQ(t:TypeId)(x:Operand):Sm:=λP G fr s _=>pT t s (A0 G fr x) (P.underlying t)
def arL(f:Fn)(first caps:Array Operand):Sm:=λ_ G fr s _=>func1 f s (ZO G fr caps.toList) (ZO G fr first.toList)
def aCC(_:TypeId)(r:Option Operand):Sm:=λ_ _ _ s _=>kJ s r
def arN(t:TypeId)(l c:Operand):Sm:=λP G fr s _=>abE (two (A0 G fr l) (A0 G fr c) (JQ P s t))
def aiU(t:TypeId)(x:Operand)(lo hi mx:Option Operand):Sm:=λP G fr s _=>aiZ P s t (gV G fr lo) (gV G fr hi) (gV G fr mx) (A0 G fr x)
def aaF(t:TypeId)(x:Operand)(k:Nat):Sm:=λP G fr s _=>abF s (fF (evR x G fr) λa=>RZ P t a k)
def aiP(t:TypeId)(x:Operand)(k:Nat):Sm:=λP G fr s _=>MV s (gU (A0 G fr x) λa=>XV P t a k)
def aaG(t:TypeId)(x i:Operand):Sm:=λP G fr s _=>abF s (fF (evR x G fr) (λa=>fF (evR i G fr) (λb=>CH P t a b)))
def aiR(t:TypeId)(x i:Operand):Sm:=λP G fr s _=>abF s (fF (evR x G fr) (λa=>fF (evR i G fr) (λb=>Xb P t a b)))
def aaH(t:TypeId)(x k:Operand)(ok:Bool):Sm:=λP G fr s _=>MV s (two (A0 G fr x) (A0 G fr k) λa b=>Jr P s t a b ok)
def aiT(t:TypeId)(m k x:Operand):Sm:=λP G fr s _=>mT (three (A0 G fr m) (A0 G fr k) (A0 G fr x) (KM P s t))
def aiO(t:TypeId)(m k:Operand):Sm:=λP G fr s _=>abE (two (A0 G fr m) (A0 G fr k) (PV P s t))
def aaE(_:TypeId)(m st x:Operand):Sm:=λ_ G fr s _=>mT (three (A0 G fr m) (A0 G fr st) (A0 G fr x) (Mu s))
def rN(x:Operand)(k:Nat):Sm:=λ_ G fr s _=>MV s (gU (A0 G fr x) λa=>RY a k)
def arJ(cl:Call):Sm:=λP G fr s o=>cV P G fr s o cl
def aiS(x:Operand):Sm:=λ_ G fr _ _=>aGQ (A0 G fr x)
def aHE:Sm:=λ_ _ _ _ _=>none
def aGO(op:Op):Sm:=match op with
 | .move x=>vT x
 | .assign x=>vT x
 | .pick c a b=>arO c a b
 | .alloc e=>aiM e
 | .box e x=>aCB e x
 | .build t ps=>aiN t ps
 | .buildSlice t n ps=>Z6 t n ps
 | .load t a=>arM t a
 | .store t a x=>aiV t a x
 | .nilCheck x=>aCD x
 | .binOp op t x y z=>aCA op t x y z
 | .unOp op t x=>aHF op t x
 | .convert a b x=>arK a b x
 | .makeInterface t x=>aiQ t x
 | .makeFunc f a b=>arL f a b
 | .makeMap t r=>aCC t r
 | .makeSlice t l c=>arN t l c
 | .slice t x lo hi mx=>aiU t x lo hi mx
 | .fieldAddr t x k=>aaF t x k
 | .field t x k=>aiP t x k
 | .indexAddr t x i=>aaG t x i
 | .index t x i=>aiR t x i
 | .lookup t x k ok=>aaH t x k ok
 | .mapUpdate t m k x=>aiT t m k x
 | .insert t m k x=>aiT t m k x
 | .mapEntry t m k=>aiO t m k
 | .entryStore t m st x=>aaE t m st x
 | .extract x k=>rN x k
 | .call cl=>arJ cl
 | .panic x=>aiS x
 | _=>aHE
def aeD(ops:Array Oper)(fr:List AV)(g:Option (Nat×Bool)):Bool:=Option.rec (motive:=λ_=>Bool) true (λp=>aeC ops fr (some p)) g
def aGP(r:Rec)(ops:Array Oper)(dst:Option Tmp)(l:List Oper)(fr:List AV):Option Rs->Option Rs
 | some (.call c s)=>(match c with
   | .ret v=>r (.ops ops l (aDK fr dst v) s)
   | .pan v=>some (.code (.pan v) fr s))
 | _=>none
def vX(P:Program)(G:Bc)(r:Rec)(fr:List AV)(s:AS)(o:Oper)(b:Bool):Option Rs:=Bool.rec (motive:=λ_=>Option Rs) (some (.call (.ret (.sc undef)) s)) (opK r s (aGO o.op P G fr s o)) b
def ajF(P:Program)(G:Bc)(r:Rec)(ops:Array Oper)(fr:List AV)(s:AS)(l:List Oper):Option Rs:=List.rec (motive:=λ_=>Option Rs) (some (.code .normal fr s)) (λo l _=>aGP r ops o.dst l fr (vX P G r fr s o (aeD ops fr o.guard))) l
abbrev Ss:=Program->Bc->Rec->List AV->AS->Option Rs
def aCJ:Ss:=λ_ _ _ fr s=>some (.code .normal fr s)
def aCH(id:Nat):Ss:=λ_ _ _ fr s=>some (.code (.exit id) fr s)
def aHI:Ss:=λ_ _ _ fr s=>some (.code .ret fr s)
def aHJ(x y:Code):Ss:=λ_ _ r fr s=>aHH r y (r (.code x fr s))
def aCG(q:Operand)(x y:Code):Ss:=λ_ G r fr s=>auR r x y fr s (A0 G fr q)
def arU(id:Nat)(c:Code):Ss:=λ_ _ r fr s=>abZ id (r (.code c fr s))
def aCI(c:Code):Ss:=λ_ _ r fr s=>acV (r (.loop c fr s))
def ajC(_:Nat)(ops:Array Oper)(d:Bool):Ss:=λP G r fr s=>vI P G r ops fr s d
def aPM:Ss:=λ_ _ _ _ _=>none
def anG(c:Code):Ss:=match c with
 | .skip=>aCJ
 | .exit id=>aCH id
 | .ret=>aHI
 | .seq x y=>aHJ x y
 | .cond q x y=>aCG q x y
 | .block id c=>arU id c
 | .loop c=>aCI c
 | .region id ops d=>ajC id ops d
 | _=>aPM
def Rx(P:Program)(G:Bc)(X:auG)(H:TK)(r:Rec):Tk->Option Rs
 | .code c fr s=>anG c P G r fr s
 | .loop c fr s=>avO r c (r (.code c fr s))
 | .ops ops l fr s=>ajF P G r ops fr s l
 | .draw ops l fr s q=>mG r ops fr s q l
 | .op ops o fr s=>vX P G r fr s o (aeD ops fr o.guard)
 | .call f args s=>aEB P H r f args s (X f args s)
end AI
namespace AI
open Go Go.RowKit
mutual
def plain:AV->Bool
 | .sc _=>true
 | .agg cs=>BE cs
 | .C4 cs=>BE cs
 | .sl o _ cs=>(match o with | .row _ _=>false | _=>true)&&BE cs
 | .ifc _ v=>plain v
 | .el cs=>BE cs
 | .fn _ a b=>BE a&&BE b
 | .any=>true
 | _=>false
def BE:List AV->Bool
 | []=>true
 | a::l=>plain a&&BE l
end
mutual
def T4:AV->AV
 | .agg cs=>.agg (YQ cs)
 | .C4 cs=>.C4 (YQ cs)
 | .sl o n cs=>.sl (match o with | .row _ _=>.lost | o=>o) n (YQ cs)
 | .ifc t v=>.ifc t (T4 v)
 | .el cs=>.el (YQ cs)
 | a=>a
def YQ:List AV->List AV
 | []=>[]
 | a::l=>T4 a::YQ l
end
mutual
def dH:AV->Bool
 | .sc _=>true
 | .agg cs=>Lq cs
 | .C4 cs=>Lq cs
 | .sl _ _ cs=>Lq cs
 | .ifc _ v=>dH v
 | .el cs=>Lq cs
 | .any=>true
 | _=>false
def Lq:List AV->Bool
 | []=>true
 | a::l=>dH a&&Lq l
end
section
variable {c c':Cx} {w w':World}
mutual
def Rp.plain(hv:∀g i v,Me c w g i v->Me c' w' g i v):∀{a:AV} {v:Value},AI.plain a=true->Rp c w a v->Rp c' w' a v:=by
 intro a v hp h;cases h with
 | sc h1=>exact .sc h1
 | agg h1=>exact .agg (CG.plain hv hp h1)
 | C4 h1=>exact .C4 (CG.plain hv hp h1)
 | @sl0 own A cap h1 =>
   simp only[AI.plain,Bool.and_eq_true] at hp;cases own with
   | full=>exact .sl0 h1
   | nil=>exact .sl0 h1
   | nn=>exact .sl0 h1
   | lost=>exact .sl0 h1
   | row r sz=>cases hp.1
 | @Ll own n cap g o cs hn h1 ho =>
   simp only[AI.plain,Bool.and_eq_true] at hp;refine .Ll hn (Be.plain hv hp.2 h1) ?_;cases own with
   | full=>exact ho
   | nil=>exact ho
   | nn=>exact ho
   | lost=>trivial
   | row r sz=>cases hp.1
 | msl hn h1=>cases hp
 | el h1=>exact .el (Be.plain hv hp h1)
 | ptr h1=>cases hp
 | fn h1 h2 =>
   simp only[AI.plain,Bool.and_eq_true] at hp;exact .fn (CG.plain hv hp.1 h1) (CG.plain hv hp.2 h2)
 | ifc h1=>exact .ifc (Rp.plain hv hp h1)
 | mp h1=>cases hp
 | any h1=>exact .any h1
 | raw=>first | (cases hp;done) | exact .raw
def CG.plain(hv:∀g i v,Me c w g i v->Me c' w' g i v):∀{a:List AV} {v:List Value},AI.BE a=true->CG c w a v->CG c' w' a v:=by
 intro a v hp h;cases h with
 | nil=>exact .nil
 | cons h1 t =>
   simp only[AI.BE,Bool.and_eq_true] at hp;exact .cons (Rp.plain hv hp.1 h1) (CG.plain hv hp.2 t)
def Be.plain(hv:∀g i v,Me c w g i v->Me c' w' g i v):∀{a:List AV} {g o:Nat},AI.BE a=true->Be c w g o a->Be c' w' g o a:=by
 intro a g o hp h;cases h with
 | nil=>exact .nil
 | cons jZ h1 t =>
   simp only[AI.BE,Bool.and_eq_true] at hp;exact .cons (hv _ _ _ jZ) (Rp.plain hv hp.1 h1) (Be.plain hv hp.2 t)
end
mutual
def Rp.T4(hv:∀g i v,Me c w g i v->Me c' w' g i v):∀{a:AV} {v:Value},dH a=true->Rp c w a v->Rp c' w' (AI.T4 a) v:=by
 intro a v hp h;cases h with
 | sc h1=>exact .sc h1
 | agg h1=>exact .agg (CG.T4 hv hp h1)
 | C4 h1=>exact .C4 (CG.T4 hv hp h1)
 | @sl0 own A cap h1 =>
   cases own with
   | full=>exact .sl0 h1
   | nil=>exact .sl0 h1
   | nn=>exact .sl0 h1
   | lost=>exact .sl0 h1
   | row r sz=>exact .sl0 trivial
 | @Ll own n cap g o cs hn h1 ho =>
   have h2:=Be.T4 hv hp h1;refine .Ll hn h2 ?_;cases own with
   | full=>exact ho
   | nil=>exact ho
   | nn=>exact ho
   | lost=>trivial
   | row r sz=>trivial
 | msl hn h1=>cases hp
 | el h1=>exact .el (Be.T4 hv hp h1)
 | ptr h1=>cases hp
 | fn h1 h2=>cases hp
 | ifc h1=>exact .ifc (Rp.T4 hv hp h1)
 | mp h1=>cases hp
 | any h1=>exact .any h1
 | raw=>first | (cases hp;done) | exact .raw
def CG.T4(hv:∀g i v,Me c w g i v->Me c' w' g i v):∀{a:List AV} {v:List Value},Lq a=true->CG c w a v->CG c' w' (AI.YQ a) v:=by
 intro a v hp h;cases h with
 | nil=>exact .nil
 | cons h1 t =>
   simp only[AI.Lq,Bool.and_eq_true] at hp;exact .cons (Rp.T4 hv hp.1 h1) (CG.T4 hv hp.2 t)
def Be.T4(hv:∀g i v,Me c w g i v->Me c' w' g i v):∀{a:List AV} {g o:Nat},Lq a=true->Be c w g o a->Be c' w' g o (AI.YQ a):=by
 intro a g o hp h;cases h with
 | nil=>exact .nil
 | cons jZ h1 t =>
   simp only[AI.Lq,Bool.and_eq_true] at hp;exact .cons (hv _ _ _ jZ) (Rp.T4 hv hp.1 h1) (Be.T4 hv hp.2 t)
end
end
def s0:AS:=⟨[],0,[],0⟩
end AI
namespace AI
open Go Go.RowKit
mutual
def under(n m:Nat):AV->Bool
 | .sc _=>true
 | .agg cs=>FD n m cs
 | .C4 cs=>FD n m cs
 | .sl o _ cs=>(match o with | .row r _=>decide (r < m) | _=>true)&&FD n m cs
 | .msl id _ _=>decide (id < n)
 | .el cs=>FD n m cs
 | .ptr id _=>decide (id < n)
 | .fn _ a b=>FD n m a&&FD n m b
 | .ifc _ v=>under n m v
 | .mp id=>decide (id < n)
 | .any=>true
 | .raw _ _ _=>true
def FD(n m:Nat):List AV->Bool
 | []=>true
 | a::l=>under n m a&&FD n m l
end
mutual
def HY(n m:Nat):∀{a:AV},plain a=true->under n m a=true
 | .sc _,_=>rfl
 | .agg cs,h=>by simp only[plain] at h;simp only[under];exact Cf n m h
 | .C4 cs,h=>by simp only[plain] at h;simp only[under];exact Cf n m h
 | .sl o k cs,h=>by
   simp only[plain,Bool.and_eq_true] at h;simp only[under,Bool.and_eq_true];refine⟨?_,Cf n m h.2⟩;cases o with
   | row r sz=>cases h.1
   | _=>rfl
 | .msl _ _ _,h=>by cases h
 | .el cs,h=>by simp only[plain] at h;simp only[under];exact Cf n m h
 | .ptr _ _,h=>by cases h
 | .fn _ a b,h=>by
   simp only[plain,Bool.and_eq_true] at h;simp only[under,Bool.and_eq_true];exact⟨Cf n m h.1,Cf n m h.2⟩
 | .ifc _ v,h=>by simp only[plain] at h;simp only[under];exact HY n m h
 | .mp _,h=>by cases h
 | .any,_=>rfl
 | .raw _ _ _,_=>rfl
def Cf(n m:Nat):∀{l:List AV},BE l=true->FD n m l=true
 | [],_=>rfl
 | a::l,h=>by
   simp only[BE,Bool.and_eq_true] at h;simp only[FD,Bool.and_eq_true];exact⟨HY n m h.1,Cf n m h.2⟩
end
def Cx.upto(c:Cx)(n m:Nat):Cx:=⟨c.base,c.CX.take n,c.rows.take m,c.bad⟩
def E3{α:Type}{l:List α}{n i:Nat}{x:α}(h:(l.take n)[i]?=some x):l[i]?=some x/\i < n:=by
 rw[List.getElem?_take] at h;split at h;rename_i hi;exact⟨h,hi⟩;cases h
def Q9{α:Type}{l:List α}{n i:Nat}{x:α}(h:l[i]?=some x)(hi:i < n):(l.take n)[i]?=some x:=by
 rw[List.getElem?_take,if_pos hi];exact h
section
variable {c:Cx} {w:World} {n m:Nat}
def aiW{g i:Nat}(h:(c.upto n m).Z7 g i):c.Z7 g i:=by
 rcases h with h | ⟨r,n,cap,sz,hr,h⟩ | h
 exact .inl (List.mem_of_mem_take h);exact .inr (.inl ⟨r,n,cap,sz,(E3 hr).1,h⟩);exact .inr (.inr h)
def Vt{g i:Nat}{v:Value}(h:Me c w g i v):Me (c.upto n m) w g i v:=⟨h.1,λhs=>h.2.1 (aiW hs),h.2.2⟩
mutual
def Rp.upto:∀{a:AV} {v:Value},under n m a=true->Rp c w a v->Rp (c.upto n m) w a v:=by
 intro a v hp h;cases h with
 | sc h1=>exact .sc h1
 | agg h1=>exact .agg (CG.upto hp h1)
 | C4 h1=>exact .C4 (CG.upto hp h1)
 | @sl0 own A cap h1 =>
   simp only[AI.under,Bool.and_eq_true] at hp;cases own with
   | full=>exact .sl0 h1
   | nil=>exact .sl0 h1
   | nn=>exact .sl0 h1
   | lost=>exact .sl0 trivial
   | row r sz =>
     have hr:r < m:=of_decide_eq_true hp.1;refine .sl0 ⟨h1.1,?_⟩;have:=h1.2;simp only[Cx.upto,List.length_take];omega
 | @Ll own k cap g o cs hn h1 ho =>
   simp only[AI.under,Bool.and_eq_true] at hp;refine .Ll hn (Be.upto hp.2 h1) ?_;cases own with
   | full=>exact ho
   | nil=>exact ho
   | nn=>exact ho
   | lost=>trivial
   | row r sz =>
     have hr:r < m:=of_decide_eq_true hp.1;refine⟨ho.1,ho.2.1,?_,λe=>ho.2.2.2.1 (E3 e).1,λg' n' c' s' e=>ho.2.2.2.2 g' n' c' s' (E3 e).1⟩;have:=ho.2.2.1;simp only[Cx.upto,List.length_take];omega
 | msl hn h1=>exact .msl hn (Q9 h1 (of_decide_eq_true hp))
 | el h1=>exact .el (Be.upto hp h1)
 | ptr h1=>exact .ptr (Q9 h1 (of_decide_eq_true hp))
 | fn h1 h2 =>
   simp only[AI.under,Bool.and_eq_true] at hp;exact .fn (CG.upto hp.1 h1) (CG.upto hp.2 h2)
 | ifc h1=>exact .ifc (Rp.upto hp h1)
 | mp h1=>exact .mp (Q9 h1 (of_decide_eq_true hp))
 | any h1=>exact .any h1
 | raw=>exact .raw
def CG.upto:∀{a:List AV} {v:List Value},FD n m a=true->CG c w a v->CG (c.upto n m) w a v:=by
 intro a v hp h;cases h with
 | nil=>exact .nil
 | cons h1 t =>
   simp only[AI.FD,Bool.and_eq_true] at hp;exact .cons (Rp.upto hp.1 h1) (CG.upto hp.2 t)
def Be.upto:∀{a:List AV} {g o:Nat},FD n m a=true->Be c w g o a->Be (c.upto n m) w g o a:=by
 intro a g o hp h;cases h with
 | nil=>exact .nil
 | cons jZ h1 t =>
   simp only[AI.FD,Bool.and_eq_true] at hp;exact .cons (Vt jZ) (Rp.upto hp.1 h1) (Be.upto hp.2 t)
end
end
def UU:AV->Bool
 | .sc v=>Xc v
 | _=>true
def TS{c:Cx}{w:World}{a:AV}{v:Value}(h:Rp c w a v)(hd:UU a=true):Xc v=true:=by
 cases h<;>first | rfl | exact hd | assumption | (cases hd;done)
def sA:AV->AV
 | .sl _ n cs=>.sl .lost n cs
 | a=>a
inductive Fg(n m:Nat):List AV->List AV->Prop where
 | nil:Fg n m [] []
 | Hh {a:AV} {l k:List AV} (h:under n m a=true) (t:Fg n m l k):Fg n m (a::l) (a::k)
 | drop {a:AV} {l k:List AV} (h:UU a=true) (t:Fg n m l k):Fg n m (a::l) (.any::k)
 | lost {o:Own} {j:Nat} {cs l k:List AV} (h:FD n m cs=true) (t:Fg n m l k):Fg n m (.sl o j cs::l) (.sl .lost j cs::k)
def Fg.ok{n m:Nat}{l k:List AV}(h:Fg n m l k){c:Cx}{w:World}{vs:List Value}(hr:CG c w l vs):CG (c.upto n m) w k vs:=by
 induction h generalizing vs with
 | nil=>cases hr;exact .nil
 | Hh h _ ih=>cases hr with | cons h1 t=>exact .cons (h1.upto h) (ih t)
 | drop h _ ih=>cases hr with | cons h1 t=>exact .cons (.any (TS h1 h)) (ih t)
 | @lost o j cs l k h _ ih =>
   cases hr with
   | cons h1 t =>
     refine .cons ?_ (ih t);cases h1 with
     | sl0 _=>exact .sl0 trivial
     | Ll hn hc ho=>exact .Ll hn (hc.upto h) trivial
def XH(n m:Nat):List (Value×AV×Nat)->Bool
 | []=>true
 | e::l=>under n m e.2.1&&XH n m l
def akJ(n m:Nat):AM->Bool
 | .cells cs=>FD n m cs
 | .map es _=>XH n m es
def KR.upto{c:Cx}{w:World}{n m:Nat}:∀{es:List (Value×AV×Nat)} {fs:List MapEntry},XH n m es=true->KR c w es fs->KR (c.upto n m) w es fs:=by
 intro es
 induction es with
 | nil=>intro fs _ h;cases h;exact .nil
 | cons e es ih =>
   intro fs hu h;obtain⟨x,a,b⟩:=e;simp only[XH,Bool.and_eq_true] at hu;cases h with | cons h1 t=>exact .cons (h1.upto hu.1) (ih hu.2 t)
def Fk.upto{c:Cx}{w:World}{n m:Nat}{b:AM}{o:Obj}(hb:akJ n m b=true)(h:Fk c w b o):Fk (c.upto n m) w b o:=by
 cases h with
 | H6 ext h1=>exact .H6 ext (h1.upto hb)
 | map h1=>exact .map (h1.upto hb)
def Fits(n m:Nat)(a b:AV):Prop:=∀(c:Cx) (w:World) (v:Value),Rp c w a v->Rp (c.upto n m) w b v
def JO(n m:Nat)(a b:List AV):Prop:=∀(c:Cx) (w:World) (v:List Value),CG c w a v->CG (c.upto n m) w b v
def Th(n m:Nat)(a b:List AV):Prop:=∀(c:Cx) (w:World) (g o:Nat),Be c w g o a->Be (c.upto n m) w g o b
def Rf(n m:Nat)(a b:AM):Prop:=∀(c:Cx) (w:World) (o:Obj),Fk c w a o->Fk (c.upto n m) w b o
def Fg.fits{n m:Nat}{l k:List AV}(h:Fg n m l k):JO n m l k:=λ_ _ _ hr=>h.ok hr
def Fits.under{n m:Nat}{a:AV}(h:AI.under n m a=true):Fits n m a a:=λ_ _ _ hr=>hr.upto h
def JO.under{n m:Nat}{a:List AV}(h:AI.FD n m a=true):JO n m a a:=λ_ _ _ hr=>hr.upto h
def Th.under{n m:Nat}{a:List AV}(h:AI.FD n m a=true):Th n m a a:=λ_ _ _ _ hr=>hr.upto h
def Rf.under{n m:Nat}{b:AM}(h:akJ n m b=true):Rf n m b b:=λ_ _ _ hr=>hr.upto h
def Fits.plain{n m:Nat}{a:AV}(h:AI.plain a=true):Fits n m a a:=.under (HY n m h)
def JO.plain{n m:Nat}{a:List AV}(h:BE a=true):JO n m a a:=.under (Cf n m h)
def Th.plain{n m:Nat}{a:List AV}(h:BE a=true):Th n m a a:=.under (Cf n m h)
def Fits.sc{n m:Nat}{v:Value}:Fits n m (.sc v) (.sc v):=.under rfl
def Fits.drop{n m:Nat}{a:AV}(h:UU a=true):Fits n m a .any:=λ_ _ _ hr=>.any (TS hr h)
def Fits.agg{n m:Nat}{a b:List AV}(h:JO n m a b):Fits n m (.agg a) (.agg b):=λ_ _ _ hr=>by cases hr with | agg h1=>exact .agg (h _ _ _ h1)
def Fits.C4{n m:Nat}{a b:List AV}(h:JO n m a b):Fits n m (.C4 a) (.C4 b):=λ_ _ _ hr=>by cases hr with | C4 h1=>exact .C4 (h _ _ _ h1)
def Fits.lost{n m:Nat}{o:Own}{k:Nat}{a b:List AV}(h:Th n m a b)(e:a=[]->b=[]):Fits n m (.sl o k a) (.sl .lost k b):=λ_ _ _ hr=>by
 cases hr with
 | sl0 _=>rw[e rfl];exact .sl0 trivial
 | Ll hn hc ho=>exact .Ll hn (h _ _ _ _ hc) trivial
def JO.nil{n m:Nat}:JO n m [] []:=λ_ _ _ hr=>by cases hr;exact .nil
def JO.cons{n m:Nat}{a b:AV}{l k:List AV}(h:Fits n m a b)(t:JO n m l k):JO n m (a::l) (b::k):=λ_ _ _ hr=>by cases hr with | cons h1 t1=>exact .cons (h _ _ _ h1) (t _ _ _ t1)
def Th.nil{n m:Nat}:Th n m [] []:=λ_ _ _ _ hr=>by cases hr;exact .nil
def Th.cons{n m:Nat}{a b:AV}{l k:List AV}(h:Fits n m a b)(t:Th n m l k):Th n m (a::l) (b::k):=λ_ _ _ _ hr=>by cases hr with | cons hv h1 t1=>exact .cons (Vt hv) (h _ _ _ h1) (t _ _ _ _ t1)
def Rf.cells{n m:Nat}{a b:List AV}(h:JO n m a b):Rf n m (.cells a) (.cells b):=λ_ _ _ hr=>by cases hr with | H6 ext h1=>exact .H6 ext (h _ _ _ h1)
def anT{G:Bc}(hG:∀g cs,G g=some cs->BE cs=true){s s' s2:AS}{fr' fr2:List AV}(hn:s2.nx=s.nx)(hr:s2.nr=s.nr)
   (hd:JN s2.h s2.nx) (ayR:∀id b,look id s2.h=some b->∃b',look id s'.h=some b'/\Rf s.nx s.nr b' b) (hF:∀r n,D8 r s2.F=some n->D8 r s'.F=some n/\r < s.nr)
   (hf:JO s.nx s.nr fr' fr2) (cx:Cx) (w:World) (c':Cx) (w':World) (vs:List Value) (hx:Ext cx w c' w') (hs:St G cx w s) (hs':St G c' w' s') (hfr:CG c' w' fr' vs) :
   ∃c2,Ext cx w c2 w'/\St G c2 w' s2/\CG c2 w' fr2 vs:=by
 have Sd:c'.CX.take s.nx=cx.CX:=by
   obtain⟨t,ht⟩:=hx.CX;rw[<- ht,hs.len,List.take_left]
 have hrl:(c'.rows.take s.nr).length=cx.rows.length:=by
   have:=hx.I2;rw[List.length_take,hs.I2];omega
 refine⟨c'.upto s.nx s.nr,⟨?_,?_,λr x Xl h=>?_,λg i v hv=>Vt (hx.aB g i v hv),hx.below,hx.base,hx.bad,λg hg=>hx.Z2 g (List.mem_of_mem_take hg),λr g n cap sz h=>hx.Z4 r g n cap sz (E3 h).1,hx.Hh⟩,?_,hf _ _ _ hfr⟩;show cx.CX <+: c'.CX.take s.nx;rw[Sd];exact List.prefix_refl _;show cx.rows.length<=(c'.rows.take s.nr).length;omega;exact hx.rows r x Xl (E3 h).1;refine⟨?_,hd,λi j g h1 h2=>hs'.nodup i j g (E3 h1).1 (E3 h2).1,λg hg=>hs'.low g (List.mem_of_mem_take hg),λid g b h1 h2=>?_,?_,λr g n cap sz h=>?_,λr n h=>?_,λg hg=>hs'.MM g (List.mem_of_mem_take hg),hs'.M0,λr r' g n cap sz n' cap' NK h h'=>hs'.IX r r' g n cap sz n' cap' NK (E3 h).1 (E3 h').1,λg cs hg=>(hs'.M1 g cs hg).upto (Cf _ _ (hG g cs hg)),hs'.QB⟩;show s2.nx=(c'.CX.take s.nx).length;rw[Sd,hn,hs.len];obtain⟨b',h3,h4⟩:=ayR id b h2;obtain⟨o,ho,hb⟩:=hs'.box id g b' (E3 h1).1 h3;exact⟨o,ho,h4 _ _ _ hb⟩;show s2.nr=(c'.rows.take s.nr).length;rw[hrl,hr,hs.I2];obtain⟨a1,a2,a3,a4⟩:=hs'.row r g n cap sz (E3 h).1;exact⟨a1,a2,λhm=>a3 (List.mem_of_mem_take hm),a4⟩;obtain⟨h1,h2⟩:=hF r n h;rcases hs'.Je r n h1 with ⟨h3,h4⟩ | ⟨g,cap,sz,h3⟩
 exact .inl ⟨Q9 h3 h2,h4⟩;exact .inr ⟨g,cap,sz,Q9 h3 h2⟩
end AI
namespace AI
open Go Go.RowKit
section
variable {P:Program} {G:Bc} {X:WR} {H:TK}
def W(P:Program)(G:Bc)(X:WR)(H:TK)(c:Code)(fr:List AV)(s:AS)(Q:AX->List AV->AS->Prop):Prop:=∃e fr' s',J P G X H (.code c fr s e fr' s')/\Q e fr' s'
def WL(P:Program)(G:Bc)(X:WR)(H:TK)(c:Code)(fr:List AV)(s:AS)(Q:AX->List AV->AS->Prop):Prop:=∃e fr' s',J P G X H (.loop c fr s e fr' s')/\Q e fr' s'
def WC(P:Program)(G:Bc)(X:WR)(H:TK)(f:FuncId)(args:List AV)(s:AS)(Q:CR->AS->Prop):Prop:=∃r s',J P G X H (.call f args s r s')/\Q r s'
def awI(P:Program)(G:Bc)(X:WR)(H:TK)(y:Code)(Q:AX->List AV->AS->Prop):AX->List AV->AS->Prop
 | .normal,fr,s=>W P G X H y fr s Q
 | e,fr,s=>Q e fr s
def EN(id:Nat)(Q:AX->List AV->AS->Prop):AX->List AV->AS->Prop:=λe fr s=>Q (E4 id e) fr s
def Tm(P:Program)(fn:Func)(n:Nat)(Q:CR->AS->Prop):AX->List AV->AS->Prop
 | .normal,fr,s=>∃v,GM P s fn fr=some v/\Q (.ret v) (s.cut n)
 | .ret,fr,s=>∃v,GM P s fn fr=some v/\Q (.ret v) (s.cut n)
 | .pan v,_,s=>Q (.pan v) (s.cut n)
 | _,_,_=>False
def W.mono{c:Code}{fr:List AV}{s:AS}{Q R:AX->List AV->AS->Prop}(h:W P G X H c fr s Q)(k:∀e fr s,Q e fr s->R e fr s):W P G X H c fr s R:=by
 obtain⟨e,fr',s',h1,h2⟩:=h;exact⟨e,fr',s',h1,k _ _ _ h2⟩
def WC.mono{f:FuncId}{args:List AV}{s:AS}{Q R:CR->AS->Prop}(h:WC P G X H f args s Q)(k:∀r s,Q r s->R r s):WC P G X H f args s R:=by
 obtain⟨r,s',h1,h2⟩:=h;exact⟨r,s',h1,k _ _ h2⟩
def aDF{x y:Code}{fr:List AV}{s:AS}{Q:AX->List AV->AS->Prop}(h:W P G X H x fr s (awI P G X H y Q)):W P G X H (.seq x y) fr s Q:=by
 obtain⟨e,VJ,s1,h1,h2⟩:=h;cases e with
 | normal =>
   obtain⟨e2,fr2,s2,h3,h4⟩:=h2;exact⟨e2,fr2,s2,.seq h1 h3,h4⟩
 | exit id=>exact⟨_,_,_,.rO h1 (by simp),h2⟩
 | ret=>exact⟨_,_,_,.rO h1 (by simp),h2⟩
 | pan v=>exact⟨_,_,_,.rO h1 (by simp),h2⟩
def amO{q:Operand}{x y:Code}{fr:List AV}{s:AS}{Q:AX->List AV->AS->Prop}(hq:Bd G fr q=some (.sc (.bool true)))(h:W P G X H x fr s Q):W P G X H (.cond q x y) fr s Q:=by
 obtain⟨e,VJ,s1,h1,h2⟩:=h;exact⟨e,VJ,s1,.cond hq h1,h2⟩
def amN{q:Operand}{x y:Code}{fr:List AV}{s:AS}{Q:AX->List AV->AS->Prop}(hq:Bd G fr q=some (.sc (.bool false)))(h:W P G X H y fr s Q):W P G X H (.cond q x y) fr s Q:=by
 obtain⟨e,VJ,s1,h1,h2⟩:=h;exact⟨e,VJ,s1,.cond hq h1,h2⟩
def sO{id:Nat}{c:Code}{fr:List AV}{s:AS}{Q:AX->List AV->AS->Prop}(h:W P G X H c fr s (EN id Q)):W P G X H (.block id c) fr s Q:=by
 obtain⟨e,VJ,s1,h1,h2⟩:=h;exact⟨_,VJ,s1,.block h1,h2⟩
def axB{c:Code}{fr:List AV}{s:AS}{Q:AX->List AV->AS->Prop}(h:WL P G X H c fr s Q):W P G X H (.loop c) fr s Q:=by
 obtain⟨e,VJ,s1,h1,h2⟩:=h;exact⟨_,VJ,s1,.loop h1,h2⟩
def drop_cons{α:Type}{o:α}{l m:List α}{k:Nat}(h:o::l=m.drop k):m[k]?=some o/\l=m.drop (k+1):=by
 constructor;have:=congrArg (λx=>x[0]?) h;simpa using this.symm
 have:=congrArg List.tail h;rw[List.tail_drop] at this;exact this
def Au{f:FuncId}{fn:Func}{c:Code}{args:List AV}{s:AS}{Q:CR->AS->Prop}(hf:P.funcs[f]?=some fn)(hb:fn.body=some c)(h:W P G X H c (args++List.replicate (fn.ntmps - args.length) (.sc undef)) s (Tm P fn s.nx Q)):WC P G X H f args s Q:=by
 obtain⟨e,VJ,s1,h1,h2⟩:=h;cases e with
 | normal=>obtain⟨v,h3,h4⟩:=h2;exact⟨_,_,.body hf hb h1 (.inl rfl) h3 (.inl rfl),h4⟩
 | ret=>obtain⟨v,h3,h4⟩:=h2;exact⟨_,_,.body hf hb h1 (.inr rfl) h3 (.inl rfl),h4⟩
 | pan v=>exact⟨_,_,.auN hf hb h1,h2⟩
 | exit id=>exact h2.elim
end
end AI
namespace AI
open Go Go.RowKit
abbrev XS(P:Program)(G:Bc):WR:=λf args s r s'=>Sound P G (.call f args s r s')
def H0:TK:=λ_ _=>none
def Sb{P:Program}{G:Bc}(h:P.follows .mixedOrders=true):auH P G (XS P G) H0:=⟨h,λ_ _ _ _ _ h=>h,λ_ _ _ _ _ h=>by cases h⟩
def Pure(P:Program)(G:Bc)(f:FuncId)(args:List AV)(v:AV):Prop:=∀s,Sound P G (.call f args s (.ret v) s)
def rows{α:Type}(f:α->List AV)(l:List α):List AV:=l.flatMap f
def SO{α:Type}{f:α->List AV}{k:Nat}(hf:∀x,(f x).length=k){l:List α}{i:Nat}{x:α}(h:l[i]?=some x):(rows f l).drop (i*k)=f x++rows f (l.drop (i+1)):=by
 induction l generalizing i with
 | nil=>simp at h
 | cons y l ih =>
   cases i with
   | zero=>simp at h;subst h;simp[rows]
   | succ i =>
     have:=ih (i:=i) (by simpa using h)
     have e:rows f (y::l)=f y++rows f l:=by simp[rows]
     rw[e,List.drop_append,hf y,show(i+1)*k - k=i*k by rw[Nat.add_mul];omega,List.drop_eq_nil_of_le (by rw[hf y,Nat.add_mul];omega),List.nil_append,this];simp
def HV{α:Type}{f:α->List AV}{k:Nat}(hf:∀x,(f x).length=k)(l:List α):(rows f l).length=l.length*k:=by
 induction l with
 | nil=>simp[rows]
 | cons y l ih =>
   have e:rows f (y::l)=f y++rows f l:=by simp[rows]
   rw[e,List.length_append,hf y,ih,List.length_cons,Nat.add_mul];omega
def MQ{α:Type}(f:α->List AV)(l m:List α):rows f (l++m)=rows f l++rows f m:=by simp[rows]
def FC{α:Type}(f:α->List AV)(x:α)(m:List α):rows f (x::m)=f x++rows f m:=by simp[rows]
def rH{α:Type}{f:α->List AV}{l:List α}(h:∀x∈l,BE (f x)=true):BE (rows f l)=true:=by
 have UE:∀a b:List AV,BE a=true->BE b=true->BE (a++b)=true:=by
   intro a b ha hb
   induction a with
   | nil=>exact hb
   | cons x a ih =>
     simp only[BE,Bool.and_eq_true,List.cons_append] at ha ⊢;exact⟨ha.1,ih ha.2⟩
 induction l with
 | nil=>rfl
 | cons y l ih=>rw[FC];exact UE _ _ (h y List.mem_cons_self) (ih λx hx=>h x (List.mem_cons_of_mem _ hx))
def pV{P:Program}{α:Type}{f:α->List AV}{k:Nat}{t elem:TypeId}{e:TypeInfo}(hu:P.underlying t=some (.slice elem))(he:P.info? elem=some e)(hk:e.size=k)(hf:∀x,(f x).length=k){own:Own}{l:List α}{i:Nat}{x:α}(h:l[i]?=some x) :
   CH P t (.sl own l.length (rows f l)) (.sc (.int .i64 (i:Int)))=some (.el (f x++rows f (l.drop (i+1)))):=by
 have hi:=(List.getElem?_eq_some_iff.1 h).1
 have hn:RA (.sc (.int .i64 (i:Int)))=some i:=by
   unfold RA;simp
 unfold CH;rw[hu,hn];simp only[he,hk,if_pos hi,SO hf h]
def akY{i:Nat}(h:i<=9223372036854775807):IntKind.i64.wrap (i:Int)=(i:Int):=by
 refine IntWalk.i64_in _ ?_;omega
end AI
namespace AI
open Go Go.RowKit
section
variable {G:Bc}
inductive NZ where
 | t (tmp sz:Nat)
 | b (id i sz:Nat)
 | l (tmp:Nat)
 | lb (id i:Nat)
def apM:AV->Bool
 | .sl .full n cs=>(match n with | 0=>(match cs with | []=>true | _=>false) | _=>false)
 | _=>false
def nz1(fr:List AV)(s:AS):NZ->Option (List AV×AS)
 | .t k sz=>(match fr[k]? with
   | some a=>(match apM a with
     | true=>some (fr.set k (.sl (.row s.nr sz) 0 []),s.tok)
     | false=>none)
   | none=>none)
 | .b id i sz=>(match look id s.h with
   | some (.cells cs)=>(match cs[i]? with
     | some a=>(match apM a with
       | true=>some (fr,⟨Ry id (.cells (cs.set i (.sl (.row s.nr sz) 0 []))) s.h,s.nx,(s.nr,0)::s.F,s.nr+1⟩)
       | false=>none)
     | none=>none)
   | _=>none)
 | .l k=>(match fr[k]? with
   | some a=>some (fr.set k (sA a),s)
   | none=>none)
 | .lb id i=>(match look id s.h with
   | some (.cells cs)=>(match cs[i]? with
     | some a=>some (fr,⟨Ry id (.cells (cs.set i (sA a))) s.h,s.nx,s.F,s.nr⟩)
     | none=>none)
   | _=>none)
def nzs:List NZ->List AV->AS->Option (List AV×AS)
 | [],fr,s=>some (fr,s)
 | z::l,fr,s=>(match nz1 fr s z with
   | some (fr,s)=>nzs l fr s
   | none=>none)
def Wkn(G:Bc)(fr:List AV)(s:AS)(fr2:List AV)(s2:AS):Prop:=∀(cx:Cx) (w:World) (vs:List Value),St G cx w s->CG cx w fr vs->∃cx2,Ext cx w cx2 w/\St G cx2 w s2/\CG cx2 w fr2 vs
def Wkn.refl{fr:List AV}{s:AS}:Wkn G fr s fr s:=λcx w vs h1 h2=>⟨cx,Ext.refl _ _,h1,h2⟩
def Wkn.trans{fr fr2 fr3:List AV}{s s2 s3:AS}(h:Wkn G fr s fr2 s2)(k:Wkn G fr2 s2 fr3 s3):Wkn G fr s fr3 s3:=λcx w vs h1 h2=>by
 obtain⟨c2,x2,s2,r2⟩:=h cx w vs h1 h2;obtain⟨c3,x3,s3,r3⟩:=k c2 w vs s2 r2;exact⟨c3,x2.trans x3,s3,r3⟩
def uU{a:AV}(h:apM a=true){c:Cx}{w:World}{v:Value}(hr:Rp c w a v){r sz:Nat}(hl:r < c.rows.length):Rp c w (.sl (.row r sz) 0 []) v:=by
 unfold apM at h;split at h
 · split at h
   · split at h
     · cases hr with
       | sl0 h0=>exact .sl0 ⟨h0,hl⟩
       | Ll hn hc ho =>
         have:_=0:=ho;subst this;exact .sl0 ⟨rfl,hl⟩
     cases h
   cases h
 cases h
def cD{a:AV}{c:Cx}{w:World}{v:Value}(hr:Rp c w a v):Rp c w (sA a) v:=by
 cases hr with
 | sl0 _=>exact .sl0 trivial
 | Ll hn hc ho=>exact .Ll hn hc trivial
 | sc h=>exact .sc h
 | agg h=>exact .agg h
 | C4 h=>exact .C4 h
 | msl h1 h2=>exact .msl h1 h2
 | el h=>exact .el h
 | ptr h=>exact .ptr h
 | fn h1 h2=>exact .fn h1 h2
 | ifc h=>exact .ifc h
 | mp h=>exact .mp h
 | any h=>exact .any h
 | raw=>exact .raw
def CG.arR{c:Cx}{w:World}{as:List AV}{vs:List Value}(h:CG c w as vs){i:Nat}{a b:AV}(ha:as[i]?=some a)(hb:∀v,Rp c w a v->Rp c w b v):CG c w (as.set i b) vs:=by
 induction as generalizing vs i with
 | nil=>simp at ha
 | cons x as ih =>
   cases h with
   | cons h1 t =>
     cases i with
     | zero=>simp at ha;subst ha;exact .cons (hb _ h1) t
     | succ i=>exact .cons h1 (ih t (by simpa using ha))
def St.rC{c:Cx}{w:World}{s:AS}(h:St G c w s){id:Nat}{b b2:AM}(hb:look id s.h=some b)(hk:∀o,Fk c w b o->Fk c w b2 o):St G c w ⟨Ry id b2 s.h,s.nx,s.F,s.nr⟩ :=
 ⟨h.len,Zt h.desc,h.nodup,h.low,λRl g b' h1 h2=>by
   rcases Zu h2 with ⟨rfl,rfl⟩ | ⟨_,h3⟩
   obtain⟨o,ho,yI⟩:=h.box _ g b h1 hb;exact⟨o,ho,hk o yI⟩;exact h.box Rl g b' h1 h3,h.I2,h.row,h.Je,h.MM,h.M0,h.IX,h.M1,h.QB⟩
def aAY{fr fr2:List AV}{s s2:AS}{z:NZ}(h:nz1 fr s z=some (fr2,s2)):Wkn G fr s fr2 s2:=by
 intro cx w vs hs hr;cases z with
 | t k sz =>
   simp only[nz1] at h;split at h;rename_i a ha;split at h;rename_i hn;cases h;obtain⟨x,st⟩:=hs.tok;refine⟨_,x,st,(hr.mono x).arR ha (λv hv=>uU hn hv ?_)⟩;simp[hs.I2];cases h;cases h
 | b id i sz =>
   simp only[nz1] at h;split at h;rename_i cs hb;split at h;rename_i a ha;split at h;rename_i hn;cases h;obtain⟨x,st⟩:=hs.tok;refine⟨_,x,st.rC (b:=.cells cs) hb (λo ho=>?_),hr.mono x⟩;cases ho with
   | H6 ext h1=>exact .H6 ext (h1.arR ha (λv hv=>uU hn hv (by simp[hs.I2])))
   cases h;cases h;cases h
 | l k =>
   simp only[nz1] at h;split at h;rename_i a ha;cases h;exact⟨cx,Ext.refl _ _,hs,hr.arR ha (λv hv=>cD hv)⟩;cases h
 | lb id i =>
   simp only[nz1] at h;split at h;rename_i cs hb;split at h;rename_i a ha;cases h;refine⟨cx,Ext.refl _ _,hs.rC (b:=.cells cs) hb (λo ho=>?_),hr⟩;cases ho with
   | H6 ext h1=>exact .H6 ext (h1.arR ha (λv hv=>cD hv))
   cases h;cases h
def qM:∀{l:List NZ} {fr fr2:List AV} {s s2:AS},nzs l fr s=some (fr2,s2)->Wkn G fr s fr2 s2:=by
 intro l
 induction l with
 | nil=>intro fr fr2 s s2 h;simp only[nzs] at h;cases h;exact .refl
 | cons z l ih =>
   intro fr fr2 s s2 h;simp only[nzs] at h;split at h;rename_i f1 s1 h1;exact(aAY h1).trans (ih h);cases h
end
end AI
namespace AI
open Go Go.RowKit
def eqV:Value->Value->Bool
 | .string a,.string b=>B1 a.data.toList b.data.toList
 | .int k a,.int k' b=>(match sameKind k k' with | true=>Dh a b | false=>false)
 | a,b=>amT a b
def axW{a b:Value}(h:eqV a b=true):a=b:=by
 unfold eqV at h;split at h;rename_i x y;rw[TV,beq_iff_eq] at h;have:x=y:=ByteArray.ext (Array.ext' h);rw[this];split at h;rename_i hk;rw[QL,beq_iff_eq] at h;rw[WN hk,h];cases h;exact sT h
def auT:Own->Own->Bool
 | .full,.full=>true
 | .lost,.lost=>true
 | .nil,.nil=>true
 | .nn,.nn=>true
 | _,_=>false
def adL{a b:Own}(h:auT a b=true):a=b:=by cases a<;>cases b<;>first | rfl | cases h
mutual
def dR:AV->AV->Bool
 | .sc a,.sc b=>eqV a b
 | .agg a,.agg b=>eqL a b
 | .C4 a,.C4 b=>eqL a b
 | .sl o n a,.sl p m b=>(match auT o p with
   | true=>(match Nat.beq n m with | true=>eqL a b | false=>false)
   | false=>false)
 | .ifc t a,.ifc u b=>(match Nat.beq t u with | true=>dR a b | false=>false)
 | _,_=>false
def eqL:List AV->List AV->Bool
 | [],[]=>true
 | a::as,b::bs=>(match dR a b with | true=>eqL as bs | false=>false)
 | _,_=>false
end
mutual
def adI:∀{a b:AV},dR a b=true->a=b
 | .sc a,b,h=>by
   cases b<;>first
     | (simp only[dR] at h;rw[axW h])
     | (simp[dR] at h;done)
 | .agg a,b,h=>by
   cases b<;>first
     | (simp only[dR] at h;rw[dS h])
     | (simp[dR] at h;done)
 | .C4 a,b,h=>by
   cases b<;>first
     | (simp only[dR] at h;rw[dS h])
     | (simp[dR] at h;done)
 | .sl o n a,b,h=>by
   cases b<;>first
     | (simp only[dR] at h
        split at h;rename_i h1;split at h;rename_i h2;rw[adL h1,beq_true h2,dS h];cases h;cases h)
     | (simp[dR] at h;done)
 | .ifc t a,b,h=>by
   cases b<;>first
     | (simp only[dR] at h
        split at h;rename_i h1;rw[beq_true h1,adI h];cases h)
     | (simp[dR] at h;done)
 | .msl _ _ _,b,h=>by simp[dR] at h
 | .el _,b,h=>by simp[dR] at h
 | .ptr _ _,b,h=>by simp[dR] at h
 | .fn _ _ _,b,h=>by simp[dR] at h
 | .mp _,b,h=>by simp[dR] at h
 | .any,b,h=>by simp[dR] at h
def dS:∀{a b:List AV},eqL a b=true->a=b
 | [],b,h=>by cases b<;>first | rfl | (simp[eqL] at h;done)
 | a::as,b,h=>by
   cases b<;>first
     | (simp[eqL] at h;done)
     | (simp only[eqL] at h
        split at h;rename_i h1;rw[adI h1,dS h];cases h)
end
structure Ent where
 f:Nat
 args:List AV
 box:Option (List AV×List AV)
 v:AV
def abK(P:Program)(G:Bc)(e:Ent):Prop:=match e.box with
 | none=>∀s,Sound P G (.call e.f e.args s (.ret e.v) s)
 | some (cs,cs')=>∀s id,s.get id=some (.cells cs)->Sound P G (.call e.f (.ptr id 0::e.args) s (.ret e.v) (s.put id (.cells cs')))
def aQG.cons{P:Program}{G:Bc}{e:Ent}{l:List Ent}(he:abK P G e)(hl:∀e∈l,abK P G e):∀e'∈e::l,abK P G e':=λe' h=>by
 rcases List.mem_cons.1 h with h | h
 rw[h];exact he;exact hl e' h
end AI
namespace AI
open Go Go.RowKit
inductive Hn where
 | k
 | b (b:Bool)
 | i (z:Int)
 | w (v:AV)
 | a (v:AV) (s:AS)
 | ae (v:AV)
 | af (v:AV)
 | m (s:AS)
 | l (v:AV)
 | s (s:AS)
 | c (v:AV) (s:AS)
 | o (v:AV)
 | z (c:Nat)
 | p (v:AV) (s:AS)
 | g (sz k:Nat) (cs:List AV)
 | u (v:AV) (pre:List (Nat×AM)) (tp:List (Nat×Nat)) (Ra:List (Nat×AM)) (tu:List (Nat×Nat))
 | q (v:AV) (pre:List (Nat×AM)) (tp:List (Nat×Nat)) (Ra:List (Nat×AM)) (tu:List (Nat×Nat))
 | n (l:List NZ)
 | x (b:AM) (v:AV)
 | y (b b2:AM)
 | lb (m:AM) (v:AV)
 | sb (m m2:AM)
 | mb (n:Nat) (m:AM)
 | za
 | zq (c:Nat)
 | cn (v:AV) (h:List (Nat×AM)) (dn:Nat) (F:List (Nat×Nat)) (dr:Nat)
 | f (id:Nat) (b b2:AM)
inductive Cd where
 | eqb (B b:Bool)
 | eqi (X z:Int)
 | idx (t:TypeId) (a b v:AV)
 | bin (op:BinOp) (t:TypeId) (x y:Operand) (a b v:AV)
 | call (f:FuncId) (args:List AV) (s:AS) (v:AV)
 | UE (s:AS) (t tx:TypeId) (a b v:AV) (s1:AS)
 | ix (t:TypeId) (a b v:AV)
 | lk (s:AS) (t:TypeId) (a b:AV) (ok:Bool) (v:AV)
 | ms (s:AS) (t:TypeId) (a b v:AV) (s1:AS)
 | auQ (f:FuncId) (args:List AV) (s:AS) (v:AV) (s1:AS)
 | ld (s:AS) (t:TypeId) (a v:AV)
 | st (s:AS) (t:TypeId) (a x:AV) (s1:AS)
 | mk (s:AS) (t:TypeId) (a b v:AV) (s1:AS)
 | sli (t:TypeId) (a:AV) (l h m:Option AV) (v:AV)
 | auP (f:FuncId) (args:List AV) (s:AS) (v:AV) (s1:AS)
 | pur (f:FuncId) (args:List AV) (v:AV)
 | Ws (t tx:TypeId) (own:Own) (n:Nat) (cs:List AV) (b:AV) (sz k:Nat) (cs2:List AV)
 | eqn (k n:Nat)
 | Fa (f:FuncId) (args:List AV) (r:CR) (pre:List (Nat×AM)) (tp:List (Nat×Nat)) (Ra:List (Nat×AM)) (tu:List (Nat×Nat))
 | tB (a b:List (Option AM)) (c d:List (Option Nat))
 | lkB (b:AM) (t:TypeId) (k:AV) (ok:Bool) (v:AV)
 | msB (b:AM) (t:TypeId) (k v:AV) (b2:AM)
 | ldB (b:AM) (t:TypeId) (off:Nat) (v:AV)
 | stB (b:AM) (t:TypeId) (off:Nat) (x:AV) (b2:AM)
 | mkB (t:TypeId) (a x:AV) (n:Nat) (m:AM)
 | apB (t tx:TypeId) (a b:AV) (n:Nat) (m:AM)
 | aK (f:FuncId) (args:List AV) (nx nr:Nat) (v:AV) (h:List (Nat×AM)) (dn:Nat) (F:List (Nat×Nat)) (dr:Nat)
 | rd (nr:Nat) (b b2:AM)
 | cv (t t2:TypeId) (a v:AV)
 | apf (t tx:TypeId) (a b v:AV)
def AS.Wc(s:AS):List (Nat×AM)->AS
 | []=>s
 | e::l=>(s.put e.1 e.2).Wc l
def AS.Tw(s:AS):List (Nat×Nat)->AS
 | []=>s
 | e::l=>(AS.mk s.h s.nx (aaI e.1 e.2 s.F) s.nr).Tw l
def Yn(s:AS):List (Nat×AM)->List (Option AM)
 | []=>[]
 | e::l=>s.get e.1::Yn s l
def OJ:List (Nat×AM)->List (Option AM)
 | []=>[]
 | e::l=>some e.2::OJ l
def aO(F:List (Nat×Nat)):List (Nat×Nat)->List (Option Nat)
 | []=>[]
 | e::l=>D8 e.1 F::aO F l
def Pg:List (Nat×Nat)->List (Option Nat)
 | []=>[]
 | e::l=>some e.2::Pg l
def Cd.ok(P:Program)(G:Bc):Cd->Prop
 | .eqb B b=>B=b
 | .eqi X z=>X=z
 | .idx t a b v=>CH P t a b=some v
 | .bin op t x y a b v=>MZ P op t x y a b=some v
 | .call f args s v=>Sound P G (.call f args s (.ret v) s)
 | .UE s t tx a b v s1=>∃v0,KL P s t tx a b=some (v0,s1)/\∀c w u,Rp c w v0 u->Rp c w v u
 | .ix t a b v=>Lm P t a b=some v
 | .lk s t a b ok v=>Jr P s t a b ok=some v
 | .ms s t a b v s1=>KM P s t a b v=some s1
 | .auQ f args s v s1=>Sound P G (.call f args s (.ret v) s1)
 | .ld s t a v=>JP P s t a=some v
 | .st s t a x s1=>KT P s t a x=some s1
 | .mk s t a b v s1=>JQ P s t a b=some (v,s1)
 | .sli t a l h m v=>LZ P t a l h m=some v
 | .auP f args s v s1=>Sound P G (.call f args s (.pan v) s1)
 | .pur f args v=>∀s,Sound P G (.call f args s (.ret v) s)
 | .Ws t tx own n cs b sz k cs2=>∀s:AS,Of sz s.F n own=true->∃cs0,KL P s t tx (.sl own n cs) b=some (.sl (avR s sz own) k cs0,s.to k own)/\∀c w u o,Rp c w (.sl o k cs0) u->Rp c w (.sl o k cs2) u
 | .eqn k n=>k=n
 | .Fa f args r pre tp Ra tu=>∀s:AS,Yn s pre=OJ pre->aO s.F tp=Pg tp->Sound P G (.call f args s r ((s.Wc Ra).Tw tu))
 | .tB a b c d=>a=b/\c=d
 | .lkB b t k ok v=>∀(s:AS) (id:Nat),s.get id=some b->Jr P s t (.mp id) k ok=some v
 | .msB b t k v b2=>∀(s:AS) (id:Nat),s.get id=some b->KM P s t (.mp id) k v=some (s.put id b2)
 | .ldB b t off v=>∀(s:AS) (id:Nat),s.get id=some b->JP P s t (.ptr id off)=some v
 | .stB b t off x b2=>∀(s:AS) (id:Nat),s.get id=some b->KT P s t (.ptr id off) x=some (s.put id b2)
 | .mkB t a x n m=>∀s:AS,∃m0,JQ P s t a x=some (.msl s.nx 0 n,s.new m0)/\∀(cx:Cx) (w:World) (o:Obj),Fk cx w m0 o->Fk cx w m o
 | .apB t tx a b n m=>∀s:AS,awP P G t tx a b s (.msl s.nx 0 n) (s.new m)
 | .aK f args nx nr v h dn F dr=>∀s:AS,s.nx=nx->s.nr=nr->Sound P G (.call f args s (.ret v) ⟨h++s.h,s.nx+dn,F++s.F,s.nr+dr⟩)
 | .apf t tx a b v=>∀s:AS,∃v0,KL P s t tx a b=some (v0,s)/\∀c w u,Rp c w v0 u->Rp c w v u
 | .cv t t2 a v=>RX P t t2 a=some v
 | .rd nr b b2=>∀(cx:Cx) (w:World) (o:Obj),nr < cx.rows.length->Fk cx w b o->Fk cx w b2 o
def Rz(P:Program)(G:Bc):List Cd->Prop
 | []=>True
 | c::l=>c.ok P G/\Rz P G l
def Rz.UE{P:Program}{G:Bc}{l m:List Cd}(h:Rz P G (l++m)):Rz P G l/\Rz P G m:=by
 induction l with
 | nil=>exact⟨trivial,h⟩
 | cons c l ih=>exact⟨⟨h.1,(ih h.2).1⟩,(ih h.2).2⟩
abbrev HO:=Option (AV×AS×List Hn×List Cd)
def Lt(s1:Option AR)(hs:List Hn):HO:=match s1 with
 | some (.val v s)=>some (v,s,hs,[])
 | _=>none
def aEO(P:Program)(op:BinOp)(t:TypeId)(x y:Operand)(a b:AV)(s:AS):List Hn->HO
 | .k::hs=>(match XQ P op t x y a b with
   | some v=>some (v,s,hs,[])
   | none=>none)
 | .b c::hs=>(match XQ P op t x y a b with
   | some (.sc (.bool B))=>some (.sc (.bool c),s,hs,[.eqb B c])
   | _=>none)
 | .i z::hs=>(match XQ P op t x y a b with
   | some (.sc (.int k X))=>some (.sc (.int k z),s,hs,[.eqi X z])
   | _=>none)
 | .w v::hs=>some (v,s,hs,[.bin op t x y a b v])
 | _=>none
def aER(P:Program)(t:TypeId)(a b:AV)(s:AS):List Hn->HO
 | .k::hs=>(match CH P t a b with
   | some v=>some (v,s,hs,[])
   | none=>none)
 | .w v::hs=>some (v,s,hs,[.idx t a b v])
 | _=>none
def Yq(s:AS)(r:Option AR):List Hn->HO
 | .w v::hs=>(match r with
   | some (.ent f args)=>some (v,s,hs,[.pur f args v])
   | _=>none)
 | .a v s1::hs=>(match r with
   | some (.ent f args)=>some (v,s1,hs,[.auQ f args s v s1])
   | _=>none)
 | .u v pre tp Ra tu::hs=>(match r with
   | some (.ent f args)=>some (v,(s.Wc Ra).Tw tu,hs,[.Fa f args (.ret v) pre tp Ra tu,.tB (Yn s pre) (OJ pre) (aO s.F tp) (Pg tp)])
   | _=>none)
 | .cn v h dn F dr::hs=>(match r with
   | some (.ent f args)=>some (v,⟨h++s.h,s.nx+dn,F++s.F,s.nr+dr⟩,hs,[.aK f args s.nx s.nr v h dn F dr])
   | _=>none)
 | _=>none
def aeE(s:AS)(t tx:TypeId)(a b:AV):List Hn->HO
 | .mb n m::hs=>some (.msl s.nx 0 n,s.new m,hs,[.apB t tx a b n m])
 | .a v s1::hs=>some (v,s1,hs,[.UE s t tx a b v s1])
 | .ae v::hs=>some (v,s,hs,[.UE s t tx a b v s])
 | .af v::hs=>some (v,s,hs,[.apf t tx a b v])
 | .g sz k cs2::hs=>(match a with
   | .sl .full n cs=>some (.sl (.row s.nr sz) k cs2,s.add k,hs,[.Ws t tx .full n cs b sz k cs2])
   | .sl (.row r z) n cs=>(match D8 r s.F with
     | some m=>(match Nat.beq z sz with
       | true=>some (.sl (.row r sz) k cs2,s.grow r k,hs,[.Ws t tx (.row r z) n cs b sz k cs2,.eqn m n])
       | false=>none)
     | none=>none)
   | _=>none)
 | _=>none
def aES(P:Program)(t:TypeId)(a b:AV)(s:AS):List Hn->HO
 | .k::hs=>(match Lm P t a b with
   | some v=>some (v,s,hs,[])
   | none=>none)
 | .w v::hs=>some (v,s,hs,[.ix t a b v])
 | _=>none
def auX(t:TypeId)(a b:AV)(ok:Bool)(s:AS):List Hn->HO
 | .w v::hs=>some (v,s,hs,[.lk s t a b ok v])
 | .x m v::hs=>(match a with
   | .mp id=>some (v,s,hs,[.lkB m t b ok v,.tB [s.get id] [some m] [] []])
   | _=>none)
 | _=>none
def ayK(t:TypeId)(a b v:AV)(s:AS):List Hn->HO
 | .m s1::hs=>some (.sc undef,s1,hs,[.ms s t a b v s1])
 | .y m m2::hs=>(match a with
   | .mp id=>some (.sc undef,s.put id m2,hs,[.msB m t b v m2,.tB [s.get id] [some m] [] []])
   | _=>none)
 | _=>none
def aeH(t:TypeId)(a:Option AV)(s:AS)(r:Option AR):List Hn->HO
 | .l v::hs=>(match a with
   | some a=>some (v,s,hs,[.ld s t a v])
   | none=>none)
 | .lb m v::hs=>(match a with
   | some (.ptr id off)=>some (v,s,hs,[.ldB m t off v,.tB [s.get id] [some m] [] []])
   | _=>none)
 | hs=>Lt r hs
def pA(t:TypeId)(a x:Option AV)(s:AS)(r:Option AR):List Hn->HO
 | .s s1::hs=>(match a,x with
   | some a,some x=>some (.sc undef,s1,hs,[.st s t a x s1])
   | _,_=>none)
 | .sb m m2::hs=>(match a,x with
   | some (.ptr id off),some x=>some (.sc undef,s.put id m2,hs,[.stB m t off x m2,.tB [s.get id] [some m] [] []])
   | _,_=>none)
 | hs=>Lt r hs
def aeJ(t:TypeId)(a x:Option AV)(s:AS)(r:Option AR):List Hn->HO
 | .c v s1::hs=>(match a,x with
   | some a,some x=>some (v,s1,hs,[.mk s t a x v s1])
   | _,_=>none)
 | .mb n m::hs=>(match a,x with
   | some a,some x=>some (.msl s.nx 0 n,s.new m,hs,[.mkB t a x n m])
   | _,_=>none)
 | hs=>Lt r hs
def ayL(t:TypeId)(a:Option AV)(l h m:Option (Option AV))(s:AS)(r:Option AR):List Hn->HO
 | .o v::hs=>(match a,l,h,m with
   | some a,some l,some h,some m=>some (v,s,hs,[.sli t a l h m v])
   | _,_,_,_=>none)
 | hs=>Lt r hs
def auV(P:Program)(t t2:TypeId)(a:AV)(s:AS):List Hn->HO
 | .w v::hs=>some (v,s,hs,[.cv t t2 a v])
 | hs=>(match RX P t t2 a with
   | some v=>some (v,s,hs,[])
   | none=>none)
def yC(P:Program)(G:Bc)(fr:List AV)(s:AS)(o:Oper)(hs:List Hn):HO :=
 match o.op with
 | .binOp op t x y _=>(match A0 G fr x with
   | some a=>(match A0 G fr y with
     | some b=>aEO P op t x y a b s hs
     | none=>none)
   | none=>none)
 | .indexAddr t x i=>(match A0 G fr x with
   | some a=>(match A0 G fr i with
     | some b=>aER P t a b s hs
     | none=>none)
   | none=>none)
 | .index t x i=>(match A0 G fr x with
   | some a=>(match A0 G fr i with
     | some b=>aES P t a b s hs
     | none=>none)
   | none=>none)
 | .convert t t2 x=>(match A0 G fr x with
   | some (.sl o n cs)=>auV P t t2 (.sl o n cs) s hs
   | _=>Lt (UN P G fr s o) hs)
 | .lookup t x k ok=>(match A0 G fr x with
   | some a=>(match A0 G fr k with
     | some b=>auX t a b ok s hs
     | none=>none)
   | none=>none)
 | .mapUpdate t m k x=>(match A0 G fr m with
   | some a=>(match A0 G fr k with
     | some b=>(match A0 G fr x with
       | some v=>ayK t a b v s hs
       | none=>none)
     | none=>none)
   | none=>none)
 | .load t x=>aeH t (Bd G fr x) s (UN P G fr s o) hs
 | .store t x y=>pA t (Bd G fr x) (Bd G fr y) s (UN P G fr s o) hs
 | .makeSlice t x y=>aeJ t (Bd G fr x) (Bd G fr y) s (UN P G fr s o) hs
 | .slice t x lo hi mx=>ayL t (Bd G fr x) (gV G fr lo) (gV G fr hi) (gV G fr mx) s (UN P G fr s o) hs
 | .call cl=>(match cl.callee with
   | .value _=>Yq s (UN P G fr s o) hs
   | .builtin .append=>(match cl.args.toList,cl.argTypes.toList with
     | [x,y],[t,tx]=>(match A0 G fr x with
       | some a=>(match A0 G fr y with
         | some b=>aeE s t tx a b hs
         | none=>none)
       | none=>none)
     | _,_=>none)
   | _=>Lt (UN P G fr s o) hs)
 | _=>Lt (UN P G fr s o) hs
def aT(P:Program)(G:Bc)(ops:Array Oper)(fr:List AV)(s:AS)(o:Oper)(hs:List Hn):HO :=
 match Cv ops fr o with
 | true=>yC P G fr s o hs
 | false=>some (.sc undef,s,hs,[])
section
variable {P:Program} {G:Bc} {ops:Array Oper}
def VK{r:Option AR}{hs hs':List Hn}{v:AV}{s:AS}{cd:List Cd}(h:Lt r hs=some (v,s,hs',cd)):r=some (.val v s):=by
 unfold Lt at h;split at h;cases h;rfl;cases h
def aeI{t:TypeId}{a:Option AV}{r:Option AR}{hs hs':List Hn}{v:AV}{s s1:AS}{cd:List Cd}(h:aeH t a s r hs=some (v,s1,hs',cd))(hc:Rz P G cd):(∃a',a=some a'/\JP P s t a'=some v/\s1=s)\/Lt r hs=some (v,s1,hs',cd):=by
 unfold aeH at h;split at h;split at h;cases h;exact .inl ⟨_,rfl,hc.1,rfl⟩;cases h;split at h;cases h;exact .inl ⟨_,rfl,hc.1 _ _ (List.cons.inj hc.2.1.1).1,rfl⟩;cases h;exact .inr h
def VL{t:TypeId}{a x:Option AV}{r:Option AR}{hs hs':List Hn}{v:AV}{s s1:AS}{cd:List Cd}(h:pA t a x s r hs=some (v,s1,hs',cd))(hc:Rz P G cd):(∃a' x',a=some a'/\x=some x'/\KT P s t a' x'=some s1/\v=.sc undef)\/Lt r hs=some (v,s1,hs',cd):=by
 unfold pA at h;split at h;split at h;cases h;exact .inl ⟨_,_,rfl,rfl,hc.1,rfl⟩;cases h;split at h;cases h;exact .inl ⟨_,_,rfl,rfl,hc.1 _ _ (List.cons.inj hc.2.1.1).1,rfl⟩;cases h;exact .inr h
def aeK{t:TypeId}{a x:Option AV}{r:Option AR}{hs hs':List Hn}{v:AV}{s s1:AS}{cd:List Cd}(h:aeJ t a x s r hs=some (v,s1,hs',cd))(hc:Rz P G cd):(∃a' x',a=some a'/\x=some x'/\∃s0,JQ P s t a' x'=some (v,s0)/\∀cx w,St G cx w s0->St G cx w s1)\/Lt r hs=some (v,s1,hs',cd):=by
 unfold aeJ at h;split at h;split at h;cases h;exact .inl ⟨_,_,rfl,rfl,_,hc.1,λ_ _ h=>h⟩;cases h;split at h;cases h;obtain⟨m0,h1,h2⟩:=hc.1 s;refine .inl ⟨_,_,rfl,rfl,_,h1,λcx w hs=>?_⟩;have:=hs.rC (id:=s.nx) (b:=m0) (b2:=_) (by simp[AS.new,look]) (λo ho=>h2 cx w o ho);simpa[AS.new,Ry] using this
 cases h;exact .inr h
def aoE{t:TypeId}{a:Option AV}{l k m:Option (Option AV)}{r:Option AR}{hs hs':List Hn}{v:AV}{s s1:AS}{cd:List Cd}(h:ayL t a l k m s r hs=some (v,s1,hs',cd))(hc:Rz P G cd):(∃a' l' k' m',a=some a'/\l=some l'/\k=some k'/\m=some m'/\LZ P t a' l' k' m'=some v/\s1=s)\/Lt r hs=some (v,s1,hs',cd):=by
 unfold ayL at h;split at h;split at h;cases h;exact .inl ⟨_,_,_,_,rfl,rfl,rfl,rfl,hc.1,rfl⟩;cases h;exact .inr h
def ayJ{fr:List AV}{s s1:AS}{o:Oper}{hs hs':List Hn}{v:AV}{cd:List Cd}(hw:Cv ops fr o=true)(h:yC P G fr s o hs=some (v,s1,hs',cd))(hc:Rz P G cd):J P G (XS P G) H0 (.op ops o fr s (.ret v) s1):=by
 have Ud:Lt (UN P G fr s o) hs=some (v,s1,hs',cd)->J P G (XS P G) H0 (.op ops o fr s (.ret v) s1):=λh=>by
   have:=VK h;rw[Nv] at this;exact .Og hw this
 unfold yC at h;split at h;rename_i op t x y z ho;rw[Cs,Cs] at h;split at h;rename_i a ha;split at h;rename_i b hb
 have fin:∀v',MZ P op t x y a b=some v'->s1=s->v=v'->J P G (XS P G) H0 (.op ops o fr s (.ret v) s1):=by
   intro v' h1 h2 h3;subst h2 h3;refine .Og hw ?_;unfold Qz;rw[ho];simp only[ha,hb,h1,Option.map_some]
 unfold aEO at h;rw[UM] at h;split at h;split at h;rename_i h1;cases h;exact fin _ h1 rfl rfl;cases h;split at h;rename_i h1;cases h;have e:_=_:=hc.1;subst e;exact fin _ h1 rfl rfl;cases h;split at h;rename_i h1;cases h;have e:_=_:=hc.1;subst e;exact fin _ h1 rfl rfl;cases h;cases h;exact fin _ hc.1 rfl rfl;cases h;cases h;cases h;rename_i t x i ho;rw[Cs,Cs] at h;split at h;rename_i a ha;split at h;rename_i b hb
 have fin:∀v',CH P t a b=some v'->s1=s->v=v'->J P G (XS P G) H0 (.op ops o fr s (.ret v) s1):=by
   intro v' h1 h2 h3;subst h2 h3;refine .Og hw ?_;unfold Qz;rw[ho];simp only[ha,hb,h1,Option.map_some]
 unfold aER at h;split at h;split at h;rename_i h1;cases h;exact fin _ h1 rfl rfl;cases h;cases h;exact fin _ hc.1 rfl rfl;cases h;cases h;cases h;rename_i t x i ho;rw[Cs,Cs] at h;split at h;rename_i a ha;split at h;rename_i b hb
 have fin:∀v',Lm P t a b=some v'->s1=s->v=v'->J P G (XS P G) H0 (.op ops o fr s (.ret v) s1):=by
   intro v' h1 h2 h3;subst h2 h3;refine .Og hw ?_;unfold Qz;rw[ho];simp only[ha,hb,h1,Option.map_some]
 unfold aES at h;split at h;split at h;rename_i h1;cases h;exact fin _ h1 rfl rfl;cases h;cases h;exact fin _ hc.1 rfl rfl;cases h;cases h;cases h;rename_i t t2 x ho;rw[Cs] at h;split at h;rename_i ow n cs ha
 have fin:∀v',RX P t t2 (.sl ow n cs)=some v'->s1=s->v=v'->J P G (XS P G) H0 (.op ops o fr s (.ret v) s1):=by
   intro v' h1 h2 h3;subst h2 h3;refine .Og hw ?_;unfold Qz;rw[ho];simp only[ha,Option.bind_some,h1,Option.map_some]
 unfold auV at h;split at h;cases h;exact fin _ hc.1 rfl rfl;split at h;rename_i h1;cases h;exact fin _ h1 rfl rfl;cases h;exact Ud h;rename_i t x k ok ho;rw[Cs,Cs] at h;split at h;rename_i a ha;split at h;rename_i b hb
 have h1:Jr P s t a b ok=some v/\s1=s:=by
   unfold auX at h;split at h;cases h;exact⟨hc.1,rfl⟩;split at h;cases h;refine⟨hc.1 _ _ ?_,rfl⟩;have h2:=hc.2.1.1;simpa using h2
   cases h;cases h
 obtain⟨h1,rfl⟩:=h1;refine .Og hw ?_;unfold Qz;rw[ho];simp only[ha,hb,h1,Option.map_some];cases h;cases h;rename_i t m k x ho;rw[Cs,Cs,Cs] at h;split at h;rename_i a ha;split at h;rename_i b hb;split at h;rename_i x' hx
 have h1:KM P s t a b x'=some s1/\v=.sc undef:=by
   unfold ayK at h;split at h;cases h;exact⟨hc.1,rfl⟩;split at h;cases h;refine⟨hc.1 _ _ ?_,rfl⟩;have h2:=hc.2.1.1;simpa using h2
   cases h;cases h
 obtain⟨h1,rfl⟩:=h1;refine .Og hw ?_;unfold Qz;rw[ho];simp only[ha,hb,hx,h1,Option.map_some];cases h;cases h;cases h;rename_i t x ho;rcases aeI h hc with ⟨a,ha,h1,rfl⟩ | h1
 refine .Og hw ?_;unfold Qz;rw[ho];simp only[ha,Option.bind_some,h1,Option.map_some];exact Ud h1;rename_i t x y ho;rcases VL h hc with ⟨a,b,ha,hb,h1,rfl⟩ | h1
 refine .Og hw ?_;unfold Qz;rw[ho];simp only[ha,hb,h1,Option.map_some];exact Ud h1;rename_i t x y ho;rcases aeK h hc with ⟨a,b,ha,hb,s0,h1,h2⟩ | h1
 refine .fD ?_ (.Og (s':=s0) hw ?_) h2;simp only[quiet,ho];unfold Qz;rw[ho];simp only[ha,hb,h1,Option.map_some];exact Ud h1;rename_i t x lo hi mx ho;rcases aoE h hc with ⟨a,l,k,m,ha,hl,hk,hm,h1,rfl⟩ | h1
 refine .Og hw ?_;unfold Qz;rw[ho];simp only[ha,hl,hk,hm,h1,Option.map_some];exact Ud h1;rename_i cl ho;split at h;unfold Yq at h;split at h;split at h;rename_i h1;cases h;rw[Nv] at h1;exact .Sl hw h1 (.ext (hc.1 s));cases h;split at h;rename_i h1;cases h;rw[Nv] at h1;exact .Sl hw h1 (.ext hc.1);cases h;split at h;rename_i h1;cases h;rw[Nv] at h1;exact .Sl hw h1 (.ext (hc.1 s hc.2.1.1 hc.2.1.2));cases h;split at h;rename_i h1;cases h;rw[Nv] at h1;exact .Sl hw h1 (.ext (hc.1 s rfl rfl));cases h;cases h;rename_i IN;split at h;rename_i x y t tx hxs D0;rw[Cs,Cs] at h;split at h;rename_i a ha;split at h;rename_i b hb
 have fin:∀v0,KL P s t tx a b=some (v0,s1)->(∀c w u,Rp c w v0 u->Rp c w v u)->J P G (XS P G) H0 (.op ops o fr s (.ret v) s1):=by
   intro v0 h1 h2;refine .qS (v:=v0) ?_ (.Og hw ?_) h2;simp only[quiet,ho,IN];unfold Qz;rw[ho];simp only[Tj,IN,hxs,D0,ha,hb,h1,Option.map_some]
 unfold aeE at h;split at h;cases h;exact .ahD hw ho IN hxs D0 ha hb (hc.1 s);cases h;obtain⟨v0,h1,h2⟩:=hc.1;exact fin v0 h1 h2;cases h;obtain⟨v0,h1,h2⟩:=hc.1;exact fin v0 h1 h2;cases h;obtain⟨v0,h1,h2⟩:=hc.1 s;exact fin v0 h1 h2;split at h;cases h;obtain⟨cs0,h1,h2⟩:=hc.1 s rfl;exact fin _ h1 (λc w u=>h2 c w u _);rename_i r z n cs;split at h;rename_i m hm;split at h;rename_i hz;have hz:=beq_true hz;subst hz;cases h;have e:m=n:=hc.2.1;subst e;obtain⟨cs0,h1,h2⟩:=hc.1 s (by simp[Of,hm]);exact fin _ h1 (λc w u=>h2 c w u _);cases h;cases h;cases h;cases h;cases h;cases h;cases h;exact Ud h;exact Ud h
def Pw{fr:List AV}{s s1:AS}{o:Oper}{hs hs':List Hn}{v:AV}{cd:List Cd}(h:aT P G ops fr s o hs=some (v,s1,hs',cd))(hc:Rz P G cd):J P G (XS P G) H0 (.op ops o fr s (.ret v) s1):=by
 unfold aT at h;split at h;rename_i hw;exact ayJ hw h hc;rename_i hw;cases h;exact .qR hw
end
end AI
