/- Part of a proof: see the last text. -/
import Derived.Test.YtpbkhogolfegfaaGreatDoorPid
import Derived.LoopN
set_option linter.unusedVariables false
set_option linter.unusedSimpArgs false
set_option linter.defProp false
noncomputable section
namespace AI
open Go Go.RowKit
inductive AX where
 | normal
 | exit (id:Nat)
 | ret
 | JK (v:AV)
inductive CR where
 | ret (v:AV)
 | JK (v:AV)
def CG(ops:Array Oper)(fr:List AV)(o:Oper):Bool:=match o.guard with
 | none=>true
 | some (j,want)=>match (ops[j]?).bind (·.dst) with
   | some d=>match fr[d]? with
     | some (.sc (.bool b))=>b == want
     | _=>false
   | none=>false
def E7(id:Nat):AX->AX
 | .exit RN=>if RN=id then .normal else .exit RN
 | e=>e
def UY(P:Program)(s:AS)(fr:List AV):ResultVar->Option AV
 | .tmp t=>some (fr.getD t (.sc undef))
 | .cell t ty=>K8 P s ty (fr.getD t (.sc undef))
def P9(P:Program)(s:AS)(fr:List AV):List ResultVar->Option (List AV)
 | []=>some []
 | r::rs=>match UY P s fr r,P9 P s fr rs with
   | some a,some as=>some (a::as)
   | _,_=>none
def JO(P:Program)(s:AS)(fn:Func)(fr:List AV):Option AV:=match P9 P s fr fn.results.toList with
 | some [a]=>some a
 | some as=>some (.C6 as)
 | none=>none
inductive Jd where
 | code (c:Code) (fr:List AV) (s:AS) (e:AX) (Cp:List AV) (s':AS)
 | loop (c:Code) (fr:List AV) (s:AS) (e:AX) (Cp:List AV) (s':AS)
 | ops (ops:Array Oper) (l:List Nat) (fr:List AV) (s:AS) (e:AX) (Cp:List AV) (s':AS)
 | op (ops:Array Oper) (o:Oper) (fr:List AV) (s:AS) (r:CR) (s':AS)
 | call (f:FuncId) (args:List AV) (s:AS) (r:CR) (s':AS)
def Cm(ops:Array Oper)(i:Nat):Option Tmp:=(ops[i]?).bind (·.dst)
def Zb(ops:Array Oper)(i:Nat):Prop:=∃o,ops[i]?=some o/\calm o.op=false
def Win(ops:Array Oper)(i k:Nat):Prop:=(∀l,Zb ops l->S7 (Is ops.toList []) i l=true->l < k)/\(∀l,Zb ops l->S7 (Is ops.toList []) l i=true->k<=l)
abbrev Xg:=FuncId->List AV->AS->CR->AS->Prop
abbrev TV:=FuncId->List AV->Option (FuncId×List AV×(CR->Option CR))
def alB(P:Program)(G:Bc)(t tx:TypeId)(a b:AV)(s:AS)(v:AV)(s':AS):Prop:=∀(c:Cx) (w:World) (va vb:Value) (ty:TypeId),St G c w s->Rp c w a va->Rp c w b vb ->
 ∃u w' c',(Builtin.append_ #[t,tx] ty #[va,vb]).run P w=.ok u w'/\Ext c w c' w'/\St G c' w' s'/\Rp c' w' v u
def aow(G:Bc)(c:Cx)(w:World)(r:CR)(s':AS)(e:Ending)(w':World):Prop :=
 ∃c',Ext c w c' w'/\St G c' w' s'/\match r with
   | .ret v=>∃u,e=.returned u/\Rp c' w' v u
   | .JK v=>∃u,e=.panicked [{ v:=u,recovered:=false }]/\Rp c' w' v u
def TC(G:Bc)(c:Cx)(w:World)(e:AX)(Cp:List AV)(s':AS)(e':Exit)(a':Act)(w':World):Prop :=
 ∃c',Ext c w c' w'/\St G c' w' s'/\a'.defers=[]/\match e with
   | .normal=>e'=.normal/\CY c' w' Cp a'.tmps.toList
   | .exit id=>e'=.exit id/\CY c' w' Cp a'.tmps.toList
   | .ret=>e'=.ret/\CY c' w' Cp a'.tmps.toList
   | .JK v=>∃u,e'=.panic [{ v:=u,recovered:=false }]/\Rp c' w' v u
def TC.ext{G:Bc}{c c1:Cx}{w w1:World}{e:AX}{Cp:List AV}{s':AS}{e':Exit}{a':Act}{w':World}(x:Ext c w c1 w1)(h:TC G c1 w1 e Cp s' e' a' w'):TC G c w e Cp s' e' a' w':=by
 obtain⟨c',h1,h2⟩:=h;exact⟨c',x.trans h1,h2⟩
def OV(P:Program)(ops:Array Oper)(o:Oper)(K:Act->World->Prop)(Q:Exit->Act->World->Prop)(a:Act)(w:World):Prop :=
 if Region.wanted o (yielded ops a.tmps) then o.wp P a w K Q else K (a.put o.dst undef) w
def Sound(P:Program)(G:Bc):Jd->Prop
 | .code c fr s e Cp s'=>∀(cx:Cx) (w:World) (a:Act) (Q:Exit->Act->World->Prop),St G cx w s->CY cx w fr a.tmps.toList->a.defers=[]->(∀e' a' w',TC G cx w e Cp s' e' a' w'->Q e' a' w')->c.wp P Q a w
 | .loop c fr s e Cp s'=>∃n,∀(cx:Cx) (w:World) (a:Act) (Q:Exit->Act->World->Prop),St G cx w s->CY cx w fr a.tmps.toList->a.defers=[]->(∀e' a' w',TC G cx w e Cp s' e' a' w'->Q e' a' w')->Code.rounds P c Q n a w
 | .ops ops l fr s e Cp s'=>∀(cx:Cx) (w:World) (a:Act) (Q:Exit->Act->World->Prop),St G cx w s->CY cx w fr a.tmps.toList->a.defers=[]->(∀e' a' w',TC G cx w e Cp s' e' a' w'->Q e' a' w')->wpOps P ops Q l a w
 | .op ops o fr s r s'=>∀(cx:Cx) (w:World) (a:Act) (K:Act->World->Prop) (Q:Exit->Act->World->Prop),St G cx w s->(∀x∈o.op.operands,Z8 G cx w fr a.eval x)->CG ops fr o=Region.wanted o (yielded ops a.tmps) ->
     (match r with
       | .ret v=>∀u w' c',Ext cx w c' w'->St G c' w' s'->Rp c' w' v u->K (a.put o.dst u) w'
       | .JK v=>∀u w' c',Ext cx w c' w'->St G c' w' s'->Rp c' w' v u->Q (.panic [{ v:=u,recovered:=false }]) a w')->OV P ops o K Q a w
 | .call f args s r s'=>∀(cx:Cx) (w:World) (vs:List Value),St G cx w s->CY cx w args vs->Calls P f vs.toArray w (aow G cx w r s')
inductive J(P:Program)(G:Bc)(X:Xg)(H:TV):Jd->Prop where
 | skip {fr:List AV} {s:AS}:J P G X H (.code .skip fr s .normal fr s)
 | exit {id:Nat} {fr:List AV} {s:AS}:J P G X H (.code (.exit id) fr s (.exit id) fr s)
 | ret {fr:List AV} {s:AS}:J P G X H (.code .ret fr s .ret fr s)
 | seq {x y:Code} {fr WS Cp:List AV} {s s1 s':AS} {e:AX} (h1:J P G X H (.code x fr s .normal WS s1)) (h2:J P G X H (.code y WS s1 e Cp s')):J P G X H (.code (.seq x y) fr s e Cp s')
 | rB {x y:Code} {fr Cp:List AV} {s s':AS} {e:AX} (h1:J P G X H (.code x fr s e Cp s')) (he:e≠.normal):J P G X H (.code (.seq x y) fr s e Cp s')
 | cond {q:Operand} {x y:Code} {t:Bool} {fr Cp:List AV} {s s':AS} {e:AX} (hq:Bg G fr q=some (.sc (.bool t))) (h:J P G X H (.code (if t then x else y) fr s e Cp s')):J P G X H (.code (.cond q x y) fr s e Cp s')
 | block {id:Nat} {c:Code} {fr Cp:List AV} {s s':AS} {e:AX} (h:J P G X H (.code c fr s e Cp s')):J P G X H (.code (.block id c) fr s (E7 id e) Cp s')
 | loop {c:Code} {fr Cp:List AV} {s s':AS} {e:AX} (h:J P G X H (.loop c fr s e Cp s')):J P G X H (.code (.loop c) fr s e Cp s')
 | ait {c:Code} {fr WS Cp:List AV} {s s1 s':AS} {e:AX} (h1:J P G X H (.code c fr s .normal WS s1)) (h2:J P G X H (.loop c WS s1 e Cp s')):J P G X H (.loop c fr s e Cp s')
 | tK {c:Code} {fr Cp:List AV} {s s':AS} {e:AX} (h1:J P G X H (.code c fr s e Cp s')) (he:e≠.normal):J P G X H (.loop c fr s e Cp s')
 | region {id:Nat} {ops:Array Oper} {fr Cp:List AV} {s s':AS} {e:AX} (h:J P G X H (.ops ops (List.range ops.size) fr s e Cp s')):J P G X H (.code (.region id ops false) fr s e Cp s')
 | acu {ops:Array Oper} {fr:List AV} {s:AS}:J P G X H (.ops ops [] fr s .normal fr s)
 | tU {ops:Array Oper} {i:Nat} {l:List Nat} {o:Oper} {v:AV} {fr Cp:List AV} {s s1 s':AS} {e:AX} (ho:ops[i]?=some o) (h:J P G X H (.op ops o fr s (.ret v) s1)) (t:J P G X H (.ops ops l (JE fr o.dst v) s1 e Cp s')):J P G X H (.ops ops (i::l) fr s e Cp s')
 | acv {ops:Array Oper} {i:Nat} {l:List Nat} {o:Oper} {v:AV} {fr:List AV} {s s1:AS} (ho:ops[i]?=some o) (h:J P G X H (.op ops o fr s (.JK v) s1)):J P G X H (.ops ops (i::l) fr s (.JK v) fr s1)
 | Ot {ops:Array Oper} {o:Oper} {fr:List AV} {s s':AS} {v:AV} (hw:CG ops fr o=true) (h:QW P G fr s o=some (.val v s')):J P G X H (.op ops o fr s (.ret v) s')
 | qK {ops:Array Oper} {o:Oper} {fr:List AV} {s s':AS} {v v2:AV} (hq:quiet o.op=false) (h:J P G X H (.op ops o fr s (.ret v) s')) (hv:∀cx w u,Rp cx w v u->Rp cx w v2 u):J P G X H (.op ops o fr s (.ret v2) s')
 | gA {ops:Array Oper} {o:Oper} {fr:List AV} {s s1 s2:AS} {v:AV} (hq:quiet o.op=false) (h:J P G X H (.op ops o fr s (.ret v) s1)) (hs:∀cx w,St G cx w s1->St G cx w s2):J P G X H (.op ops o fr s (.ret v) s2)
 | acs {ops:Array Oper} {o:Oper} {fr:List AV} {s s':AS} {cl:Call} {x y:Operand} {t tx:TypeId} {a b v:AV} (hw:CG ops fr o=true) (ho:o.op=.call cl) (Ii:cl.callee=.builtin .append) (hx:cl.args.toList=[x,y]) (ht:cl.argTypes.toList=[t,tx]) (ha:Bg G fr x=some a) (hb:Bg G fr y=some b) (h:alB P G t tx a b s v s'):J P G X H (.op ops o fr s (.ret v) s')
 | qJ {ops:Array Oper} {o:Oper} {fr:List AV} {s:AS} (hw:CG ops fr o=false):J P G X H (.op ops o fr s (.ret (.sc undef)) s)
 | SJ {ops:Array Oper} {o:Oper} {fr:List AV} {s s':AS} {f:FuncId} {args:List AV} {r:CR} (hw:CG ops fr o=true) (h:QW P G fr s o=some (.ent f args)) (hc:J P G X H (.call f args s r s')):J P G X H (.op ops o fr s r s')
 | aix {ops:Array Oper} {o:Oper} {fr:List AV} {s:AS} {v:AV} (hw:CG ops fr o=true) (h:QW P G fr s o=some (.JK v)):J P G X H (.op ops o fr s (.JK v) s)
 | draw {id:Nat} {ops:Array Oper} {f0:List AV} {s0:AS} (rs:List Bl) (vals:Nat->AV) (Nx:Nat->AS) (h0:Nx 0=s0.hold rs) (H3:MV ops=true)
     (hl:∀i o,ops[i]?=some o->calm o.op=false->J P G X H (.op ops o (IH f0 (Cm ops) vals (λ_=>true) i) (Nx i) (.ret (vals i)) (Nx (i+1))))
     (hq:∀i o,ops[i]?=some o->quiet o.op=true->Nx (i+1)=Nx i/\((CG ops (IH f0 (Cm ops) vals (λ_=>true) i) o=false/\vals i=.sc undef)\/(CG ops (IH f0 (Cm ops) vals (λ_=>true) i) o=true/\∀k,k<=ops.size->Win ops i k->QW P G (IH f0 (Cm ops) vals (λ_=>true) i) (Nx k) o=some (.val (vals i) (Nx k)))))
     (ha:∀i o e,ops[i]?=some o->o.op=.alloc e->Nx (i+1)=Nx i/\((CG ops (IH f0 (Cm ops) vals (λ_=>true) i) o=false/\vals i=.sc undef)\/(CG ops (IH f0 (Cm ops) vals (λ_=>true) i) o=true/\∃z,MP P e=some z/\rk ops i < rs.length/\vals i=.ptr (s0.nx+rk ops i) 0/\∀k,k<=ops.size->Win ops i k->(Nx k).get (s0.nx+rk ops i)=some (.cells (cellsOf z))))) :
     J P G X H (.code (.region id ops true) f0 s0 .normal (IH f0 (Cm ops) vals (λ_=>true) ops.size) (Nx ops.size))
 | body {f:FuncId} {fn:Func} {c:Code} {args Cp:List AV} {s s' s2:AS} {e:AX} {v:AV} (hf:P.funcs[f]?=some fn) (hb:fn.body=some c) (h:J P G X H (.code c (args++List.replicate (fn.ntmps - args.length) (.sc undef)) s e Cp s')) (he:e=.normal\/e=.ret) (hr:JO P s' fn Cp=some v) (hk:s2=s'.cut s.nx\/s2=s'):J P G X H (.call f args s (.ret v) s2)
 | ah0 {f:FuncId} {fn:Func} {c:Code} {args Cp:List AV} {s s':AS} {v:AV} (hf:P.funcs[f]?=some fn) (hb:fn.body=some c) (h:J P G X H (.code c (args++List.replicate (fn.ntmps - args.length) (.sc undef)) s (.JK v) Cp s')):J P G X H (.call f args s (.JK v) (s'.cut s.nx))
 | ext {f:FuncId} {args:List AV} {s s':AS} {r:CR} (h:X f args s r s'):J P G X H (.call f args s r s')
 | ZX {c:Code} {fr fr2 Cp:List AV} {s s2 s':AS} {e:AX} (hw:∀cx w vs,St G cx w s->CY cx w fr vs->∃cx2,Ext cx w cx2 w/\St G cx2 w s2/\CY cx2 w fr2 vs) (h:J P G X H (.code c fr2 s2 e Cp s')):J P G X H (.code c fr s e Cp s')
 | aiT {c:Code} {fr fr2 Cp:List AV} {s s2 s':AS} {e:AX} (hw:∀cx w vs,St G cx w s->CY cx w fr vs->∃cx2,Ext cx w cx2 w/\St G cx2 w s2/\CY cx2 w fr2 vs) (h:J P G X H (.loop c fr2 s2 e Cp s')):J P G X H (.loop c fr s e Cp s')
 | scope {c:Code} {fr fr2 Cp:List AV} {s s2 s':AS} {e:AX} (h:J P G X H (.code c fr s e Cp s')) (he:∀v,e≠.JK v) (hs:∀cx w c' w' vs,Ext cx w c' w'->St G cx w s->St G c' w' s'->CY c' w' Cp vs->∃c2,Ext cx w c2 w'/\St G c2 w' s2/\CY c2 w' fr2 vs):J P G X H (.code c fr s e fr2 s2)
 | ajQ {f g:FuncId} {args YK:List AV} {k:CR->Option CR} {s s':AS} {r r':CR} (hh:H f args=some (g,YK,k)) (h:J P G X H (.call g YK s r s')) (hk:k r=some r'):J P G X H (.call f args s r' s')
 | sem {c:Code} {fr Cp:List AV} {s s':AS} {e:AX} (h:P.follows .mixedOrders=true->Sound P G (.code c fr s e Cp s')):J P G X H (.code c fr s e Cp s')
def N9{ops:Array Oper}{fr:List AV}{o:Oper}{c:Cx}{w:World}{tmps:Array Value}(h:∀j want,o.guard=some (j,want)->∀d,(ops[j]?).bind (·.dst)=some d->∃M,CY c w M tmps.toList/\M[d]?=fr[d]?):CG ops fr o=Region.wanted o (yielded ops tmps):=by
 unfold CG Region.wanted;cases hg:o.guard with
 | none=>rfl
 | some p =>
   obtain⟨j,want⟩:=p;simp only;unfold yielded;cases hd:(ops[j]?).bind (·.dst) with
   | none=>simp
   | some d =>
     obtain⟨M,hM,he⟩:=h j want hg d hd;simp only[Option.bind_some];rw[<- he];cases hm:M[d]? with
     | none =>
       have hl:=hM.len;have h1:=List.getElem?_eq_none_iff.1 hm;have h2:tmps[d]?=none:=Array.getElem?_eq_none (by rw[<- Array.length_toList];omega);simp[h2]
     | some b =>
       obtain⟨u,hu,hr⟩:=hM.get hm;rw[Array.getElem?_toList] at hu;rw[hu];cases hr with
       | sc hs=>cases u<;>simp
       | any hs=>cases u<;>first | (simp[XC] at hs;done) | simp
       | _=>simp
def xW(tmps:Array Value):ResultVar->Sem Value
 | .tmp t=>pure (tmps.getD t undef)
 | .cell a t=>do loadVar t (<- asAddr (tmps.getD a undef))
def Uu(fn:Func)(tmps:Array Value):results fn tmps=(do
 let vs <- fn.results.mapM (xW tmps)
 pure (if h:vs.size=1 then vs[0] else .tuple vs)):=by
 unfold results;congr 2
def jE{P:Program}{G:Bc}{c:Cx}{w:World}{s:AS}{fr:List AV}{tmps:Array Value}(hs:St G c w s)(hf:CY c w fr tmps.toList){r:ResultVar}{v:AV}(h:UY P s fr r=some v) :
   ∃u,(xW tmps r).run P w=.ok u w/\Rp c w v u:=by
 have ht:∀t,Rp c w (fr.getD t (.sc undef)) (tmps.getD t undef):=λt=>Gm (G:=G) (s:=s) (a:=⟨tmps,[]⟩) (x:=.tmp t) hs hf rfl;cases r with
 | tmp t=>simp only[UY,Option.some.injEq] at h;subst h;exact⟨_,rfl,ht t⟩
 | cell t ty =>
   obtain⟨u,h1,h2⟩:=jA hs h (ht t);refine⟨u,?_,h2⟩;have hr:=ht t;simp only[Instr.loadAt,Sem.run_bind] at h1;simp only[xW,Sem.run_bind];generalize tmps.getD t undef=x at hr h1;simp only[UY] at h;unfold K8 at h;split at h;rename_i OX;rw[OX] at hr;cases hr;simpa[asAddr,Instr.sureAddr] using h1
   rename_i OX;rw[OX] at hr;cases hr;simpa[asAddr,Instr.sureAddr] using h1
   cases h
def jF{P:Program}{G:Bc}{c:Cx}{w:World}{s:AS}{fr:List AV}{tmps:Array Value}(hs:St G c w s)(hf:CY c w fr tmps.toList)(rs:List ResultVar){vs:List AV}(h:P9 P s fr rs=some vs) :
   ∃us,(rs.mapM (xW tmps)).run P w=.ok us w/\CY c w vs us:=by
 induction rs generalizing vs with
 | nil=>simp[P9] at h;subst h;exact⟨[],rfl,.nil⟩
 | cons r rs ih =>
   simp only[P9] at h;split at h;rename_i a as h1 h2;cases h;obtain⟨u,hu,hr⟩:=jE hs hf h1;obtain⟨us,hus,hrs⟩:=ih h2;refine⟨u::us,?_,.cons hr hrs⟩;rw[List.mapM_cons];simp only[Sem.run_bind,hu,Result.andThen_ok,hus,Sem.run_pure];cases h
def WN{P:Program}{G:Bc}{c:Cx}{w:World}{s:AS}{fr:List AV}{tmps:Array Value}{fn:Func}{v:AV}(hs:St G c w s)(hf:CY c w fr tmps.toList)(h:JO P s fn fr=some v):∃u,(results fn tmps).run P w=.ok u w/\Rp c w v u:=by
 unfold JO at h;cases hl:P9 P s fr fn.results.toList with
 | none=>rw[hl] at h;cases h
 | some as =>
   rw[hl] at h;obtain⟨us,hus,hrs⟩:=jF hs hf _ hl;have hlen:=hrs.len
   have Vf:(results fn tmps).run P w=.ok (if h:us.toArray.size=1 then us.toArray[0] else .tuple us.toArray) w:=by
     rw[Uu,Array.mapM_eq_mapM_toList];simp only[Sem.run_bind,Sem.run_map,hus,Result.andThen_ok,Sem.run_pure]
   rw[Vf];split at h;rename_i a OX;cases OX;cases h;cases hrs with
   | cons h1 t=>cases t;exact⟨_,rfl,h1⟩
   rename_i as' KE OX;cases OX;cases h
   have:¬us.toArray.size=1:=by
     intro h1;simp at h1;obtain⟨a,ha⟩:=List.length_eq_one_iff.1 (hlen.symm.trans h1);exact KE a ha
   rw[dif_neg this];exact⟨_,rfl,.C6 hrs⟩;rename_i OX;cases OX
end AI
namespace AI
open Go Go.RowKit
def jN(L:Nat->Bool):Nat->Nat
 | 0=>0
 | n+1=>jN L n+if L n then 0 else 1
def jP{L:Nat->Bool}:∀(n:Nat),jN L n=0->∀i,i < n->L i=true:=by
 intro n
 induction n with
 | zero=>intro _ i hi;omega
 | succ n ih =>
   intro h i hi;simp only[jN] at h;by_cases hn:i=n;subst hn;by_cases hL:L i=true;exact hL;simp[hL] at h;exact ih (by omega) i (by omega)
def r9{L M:Nat->Bool}{i:Nat}(h0:L i=false)(h1:M i=true)(KE:∀j,j≠i->M j=L j):∀(n:Nat),(i < n->jN L n=jN M n+1)/\(n<=i->jN L n=jN M n):=by
 intro n
 induction n with
 | zero=>exact⟨λh=>by omega,λ_=>rfl⟩
 | succ n ih =>
   refine⟨λh=>?_,λh=>?_⟩;simp only[jN];by_cases hn:n=i;subst hn;rw[ih.2 (Nat.le_refl _),h0,h1];simp;rw[ih.1 (by omega),KE n hn];omega;simp only[jN];rw[ih.2 (by omega),KE n (by omega)]
def rE{ops:Array Oper}{Nx:Nat->AS}(hq:∀i o,ops[i]?=some o->calm o.op=true->Nx (i+1)=Nx i){x:Nat}:∀(y:Nat),x<=y->y<=ops.size->(∀m,x<=m->m < y->¬Zb ops m)->Nx x=Nx y:=by
 intro y
 induction y with
 | zero=>intro h _ _;have:x=0:=by omega
         subst this;rfl
 | succ y ih =>
   intro h hn hl;by_cases e:x=y+1;subst e;rfl;rw[ih (by omega) (by omega) (λm h1 h2=>hl m h1 (by omega))];have ho:ops[y]?=some (ops[y]'(by omega)):=Array.getElem?_eq_getElem (by omega);have hy:=hl y (by omega) (by omega);refine(hq y _ ho ?_).symm;cases hqq:calm (ops[y]'(by omega)).op with
   | true=>rfl
   | false=>exact absurd ⟨_,ho,hqq⟩ hy
def mem_ready{ops:Array Oper}{L:Array Bool}(Qi:L.size=ops.size){i:Nat}(h:i∈Region.ready .any ops L):∃o,ops[i]?=some o/\L.getD i false=false/\Met (λj=>L.getD j false) o/\i < ops.size:=by
 unfold Region.ready at h;rw[List.mem_filter,List.mem_range,Bool.and_eq_true] at h;obtain⟨h1,h2,h3⟩:=h;have ho:ops[i]?=some (ops[i]'h1):=Array.getElem?_eq_getElem h1;refine⟨_,ho,?_,λe he hb=>?_,h1⟩;have:i < L.size:=by omega
 simpa[this] using h2
 rw[ho] at h3;simp only[Option.map_some,Option.getD_some] at h3;rw[Array.all_eq_true_iff_forall_mem] at h3;have:=h3 e he;rw[hb] at this;simpa using this
def lT{ops:Array Oper}{L:Array Bool}(Qi:L.size=ops.size){i:Nat}{o:Oper}(ho:ops[i]?=some o)(hL:L.getD i false=false)(hm:Met (λj=>L.getD j false) o):i∈Region.ready .any ops L:=by
 have h1:=(Array.getElem?_eq_some_iff.1 ho).1;unfold Region.ready;rw[List.mem_filter,List.mem_range,Bool.and_eq_true];refine⟨h1,?_,?_⟩;have:i < L.size:=by omega
 simpa[this] using hL
 rw[ho];simp only[Option.map_some,Option.getD_some];rw[Array.all_eq_true_iff_forall_mem];intro e he;by_cases hb:Region.binds .any e=true;have:=hm e he hb;rw[hb];simpa using this
 simp[hb]
section
variable {P:Program} {G:Bc} {ops:Array Oper} {f0:List AV} {vals:Nat->AV} {Nx:Nat->AS}
structure Inv(G:Bc)(ops:Array Oper)(f0:List AV)(vals:Nat->AV)(Nx:Nat->AS)(nV:Cx)(w0:World)(nh:Nat)(L:Array Bool)(a:Act)(w:World):Prop where
 size:L.size=ops.size
 closed:N7 ops.toList (λj=>L.getD j false)
 st:∃c k,k<=ops.size/\(∀l,Zb ops l->(L.getD l false=true↔l < k))/\Ext nV w0 c w/\St G c w (Nx k)/\CY c w (IH f0 (Cm ops) vals (λj=>L.getD j false) ops.size) a.tmps.toList /\
   ∀j y,ops[j]?=some y->BX y.op=true->L.getD j false=false->rk ops j < nh->c.DA[nV.DA.length+rk ops j]?=some none
 defers:a.defers=[]
def looks{x y:Oper}{t:Nat}(hx:x.dst=some t)(hy:t∈y.looksAt ops):Qb ops x y=true:=by
 simp[Qb,hx,hy]
def akw{x y:Oper}{t:Nat}(hx:t∈x.looksAt ops)(hy:y.dst=some t):Qb ops x y=true:=by
 simp[Qb,hx,hy]
def anv{x y:Oper}{t:Nat}(hx:x.dst=some t)(hy:y.dst=some t):Qb ops x y=true:=by
 simp[Qb,hx,hy]
def tL{x y:Oper}(hx:calm x.op=false)(hy:calm y.op=false):Qb ops x y=true:=by
 simp[Qb,hx,hy]
def Ci{i:Nat}{o:Oper}(h:ops[i]?=some o):ops.toList[i]?=some o:=by rw[Array.getElem?_toList];exact h
def VZ{L:Nat->Bool}(H3:MV ops=true)(hc:N7 ops.toList L){i j:Nat}{x y:Oper}(hx:ops[i]?=some x)(hy:ops[j]?=some y)(hm:Met L y)(GM:i < j)(Ii:Qb ops x y=true):L i=true :=
 Yy hc (Ci hy) hm (cC H3 hx hy GM Ii)
def Q1{L:Nat->Bool}(H3:MV ops=true)(hc:N7 ops.toList L){i j:Nat}{x y:Oper}(hx:ops[i]?=some x)(hy:ops[j]?=some y)(hL:L i=false)(GM:i < j)(Ii:Qb ops x y=true):L j=false:=by
 cases h:L j with
 | false=>rfl
 | true =>
   have:=Yy hc (Ci hy) (hc j y (Ci hy) h) (cC H3 hx hy GM Ii);rw[hL] at this;cases this
def oR{i t:Nat}(h:Cm ops i=some t):∃o,ops[i]?=some o/\o.dst=some t:=by
 unfold Cm at h;cases ho:ops[i]? with
 | none=>rw[ho] at h;cases h
 | some o=>rw[ho] at h;exact⟨o,rfl,by simpa using h⟩
def S9{L:Nat->Bool}(H3:MV ops=true)(hc:N7 ops.toList L){i:Nat}{o:Oper}(ho:ops[i]?=some o)(hL:L i=false)(hm:Met L o){t:Nat}(ht:t∈o.looksAt ops) :
   (IH f0 (Cm ops) vals L ops.size)[t]?=(IH f0 (Cm ops) vals (λ_=>true) i)[t]?:=by
 have hi:=(Array.getElem?_eq_some_iff.1 ho).1;rw[sJ (j:=i) ops.size (by omega)];refine YI i (λj hj hd=>?_);obtain⟨x,hx,hxd⟩:=oR hd;exact VZ H3 hc hx ho hm hj (looks hxd ht);intro j hj _ hd;by_cases e:j=i;subst e;exact hL;obtain⟨y,hy,hyd⟩:=oR hd;exact Q1 H3 hc ho hy hL (by omega) (akw ht hyd)
def sK{L M:Nat->Bool}(H3:MV ops=true)(hc:N7 ops.toList L){i:Nat}{o:Oper}(ho:ops[i]?=some o)(hL:L i=false)(hM:M i=true)(KE:∀j,j≠i->M j=L j) :
   IH f0 (Cm ops) vals M ops.size=JE (IH f0 (Cm ops) vals L ops.size) o.dst (vals i):=by
 have hi:=(Array.getElem?_eq_some_iff.1 ho).1;have hdi:Cm ops i=o.dst:=by unfold Cm;rw[ho];rfl
 apply List.ext_getElem?;intro t;by_cases hd:o.dst=some t;rw[sJ (j:=i+1) ops.size (by omega)];simp only[IH,hM,if_true,hdi,hd];rw[O6,O6,XI,XI];intro j hj _ hdj;obtain⟨y,hy,hyd⟩:=oR hdj;rw[KE j (by omega)];exact Q1 H3 hc ho hy hL (by omega) (anv hd hyd);rw[Sl hd];refine YI ops.size (λj _ hdj=>KE j (λe=>hd ?_));rw[<- hdi,<- e];exact hdj
def Ext.ajz{c:Cx}{w:World}{c':Cx}{w':World}(h:Ext c w c' w'){id:Nat}{y:Option Nat}(e:c.DA[id]?=some y):c'.DA[id]?=some y:=by
 obtain⟨t,ht⟩:=h.DA;rw[<- ht,List.getElem?_append_left (List.getElem?_eq_some_iff.1 e).1];exact e
def aaM{nh:Nat}(H3:MV ops=true)
   (hl:∀i o,ops[i]?=some o->calm o.op=false->Sound P G (.op ops o (IH f0 (Cm ops) vals (λ_=>true) i) (Nx i) (.ret (vals i)) (Nx (i+1))))
   (hq:∀i o,ops[i]?=some o->quiet o.op=true->Nx (i+1)=Nx i/\((CG ops (IH f0 (Cm ops) vals (λ_=>true) i) o=false/\vals i=.sc undef)\/(CG ops (IH f0 (Cm ops) vals (λ_=>true) i) o=true/\∀k,k<=ops.size->Win ops i k->QW P G (IH f0 (Cm ops) vals (λ_=>true) i) (Nx k) o=some (.val (vals i) (Nx k)))))
   (nV:Cx) (w0:World)
   (ha:∀i o e,ops[i]?=some o->o.op=.alloc e->Nx (i+1)=Nx i/\((CG ops (IH f0 (Cm ops) vals (λ_=>true) i) o=false/\vals i=.sc undef)\/(CG ops (IH f0 (Cm ops) vals (λ_=>true) i) o=true/\∃z,MP P e=some z/\rk ops i < nh/\vals i=.ptr (nV.DA.length+rk ops i) 0/\∀k,k<=ops.size->Win ops i k->(Nx k).get (nV.DA.length+rk ops i)=some (.cells (cellsOf z)))))
   (Q:Exit->Act->World->Prop) (hQ:∀e' a' w',TC G nV w0 .normal (IH f0 (Cm ops) vals (λ_=>true) ops.size) (Nx ops.size) e' a' w'->Q e' a' w') :
   ∀(Lr:Nat) (L:Array Bool) (a:Act) (w:World),Inv G ops f0 vals Nx nV w0 nh L a w->jN (λj=>L.getD j false) ops.size=Lr->wpAny P .any ops Q Lr L a w:=by
 have hqs:∀i o,ops[i]?=some o->calm o.op=true->Nx (i+1)=Nx i:=λi o h1 h2=>by
   rcases Yt h2 with h2 | ⟨e,h2⟩
   exact(hq i o h1 h2).1;exact(ha i o e h1 h2).1
 have fin:∀(L:Array Bool) (a:Act) (w:World),Inv G ops f0 vals Nx nV w0 nh L a w->(∀i,i < ops.size->L.getD i false=true)->Q .normal a w:=by
   intro L a w hI HV;obtain⟨c,k,hk,hlk,hx,Gz,Q7,_⟩:=hI.st;have aqa:Nx k=Nx ops.size:=rE hqs ops.size hk (Nat.le_refl _) (λm h1 h2 hm=>by have:=(hlk m hm).1 (HV m h2);omega);rw[aqa] at Gz;refine hQ _ _ _ ⟨c,hx,Gz,hI.defers,rfl,?_⟩
   have:IH f0 (Cm ops) vals (λj=>L.getD j false) ops.size=IH f0 (Cm ops) vals (λ_=>true) ops.size:=by
     apply List.ext_getElem?;intro t;exact YI ops.size (λi hi _=>HV i hi)
   rw[<- this];exact Q7
 intro Lr
 induction Lr with
 | zero =>
   intro L a w hI hc;have HV:=jP ops.size hc;refine⟨?_,fin L a w hI HV⟩;apply List.eq_nil_iff_forall_not_mem.2;intro i hi;obtain⟨o,ho,h1,_,GM⟩:=mem_ready hI.size hi;have:=HV i GM;rw[h1] at this;cases this
 | succ Lr ih =>
   intro L a w hI apM;refine⟨λfI=>fin L a w hI (λi=>?_),λi hi=>?_⟩
   . induction i using Nat.strongRecOn with
     | _ i ihi =>
       intro GM;cases iP:L.getD i false with
       | true=>rfl
       | false =>
         exfalso;have ho:ops[i]?=some (ops[i]'GM):=Array.getElem?_eq_getElem GM
         have:=lT hI.size ho iP (λe he hb=>by
           have h1:=k9 H3 ho he hb;exact ihi e.on h1 (by omega))
         rw[fI] at this;cases this
   . obtain⟨o,ho,iP,YX,GM⟩:=mem_ready hI.size hi
     obtain⟨c,k,hk,hlk,hx,Gz,Q7,pJ⟩:=hI.st
     have hMi:(L.setIfInBounds i true).getD i false=true:=by
       have:i < L.size:=by rw[hI.size];exact GM
       simp[this]
     have sR:∀j,j≠i->(L.setIfInBounds i true).getD j false=L.getD j false:=by
       intro j hj;simp only[Array.getD_eq_getD_getElem?];rw[Array.getElem?_setIfInBounds_ne (λe=>hj e.symm)]
     have hle:∀j,L.getD j false=true->(L.setIfInBounds i true).getD j false=true:=by
       intro j hj;by_cases e:j=i;subst e;exact hMi;rw[sR j e];exact hj
     have YR:N7 ops.toList (λj=>(L.setIfInBounds i true).getD j false):=by
       intro j y hy hj e he hb;by_cases ej:j=i;subst ej;rw[Ci ho] at hy;cases hy;exact hle _ (YX e he hb);have wW:L.getD j false=true:=by rw[<- sR j ej];exact hj
       exact hle _ (hI.closed j y hy wW e he hb)
     have abx:jN (λj=>(L.setIfInBounds i true).getD j false) ops.size=Lr:=by
       have:=(r9 (L:=λj=>L.getD j false) (M:=λj=>(L.setIfInBounds i true).getD j false) iP hMi sR ops.size).1 GM;omega
     have ajV:=sK (f0:=f0) (vals:=vals) (L:=λj=>L.getD j false) (M:=λj=>(L.setIfInBounds i true).getD j false) H3 hI.closed ho iP hMi sR
     have aiJ:∀(k':Nat) (u:Value) (w':World) (c':Cx),k'<=ops.size->(∀l,Zb ops l->((L.setIfInBounds i true).getD l false=true↔l < k'))->Ext nV w0 c' w'->Mon c w c' w' ->
         (∀j y,ops[j]?=some y->BX y.op=true->(L.setIfInBounds i true).getD j false=false->rk ops j < nh->c'.DA[nV.DA.length+rk ops j]?=some none)->St G c' w' (Nx k')->Rp c' w' (vals i) u->wpAny P .any ops Q Lr (L.setIfInBounds i true) (a.put o.dst u) w':=by
       intro k' u w' c' hk' fH Y0 nY hh' PJ hu;refine ih _ _ _ ⟨by simp[hI.size],YR,⟨c',k',hk',fH,Y0,PJ,?_,hh'⟩,by cases o.dst<;>exact hI.defers⟩ abx
       rw[ajV];exact S4 (Q7.DD nY) hu
     have step:∀(k':Nat) (u:Value) (w':World) (c':Cx),k'<=ops.size->(∀l,Zb ops l->((L.setIfInBounds i true).getD l false=true↔l < k'))->Ext c w c' w'->St G c' w' (Nx k')->Rp c' w' (vals i) u->wpAny P .any ops Q Lr (L.setIfInBounds i true) (a.put o.dst u) w':=by
       intro k' u w' c' hk' fH Y0 PJ hu;refine aiJ k' u w' c' hk' fH (hx.trans Y0) Y0.mon (λj y hy fP hj hjn=>?_) PJ hu;have hji:j≠i:=λe=>by subst e;rw[hMi] at hj;cases hj
       rw[sR j hji] at hj;exact Y0.ajz (pJ j y hy fP hj hjn)
     have kG:∀x∈o.op.operands,Z8 G c w (IH f0 (Cm ops) vals (λ_=>true) i) a.eval x:=by
       intro x hxo v hv;cases x with
       | tmp t =>
         have abD:t∈o.looksAt ops:=by
           unfold Oper.looksAt;rw[List.mem_append];left;rw[List.mem_filterMap];exact⟨.tmp t,Array.mem_toList_iff.2 hxo,rfl⟩
         have he:=S9 (f0:=f0) (vals:=vals) H3 hI.closed ho iP YX abD
         have:Bg G (IH f0 (Cm ops) vals (λj=>L.getD j false) ops.size) (.tmp t)=some v:=by
           rw[<- hv];simp only[Bg,List.getD_eq_getElem?_getD,he]
         exact Gm Gz Q7 this
       | const z=>exact Gm (fr:=IH f0 (Cm ops) vals (λj=>L.getD j false) ops.size) Gz Q7 hv
       | global g=>exact Gm (fr:=IH f0 (Cm ops) vals (λj=>L.getD j false) ops.size) Gz Q7 hv
       | func f=>exact Gm (fr:=IH f0 (Cm ops) vals (λj=>L.getD j false) ops.size) Gz Q7 hv
     have WZ:CG ops (IH f0 (Cm ops) vals (λ_=>true) i) o=Region.wanted o (yielded ops a.tmps):=by
       refine N9 (c:=c) (w:=w) (λj want hg d hd=>⟨_,Q7,?_⟩);refine S9 H3 hI.closed ho iP YX ?_;unfold Oper.looksAt;rw[List.mem_append];right;rw[hg];simp[hd]
     have eZ:OV P ops o (wpAny P .any ops Q Lr (L.setIfInBounds i true)) Q a w->wpOp P ops Q i (wpAny P .any ops Q Lr (L.setIfInBounds i true)) a w:=by
       intro h;unfold wpOp;rw[ho];unfold OV at h;simp only;split;rename_i hw;rw[if_pos hw] at h;exact .inl h;rename_i hw;rw[if_neg hw] at h;exact h
     refine eZ ?_;cases hqo:calm o.op with
     | false =>
       have hki:Nx k=Nx i:=by
         rcases Nat.le_total k i with ajP | ajP
         exact rE hqs i ajP (by omega) (λm h1 h2 hm=>by
           obtain⟨y,hy,tB⟩:=hm;have:=VZ H3 hI.closed hy ho YX h2 (tL tB hqo);have:=(hlk m ⟨y,hy,tB⟩).1 this;omega)
         exact(rE hqs k ajP hk (λm h1 h2 hm=>by
           obtain⟨y,hy,tB⟩:=hm;have hLm:=(hlk m ⟨y,hy,tB⟩).2 h2;by_cases e:m=i;subst e;rw[iP] at hLm;cases hLm;have:=Q1 H3 hI.closed ho hy iP (by omega) (tL hqo tB);rw[this] at hLm;cases hLm)).symm
       rw[hki] at Gz;refine hl i o ho hqo c w a _ _ Gz kG WZ ?_;intro u w' c' Y0 PJ hu;refine step (i+1) u w' c' (by omega) (λl hl'=>?_) Y0 PJ hu;by_cases e:l=i;subst e;rw[hMi];simp;rw[sR l e,hlk l hl'];obtain⟨y,hy,tB⟩:=hl';constructor;intro abE;have hLl:=(hlk l ⟨y,hy,tB⟩).2 abE;rcases Nat.lt_or_ge l i with h1 | h1
       omega;have:=Q1 H3 hI.closed ho hy iP (by omega) (tL hqo tB);rw[this] at hLl;cases hLl;intro abE;have:=VZ H3 hI.closed hy ho YX (by omega) (tL tB hqo);exact(hlk l ⟨y,hy,tB⟩).1 this
     | true =>
       have fH:∀l,Zb ops l->((L.setIfInBounds i true).getD l false=true↔l < k):=by
         intro l hl'
         have KE:l≠i:=by
           intro e;subst e;obtain⟨y,hy,tB⟩:=hl';rw[ho] at hy;cases hy;rw[hqo] at tB;cases tB
         rw[sR l KE];exact hlk l hl'
       have aK:Win ops i k:=by
         refine⟨λl hl' hd=>?_,λl hl' hd=>?_⟩;exact(hlk l hl').1 (Yy hI.closed (Ci ho) YX hd);rcases Nat.lt_or_ge l k with h1 | h1
         exfalso;have hLl:=(hlk l hl').2 h1;obtain⟨y,hy,tB⟩:=hl';have:=Yy hI.closed (Ci hy) (hI.closed l y (Ci hy) hLl) hd;rw[iP] at this;cases this;exact h1
       unfold OV;rcases Yt hqo with hqo | ⟨e,hoe⟩
       obtain⟨_,TL⟩:=hq i o ho hqo;rcases TL with ⟨hw,hv⟩ | ⟨hw,hv⟩
       rw[<- WZ,hw];simp only[Bool.false_eq_true,if_false];exact step k undef w c hk fH (Ext.refl c w) Gz (by rw[hv];exact .sc rfl);rw[<- WZ,hw];simp only[if_true];have amm:=dZ Gz kG (λ_=>rfl) (hv k hk aK);obtain⟨u,w',c',hr,Y0,PJ,hu⟩:=amm;unfold Oper.wp;rcases hr with hr | ⟨hr,rfl⟩
       rw[hr];exact step k u w' c' hk fH Y0 PJ hu;rw[hr];exact step k undef w' c' hk fH Y0 PJ hu;obtain⟨_,TL⟩:=ha i o e ho hoe;rcases TL with ⟨hw,hv⟩ | ⟨hw,z,hz,hrk,hv,amn⟩
       rw[<- WZ,hw];simp only[Bool.false_eq_true,if_false];exact step k undef w c hk fH (Ext.refl c w) Gz (by rw[hv];exact .sc rfl);rw[<- WZ,hw];simp only[if_true];have hia:BX o.op=true:=by rw[hoe];rfl
       obtain⟨u,w',c',hr,nY,PJ,hu,apQ,ap0⟩:=oE (ρ:=a.eval) Gz hoe hz (pJ i o ho hia iP hrk) (amn k hk aK);unfold Oper.wp;rw[hr];refine aiJ k u w' c' hk fH (apQ nV w0 hx (by omega)) nY (λj y hy fP hj hjn=>?_) PJ (by rw[hv];exact hu);have hji:j≠i:=λe=>by subst e;rw[hMi] at hj;cases hj
       rw[sR j hji] at hj;have KE:rk ops j≠rk ops i:=λe=>hji (ak2 hy ho fP hia e);rw[ap0 _ (by omega)];exact pJ j y hy fP hj hjn
end
end AI
namespace AI
open Go Go.RowKit
def gE{G:Bc}{c:Cx}{w:World}{s:AS}{fr:List AV}{a:Act}(hs:St G c w s)(hf:CY c w fr a.tmps.toList)(x:Operand):Z8 G c w fr a.eval x:=λ_ hv=>Gm hs hf hv
def QU{P:Program}{ops:Array Oper}{o:Oper}{i:Nat}{l:List Nat}{Q:Exit->Act->World->Prop}{a:Act}{w:World}(ho:ops[i]?=some o)(h:OV P ops o (wpOps P ops Q l) Q a w):wpOps P ops Q (i::l) a w:=by
 unfold wpOps;rw[ho];unfold OV at h;simp only;split;rename_i hw;rw[if_pos hw] at h;exact .inl h;rename_i hw;rw[if_neg hw] at h;exact h
def TC.Qq{G:Bc}{c:Cx}{w:World}{e:AX}{Cp:List AV}{s':AS}{e':Exit}{a':Act}{w':World}(h:TC G c w e Cp s' e' a' w')(he:e≠.normal):e'≠.normal:=by
 obtain⟨c',_,_,_,h4⟩:=h;cases e with
 | normal=>exact absurd rfl he
 | exit id=>intro h5;rw[h4.1] at h5;cases h5
 | ret=>intro h5;rw[h4.1] at h5;cases h5
 | JK v=>obtain⟨u,h5,_⟩:=h4;intro h6;rw[h5] at h6;cases h6
def VE{K:Act->World->Prop}{Q:Exit->Act->World->Prop}{e:Exit}{a:Act}{w:World}(he:e≠.normal)(h:Q e a w):Exit.then K Q e a w:=by
 cases e<;>first | exact absurd rfl he | exact h
structure ahU(P:Program)(G:Bc)(X:Xg)(H:TV):Prop where
 mixed:P.follows .mixedOrders=true
 ext:∀f args s r s',X f args s r s'->Sound P G (.call f args s r s')
 ajQ:∀f args g YK k,H f args=some (g,YK,k)->∀s r s' r',Sound P G (.call g YK s r s')->k r=some r'->Sound P G (.call f args s r' s')
def sound{P:Program}{G:Bc}{X:Xg}{H:TV}(hg:ahU P G X H){jd:Jd}(h:J P G X H jd):Sound P G jd:=by
 induction h with
 | sem h=>exact h hg.mixed
 | ZX hw _ ih=>intro cx w a Q hs hf hd hQ;obtain⟨c2,x,h1,h2⟩:=hw cx w _ hs hf;exact ih c2 w a Q h1 h2 hd (λe a w hp=>hQ e a w (hp.ext x))
 | aiT hw _ ih=>obtain⟨n,ih⟩:=ih;exact⟨n,λcx w a Q hs hf hd hQ=>by obtain⟨c2,x,h1,h2⟩:=hw cx w _ hs hf;exact ih c2 w a Q h1 h2 hd (λe a w hp=>hQ e a w (hp.ext x))⟩
 | qK _ _ hv ih =>
   intro cx w a K Q hs I6 iS hK;exact ih cx w a K Q hs I6 iS (λu w' c' x st hu=>hK u w' c' x st (hv _ _ _ hu))
 | gA _ _ hv ih =>
   intro cx w a K Q hs I6 iS hK;exact ih cx w a K Q hs I6 iS (λu w' c' x st hu=>hK u w' c' x (hv _ _ st) hu)
 | @scope c fr fr2 Cp s s2 s' e _ he hsc ih =>
   intro cx w a Q hs hf hd hQ;refine ih cx w a Q hs hf hd ?_;rintro e' a' w' ⟨c',hx,CX,Tc,h4⟩;cases e with
   | normal=>obtain⟨rfl,h5⟩:=h4;obtain⟨c2,x2,XW,f2⟩:=hsc cx w c' w' _ hx hs CX h5;exact hQ _ _ _ ⟨c2,x2,XW,Tc,rfl,f2⟩
   | exit id=>obtain⟨rfl,h5⟩:=h4;obtain⟨c2,x2,XW,f2⟩:=hsc cx w c' w' _ hx hs CX h5;exact hQ _ _ _ ⟨c2,x2,XW,Tc,rfl,f2⟩
   | ret=>obtain⟨rfl,h5⟩:=h4;obtain⟨c2,x2,XW,f2⟩:=hsc cx w c' w' _ hx hs CX h5;exact hQ _ _ _ ⟨c2,x2,XW,Tc,rfl,f2⟩
   | JK v=>exact absurd rfl (he v)
 | skip=>intro cx w a Q hs hf hd hQ;exact wp_skip (hQ _ _ _ ⟨cx,Ext.refl _ _,hs,hd,rfl,hf⟩)
 | exit=>intro cx w a Q hs hf hd hQ;exact wp_exit (hQ _ _ _ ⟨cx,Ext.refl _ _,hs,hd,rfl,hf⟩)
 | ret=>intro cx w a Q hs hf hd hQ;exact wp_ret (hQ _ _ _ ⟨cx,Ext.refl _ _,hs,hd,rfl,hf⟩)
 | seq _ _ pU ih2 =>
   intro cx w a Q hs hf hd hQ;refine wp_seq (pU cx w a _ hs hf hd ?_);rintro e' a' w' ⟨c',hx,CX,Tc,rfl,YS⟩;exact ih2 c' w' a' Q CX YS Tc (λe2 a2 w2 h2=>hQ e2 a2 w2 (h2.ext hx))
 | rB _ he pU =>
   intro cx w a Q hs hf hd hQ;refine wp_seq (pU cx w a _ hs hf hd ?_);intro e' a' w' hp;exact VE (hp.Qq he) (hQ _ _ _ hp)
 | @cond q x y t fr Cp s s' e hq _ ih =>
   intro cx w a Q hs hf hd hQ;have hr:=Gm hs hf hq
   have I6:a.eval q=.bool t:=by
     generalize a.eval q=v at hr;cases hr;rfl
   exact wp_cond I6 (ih cx w a Q hs hf hd hQ)
 | @block id c fr Cp s s' e _ ih =>
   intro cx w a Q hs hf hd hQ;refine wp_block (ih cx w a _ hs hf hd ?_);rintro e' a' w' ⟨c',hx,CX,Tc,h4⟩;cases e with
   | normal=>obtain⟨rfl,h5⟩:=h4;exact hQ _ _ _ ⟨c',hx,CX,Tc,rfl,h5⟩
   | exit RN =>
     obtain⟨rfl,h5⟩:=h4;show if RN=id then Q .normal a' w' else Q (.exit RN) a' w'
     by_cases hid:RN=id;rw[if_pos hid];refine hQ _ _ _ ⟨c',hx,CX,Tc,?_⟩;simp only[E7,hid,if_true];exact⟨trivial,h5⟩;rw[if_neg hid];refine hQ _ _ _ ⟨c',hx,CX,Tc,?_⟩;simp only[E7,hid,if_false];exact⟨trivial,h5⟩
   | ret=>obtain⟨rfl,h5⟩:=h4;exact hQ _ _ _ ⟨c',hx,CX,Tc,rfl,h5⟩
   | JK v=>obtain⟨u,rfl,h5⟩:=h4;exact hQ _ _ _ ⟨c',hx,CX,Tc,u,rfl,h5⟩
 | loop _ ih =>
   intro cx w a Q hs hf hd hQ;obtain⟨n,hn⟩:=ih;exact wp_loop_rounds n (hn cx w a Q hs hf hd hQ)
 | ait _ _ pU ih2 =>
   obtain⟨n,hn⟩:=ih2;refine⟨n+1,?_⟩;intro cx w a Q hs hf hd hQ;rw[rounds_succ];refine pU cx w a _ hs hf hd ?_;rintro e' a' w' ⟨c',hx,CX,Tc,rfl,YS⟩;exact hn c' w' a' Q CX YS Tc (λe2 a2 w2 h2=>hQ e2 a2 w2 (h2.ext hx))
 | tK _ he pU =>
   refine⟨1,?_⟩;intro cx w a Q hs hf hd hQ;rw[rounds_succ];refine pU cx w a _ hs hf hd ?_;intro e' a' w' hp;exact VE (hp.Qq he) (hQ _ _ _ hp)
 | region _ ih =>
   intro cx w a Q hs hf hd hQ;exact wp_region (ih cx w a Q hs hf hd hQ)
 | acu=>intro cx w a Q hs hf hd hQ;exact hQ _ _ _ ⟨cx,Ext.refl _ _,hs,hd,rfl,hf⟩
 | @tU ops i l o v fr Cp s s1 s' e ho _ _ pU ih2 =>
   intro cx w a Q hs hf hd hQ;refine QU ho (pU cx w a _ _ hs (λx _=>gE hs hf x) (N9 (c:=cx) (w:=w) (λ_ _ _ _ _=>⟨fr,hf,rfl⟩)) ?_);intro u w' c' hx CX hu;exact ih2 c' w' (a.put o.dst u) Q CX (S4 (hf.mono hx) hu) (by cases o.dst<;>exact hd) (λe2 a2 w2 h2=>hQ e2 a2 w2 (h2.ext hx))
 | @acv ops i l o v fr s s1 ho _ pU =>
   intro cx w a Q hs hf hd hQ;refine QU ho (pU cx w a _ _ hs (λx _=>gE hs hf x) (N9 (c:=cx) (w:=w) (λ_ _ _ _ _=>⟨fr,hf,rfl⟩)) ?_);intro u w' c' hx CX hu;exact hQ _ _ _ ⟨c',hx,CX,hd,u,rfl,hu⟩
 | @Ot ops o fr s s' v hw h =>
   intro cx w a K Q hs I6 iS hK;unfold OV;rw[<- iS,hw];simp only[if_true];obtain⟨u,w',c',hr,hx,CX,hu⟩:=dZ hs I6 (λ_=>rfl) h;unfold Oper.wp;rcases hr with hr | ⟨hr,rfl⟩
   rw[hr];exact hK u w' c' hx CX hu;rw[hr];exact hK undef w' c' hx CX hu
 | @acs ops o fr s s' cl x y t tx a b v hw ho Ii hxs D7 ha hb h =>
   intro cx w ac K Q hs I6 iS hK;unfold OV;rw[<- iS,hw];simp only[if_true];have e1:cl.args=#[x,y]:=by apply Array.ext';rw[hxs]
   have e2:cl.argTypes=#[t,tx]:=by apply Array.ext';rw[D7]
   have kF:∀z∈[x,y],z∈o.op.operands:=λz hz=>by rw[ho];simp only[Op.operands,Call.operands,e1,Array.mem_append];exact .inr (by simpa using hz)
   obtain⟨u,w',c',hr,hx,CX,hu⟩:=h cx w _ _ o.type hs (I6 x (kF x (by simp)) a ha) (I6 y (kF y (by simp)) b hb);unfold Oper.wp
   have bO:(execOp ac.eval o).run P w=.ok (.value u) w':=by
     simp[execOp,ho,resolve,Ii,e1,e2,invoke,builtin,hr]
   rw[bO];exact hK u w' c' hx CX hu
 | @qJ ops o fr s hw =>
   intro cx w a K Q hs I6 iS hK;unfold OV;rw[<- iS,hw];simp only[Bool.false_eq_true,if_false];exact hK undef w cx (Ext.refl _ _) hs (.sc rfl)
 | @SJ ops o fr s s' f args r hw h _ ih =>
   intro cx w a K Q hs I6 iS hK;unfold OV;rw[<- iS,hw];simp only[if_true];obtain⟨vs,hr,II⟩:=dZ hs I6 (λ_=>rfl) h;unfold Oper.wp;rw[hr];refine(ih cx w vs hs II).mono ?_;rintro e w' ⟨c',hx,CX,h4⟩;cases r with
   | ret v=>obtain⟨u,rfl,hu⟩:=h4;exact hK u w' c' hx CX hu
   | JK v=>obtain⟨u,rfl,hu⟩:=h4;exact hK u w' c' hx CX hu
 | @aix ops o fr s v hw h =>
   intro cx w a K Q hs I6 iS hK;unfold OV;rw[<- iS,hw];simp only[if_true];obtain⟨u,hr,hu⟩:=dZ hs I6 (λ_=>rfl) h;unfold Oper.wp;rw[hr];exact hK u w cx (Ext.refl _ _) hs hu
 | @draw id ops f0 s0 rs vals Nx h0 H3 hl hq ha ihl =>
   intro cx w a Q hs hf hd hQ;refine wp_region_any hg.mixed ?_;obtain⟨x,st⟩:=hs.same (jK w);obtain⟨c2,x2,XW,Ub⟩:=st.holds rs;rw[<- h0] at XW;rw[hs.len] at ha;refine aaM (nh:=rs.length) H3 ihl hq cx w ha Q hQ ops.size _ a _ ⟨by simp,?_,⟨c2,0,Nat.zero_le _,?_,x.trans x2,XW,?_,?_⟩,hd⟩ ?_;intro i o ho hL;exfalso;simp only[Array.getD_eq_getD_getElem?,Array.getElem?_replicate] at hL;split at hL<;>simp at hL
   intro l _;simp only[Array.getD_eq_getD_getElem?,Array.getElem?_replicate];split<;>simp
   . have:IH f0 (Cm ops) vals (λj=>(Array.replicate ops.size false).getD j false) ops.size=f0:=by
       have key:∀n,IH f0 (Cm ops) vals (λj=>(Array.replicate ops.size false).getD j false) n=f0:=by
         intro n
         induction n with
         | zero=>rfl
         | succ n ih =>
           simp only[IH,ih];rw[if_neg];simp only[Array.getD_eq_getD_getElem?,Array.getElem?_replicate];split<;>simp
       exact key _
     rw[this];exact hf.mono (x.trans x2)
   intro j y _ _ _ hj;rw[Ub,List.getElem?_append_right (by omega)];simp[List.getElem?_replicate];omega
   . have key:∀n,jN (λj=>(Array.replicate ops.size false).getD j false) n=n:=by
       intro n
       induction n with
       | zero=>rfl
       | succ n ih =>
         simp only[jN,ih]
         have:(Array.replicate ops.size false).getD n false=false:=by
           simp only[Array.getD_eq_getD_getElem?,Array.getElem?_replicate];split<;>simp
         simp only[this];simp
     exact key _
 | @body f fn c args Cp s s' s2 e v hf hb _ he hr hk ih =>
   intro cx w vs hs II;have hl:=II.len;refine calls_of_wp hf hb (ih cx w _ _ hs ?_ rfl ?_);simp only[Array.toList_append,Array.toList_replicate];rw[List.size_toArray,hl];exact II.append (CY.replicate (.sc rfl) _);rintro e' a' w' ⟨c',hx,CX,Tc,h4⟩
   have bQ:St G c' w' s2:=by
     rcases hk with rfl | rfl
     exact CX.cut _;exact CX
   rcases he with rfl | rfl
   obtain⟨rfl,h5⟩:=h4;obtain⟨u,h6,h7⟩:=WN CX h5 hr;exact⟨Tc,u,h6,c',hx,bQ,u,rfl,h7⟩;obtain⟨rfl,h5⟩:=h4;obtain⟨u,h6,h7⟩:=WN CX h5 hr;exact⟨Tc,u,h6,c',hx,bQ,u,rfl,h7⟩
 | @ah0 f fn c args Cp s s' v hf hb _ ih =>
   intro cx w vs hs II;have hl:=II.len;refine calls_of_wp hf hb (ih cx w _ _ hs ?_ rfl ?_);simp only[Array.toList_append,Array.toList_replicate];rw[List.size_toArray,hl];exact II.append (CY.replicate (.sc rfl) _);rintro e' a' w' ⟨c',hx,CX,Tc,u,rfl,h5⟩;exact⟨Tc,c',hx,CX.cut _,u,rfl,h5⟩
 | ext h=>exact hg.ext _ _ _ _ _ h
 | ajQ hh _ hk ih=>exact hg.ajQ _ _ _ _ _ hh _ _ _ _ ih hk
end AI
namespace AI
open Go Go.RowKit
def aeS:Value->Value->Bool
 | .int k a,.int k' b=>k == k'&&a == b
 | .bool a,.bool b=>a == b
 | .string a,.string b=>a.data.toList == b.data.toList
 | .nilIface,.nilIface=>true
 | .nilFunc,.nilFunc=>true
 | .pointer none,.pointer none=>true
 | .map none,.map none=>true
 | .tuple a,.tuple b=>a.size == 0&&b.size == 0
 | _,_=>false
def rZ{a b:Value}(h:aeS a b=true):a=b:=by
 unfold aeS at h;split at h;simp at h;rw[h.1,h.2];simp at h;rw[h];simp only[beq_iff_eq] at h;rename_i x y;have:x=y:=ByteArray.ext (Array.ext' h);rw[this];rfl;rfl;rfl;rfl;rename_i x y;simp at h;rw[h.1,h.2];cases h
mutual
def T1:AV->AV->Bool
 | .sc a,.sc b=>aeS a b
 | .agg a,.agg b=>Yp a b
 | .C6 a,.C6 b=>Yp a b
 | .sl o n a,.sl p m b=>decide (o=p)&&n == m&&Yp a b
 | .Oo a b c,.Oo x y z=>a == x&&b == y&&c == z
 | .el a,.el b=>Yp a b
 | .ptr a b,.ptr x y=>a == x&&b == y
 | .fn f a b,.fn g x y=>decide (f=g)&&Yp a x&&Yp b y
 | .Fv t a,.Fv u b=>t == u&&T1 a b
 | .mp a,.mp b=>a == b
 | _,_=>false
def Yp:List AV->List AV->Bool
 | [],[]=>true
 | a::as,b::bs=>T1 a b&&Yp as bs
 | _,_=>false
end
mutual
def rY:∀{a b:AV},T1 a b=true->a=b
 | .sc a,b,h=>by cases b<;>simp[T1] at h;rw[rZ h]
 | .agg a,b,h=>by cases b<;>simp[T1] at h;rw[O7 h]
 | .C6 a,b,h=>by cases b<;>simp[T1] at h;rw[O7 h]
 | .sl o n a,b,h=>by cases b<;>simp[T1] at h;rw[h.1.1,h.1.2,O7 h.2]
 | .Oo _ _ _,b,h=>by cases b<;>simp[T1] at h;rw[h.1.1,h.1.2,h.2]
 | .el a,b,h=>by cases b<;>simp[T1] at h;rw[O7 h]
 | .ptr _ _,b,h=>by cases b<;>simp[T1] at h;rw[h.1,h.2]
 | .fn f a c,b,h=>by cases b<;>simp[T1] at h;rw[h.1.1,O7 h.1.2,O7 h.2]
 | .Fv t a,b,h=>by cases b<;>simp[T1] at h;rw[h.1,rY h.2]
 | .mp _,b,h=>by cases b<;>simp[T1] at h;rw[h]
 | .any,b,h=>by cases b<;>simp[T1] at h
def O7:∀{a b:List AV},Yp a b=true->a=b
 | [],b,h=>by cases b<;>simp[Yp] at h;rfl
 | a::as,b,h=>by cases b<;>simp[Yp] at h;rw[rY h.1,O7 h.2]
end
def reads:Op->Bool
 | .load .. | .lookup ..=>true
 | .call cl=>(match cl.callee with
   | .builtin .len=>true
   | _=>false)
 | _=>false
def Wj{P:Program}{G:Bc}{fr:List AV}{s:AS}{o:Oper}{r:AR}(hq:quiet o.op=true)(h:QW P G fr s o=some r):∃v,r=.val v s:=by
 unfold QW at h;split at h<;>rename_i ho<;>(try (rw[ho] at hq;simp[quiet] at hq;done))
 all_goals first
   | (obtain⟨v,_,rfl⟩:=map_some h;exact⟨_,rfl⟩)
   | (split at h
      all_goals first
        | (obtain⟨v,_,rfl⟩:=map_some h;exact⟨_,rfl⟩)
        | (cases h;done)
        | (cases h;exact⟨_,rfl⟩)
        | (split at h
           all_goals first
             | (cases h;done)
             | (cases h;exact⟨_,rfl⟩)))
   | (obtain⟨_,_,h2⟩:=bind_some h;obtain⟨v,_,rfl⟩:=map_some h2;exact⟨_,rfl⟩)
   | (rw[ho] at hq
      unfold TF at h;split at h
      all_goals first
        | (obtain⟨_,_,h2⟩:=bind_some h;obtain⟨v,_,rfl⟩:=map_some h2;exact⟨_,rfl⟩)
        | (rename_i Ii;simp[quiet,Ii] at hq;done)
        | (split at h
           all_goals first
             | (obtain⟨v,_,rfl⟩:=map_some h;exact⟨_,rfl⟩)
             | (cases h;done))
        | (cases h;done))
   | (cases h;done)
def Ur{P:Program}{G:Bc}{fr:List AV}{s:AS}{o:Oper}{v:AV}{s':AS}(hq:quiet o.op=true)(hr:reads o.op=false)(h:QW P G fr s o=some (.val v s'))(s2:AS):QW P G fr s2 o=some (.val v s2):=by
 have e:=Wj hq h;obtain⟨v',e⟩:=e;injection e with e1 e2
 subst e1 e2;obtain⟨dst,op,ty,pos,after,guard⟩:=o;cases op<;>simp only[quiet,reads,Bool.false_eq_true] at hq hr<;>simp only[QW] at h ⊢
 all_goals first
   | (obtain⟨v',h1,h2⟩:=map_some h;injection h2 with h2;subst h2;rw[h1];rfl)
   | (obtain⟨q,h0,h2⟩:=bind_some h;obtain⟨v',h1,h3⟩:=map_some h2;injection h3 with h3;subst h3;rw[h0,Option.bind_some,h1];rfl)
   | (split at h
      all_goals first
        | (obtain⟨v',h1,h2⟩:=map_some h;injection h2 with h2;subst h2;simp only[*,Option.map_some];done)
        | (cases h;done)
        | (cases h;simp only[*];done)
        | (split at h
           all_goals first
             | (cases h;done)
             | (cases h;simp[*];done)))
   | (cases hr;done)
   | (rename_i cl
      unfold TF at h ⊢;split at h
      all_goals first
        | (rename_i Ii;simp[Ii] at hr;done)
        | (rename_i Ii;simp[Ii] at hq;done)
        | (simp only;obtain⟨q,h0,h2⟩:=bind_some h;obtain⟨v',h1,h3⟩:=map_some h2;injection h3 with h3;subst h3;rw[h0,Option.bind_some,h1];rfl)
        | (cases h;done))
end AI
namespace AI
open Go Go.RowKit
inductive Tk where
 | code (c:Code) (fr:List AV) (s:AS)
 | loop (c:Code) (fr:List AV) (s:AS)
 | ops (ops:Array Oper) (l:List Oper) (fr:List AV) (s:AS)
 | draw (ops:Array Oper) (l:List Oper) (fr:List AV) (s:AS) (q:Nat)
 | op (ops:Array Oper) (o:Oper) (fr:List AV) (s:AS)
 | call (f:FuncId) (args:List AV) (s:AS)
inductive Rs where
 | code (e:AX) (fr:List AV) (s:AS)
 | call (r:CR) (s:AS)
 | tr (l:List (List AV×AS×AV)) (fr:List AV) (s:AS)
abbrev ahS:=FuncId->List AV->AS->Option (CR×AS)
def NK:List Oper->Nat->List Nat
 | [],_=>[]
 | o::os,i=>if calm o.op then NK os (i+1) else i::NK os (i+1)
def ad6(ms:List Nat)(ls:List Nat)(i k:Nat):Bool:=ls.all λl=>(!S7 ms i l||decide (l < k))&&(!S7 ms l i||decide (k<=l))
def uM(P:Program)(G:Bc)(ms ls:List Nat)(i:Nat)(o:Oper)(fr:List AV)(v:AV):List AS->Nat->Bool
 | [],_=>true
 | s::ss,k=>(!ad6 ms ls i k||(match QW P G fr s o with
     | some (.val u _)=>T1 u v
     | _=>false))&&uM P G ms ls i o fr v ss (k+1)
def uQ(P:Program)(G:Bc)(ops:Array Oper)(ms ls:List Nat)(Nx:List AS):List Oper->List (List AV×AS×AV)->Nat->Bool
 | o::os,t::ts,i=>(!(quiet o.op&&reads o.op)||!CG ops t.1 o||uM P G ms ls i o t.1 t.2.2 Nx 0)&&uQ P G ops ms ls Nx os ts (i+1)
 | _,_,_=>true
def Yq(ms ls:List Nat)(i id:Nat)(cs:List AV):List AS->Nat->Bool
 | [],_=>true
 | s::ss,k=>(!ad6 ms ls i k||(match s.get id with
     | some (.cells ds)=>Yp ds cs
     | _=>false))&&Yq ms ls i id cs ss (k+1)
def TZ(P:Program)(ops:Array Oper)(ms ls:List Nat)(Nx:List AS):List Oper->List (List AV×AS×AV)->Nat->Nat->Bool
 | o::os,t::ts,i,q=>(match o.op with
   | .alloc e=>(!CG ops t.1 o||(match MP P e with
     | some z=>Yq ms ls i q (cellsOf z) Nx 0
     | none=>false))&&TZ P ops ms ls Nx os ts (i+1) (q+1)
   | _=>TZ P ops ms ls Nx os ts (i+1) q)
 | _,_,_,_=>true
def rsv(P:Program):List Oper->Option (List Bl)
 | []=>some []
 | o::l=>(match o.op with
   | .alloc e=>(match MP P e,rsv P l with
     | some z,some r=>some (.cells (cellsOf z)::r)
     | _,_=>none)
   | _=>rsv P l)
def agO(P:Program)(G:Bc)(ops:Array Oper)(tr:List (List AV×AS×AV))(sf:AS):Bool :=
 match NK ops.toList 0 with
 | []=>true
 | ls=>uQ P G ops (Is ops.toList []) ls (tr.map (·.2.1)++[sf]) ops.toList tr 0
def XZ(P:Program)(ops:Array Oper)(tr:List (List AV×AS×AV))(sf:AS)(q:Nat):List Bl->Bool
 | []=>true
 | _=>TZ P ops (Is ops.toList []) (NK ops.toList 0) (tr.map (·.2.1)++[sf]) ops.toList tr 0 q
def alg(P:Program)(G:Bc)(ops:Array Oper)(tr:List (List AV×AS×AV))(sf:AS)(q:Nat)(r:List Bl):Bool :=
 match agO P G ops tr sf with
 | true=>XZ P ops tr sf q r
 | false=>false
def alY:AV->Bool
 | .ptr _ _ | .Oo _ _ _ | .mp _ | .fn _ _ _=>true
 | _=>false
def ajq:List AV->Bool
 | []=>false
 | a::l=>match alY a with
   | true=>true
   | false=>ajq l
def esc:AV->Bool
 | .agg l=>ajq l
 | .C6 l=>ajq l
 | a=>alY a
def fin(v:AV)(s:AS)(n:Nat):AS:=match esc v with
 | true=>s
 | false=>s.cut n
def Pz(ops:Array Oper)(fr:List AV)(o:Oper)(q:Nat):AV:=match CG ops fr o with
 | true=>.ptr q 0
 | false=>.sc undef
inductive Tn(P:Program)(G:Bc)(X:Xg)(H:TV)(ops:Array Oper):Nat->List Oper->List AV->AS->List (List AV×AS×AV)->List AV->AS->Prop where
 | nil {q:Nat} {fr:List AV} {s:AS}:Tn P G X H ops q [] fr s [] fr s
 | cons {q:Nat} {o:Oper} {l:List Oper} {fr Cp:List AV} {s s1 s':AS} {v:AV} {t:List (List AV×AS×AV)} (ha:BX o.op=false) (h:J P G X H (.op ops o fr s (.ret v) s1)) (k:Tn P G X H ops q l (JE fr o.dst v) s1 t Cp s'):Tn P G X H ops q (o::l) fr s ((fr,s,v)::t) Cp s'
 | alloc {q:Nat} {o:Oper} {l:List Oper} {fr Cp:List AV} {s s':AS} {t:List (List AV×AS×AV)} (ha:BX o.op=true) (k:Tn P G X H ops (q+1) l (JE fr o.dst (Pz ops fr o q)) s t Cp s'):Tn P G X H ops q (o::l) fr s ((fr,s,Pz ops fr o q)::t) Cp s'
section
variable {P:Program} {G:Bc} {X:Xg} {H:TV} {ops:Array Oper}
def Tn.len{q:Nat}{l:List Oper}{fr Cp:List AV}{s s':AS}{t:List (List AV×AS×AV)}(h:Tn P G X H ops q l fr s t Cp s'):t.length=l.length:=by
 induction h with
 | nil=>rfl
 | cons _ _ _ ih=>simp[ih]
 | alloc _ _ ih=>simp[ih]
def FW(t:List (List AV×AS×AV))(sf:AS)(i:Nat):AS:=match t[i]? with
 | some x=>x.2.1
 | none=>sf
def KQ(t:List (List AV×AS×AV))(i:Nat):AV:=match t[i]? with
 | some x=>x.2.2
 | none=>.sc undef
def Tn.at{q:Nat}{l:List Oper}{fr Cp:List AV}{s s':AS}{t:List (List AV×AS×AV)}(h:Tn P G X H ops q l fr s t Cp s'):FW t s' 0=s/\∀i o,l[i]?=some o->∃fi,t[i]?=some (fi,FW t s' i,KQ t i) /\
   ((BX o.op=false/\J P G X H (.op ops o fi (FW t s' i) (.ret (KQ t i)) (FW t s' (i+1))))\/(BX o.op=true/\FW t s' (i+1)=FW t s' i/\KQ t i=Pz ops fi o (q+n7 l i))):=by
 induction h with
 | nil=>exact⟨rfl,λi o ho=>by simp at ho⟩
 | @cons q o l fr Cp s s1 s' v t ha h k ih =>
   refine⟨rfl,λi o' ho=>?_⟩;cases i with
   | zero =>
     simp at ho;subst ho;refine⟨fr,rfl,.inl ⟨ha,?_⟩⟩
     have:FW ((fr,s,v)::t) s' 1=s1:=by
       have:=ih.1;unfold FW at this ⊢;simpa using this
     rw[this];exact h
   | succ i =>
     obtain⟨fi,h1,h2⟩:=ih.2 i o' (by simpa using ho)
     refine⟨fi,?_,?_⟩;have:((fr,s,v)::t)[i+1]?=t[i]?:=by simp
     rw[this,h1];simp[FW,KQ];simp only[n7,ha,Nat.zero_add];simpa[FW,KQ] using h2
 | @alloc q o l fr Cp s s' t ha k ih =>
   refine⟨rfl,λi o' ho=>?_⟩;cases i with
   | zero =>
     simp at ho;subst ho;refine⟨fr,rfl,.inr ⟨ha,?_,?_⟩⟩;have:=ih.1;unfold FW at this ⊢;simpa using this
     simp[KQ,n7]
   | succ i =>
     obtain⟨fi,h1,h2⟩:=ih.2 i o' (by simpa using ho)
     refine⟨fi,?_,?_⟩;have:((fr,s,Pz ops fr o q)::t)[i+1]?=t[i]?:=by simp
     rw[this,h1];simp[FW,KQ];simp only[n7,ha];rw[<- Nat.add_assoc];simpa[FW,KQ] using h2
def Tn.eX{q:Nat}{l:List Oper}{fr Cp:List AV}{s s':AS}{t:List (List AV×AS×AV)}(h:Tn P G X H ops q l fr s t Cp s')(dst:Nat->Option Tmp)(vals:Nat->AV)(f0:List AV)(k:Nat)(Q7:fr=IH f0 dst vals (λ_=>true) k)(hd:∀i o,l[i]?=some o->dst (k+i)=o.dst)(hv:∀i,vals (k+i)=KQ t i\/l.length<=i) :
   Cp=IH f0 dst vals (λ_=>true) (k+l.length)/\∀i x,t[i]?=some x->x.1=IH f0 dst vals (λ_=>true) (k+i):=by
 have key:∀{q:Nat} {o:Oper} {l:List Oper} {fr Cp:List AV} {s:AS} {v:AV} {t:List (List AV×AS×AV)}
     (_:∀(k:Nat),JE fr o.dst v=IH f0 dst vals (λ_=>true) k->(∀i o,l[i]?=some o->dst (k+i)=o.dst)->(∀i,vals (k+i)=KQ t i\/l.length<=i)->Cp=IH f0 dst vals (λ_=>true) (k+l.length)/\∀i x,t[i]?=some x->x.1=IH f0 dst vals (λ_=>true) (k+i))
     (k:Nat),fr=IH f0 dst vals (λ_=>true) k->(∀i o',(o::l)[i]?=some o'->dst (k+i)=o'.dst)->(∀i,vals (k+i)=KQ ((fr,s,v)::t) i\/(o::l).length<=i) ->
     Cp=IH f0 dst vals (λ_=>true) (k+(o::l).length)/\∀i x,((fr,s,v)::t)[i]?=some x->x.1=IH f0 dst vals (λ_=>true) (k+i):=by
   intro q o l fr Cp s v t ih k Q7 hd hv;have hd0:=hd 0 o rfl
   have hv0:vals k=v:=by
     rcases hv 0 with h0 | h0
     simpa[KQ] using h0
     simp at h0
   have:=ih (k+1) (by simp only[IH,if_true];rw[Q7,<- hd0,hv0];rfl) (λi o' WX=>by have:=hd (i+1) o' (by simpa using WX);rwa[show k+1+i=k+(i+1) from by omega]) (λi=>by
     rcases hv (i+1) with h1 | h1
     left;rw[show k+1+i=k+(i+1) from by omega,h1];simp[KQ];right;simp at h1;omega)
   refine⟨by rw[this.1];congr 1;simp;omega,λi x hx=>?_⟩;cases i with
   | zero=>simp at hx;subst hx;exact Q7
   | succ i =>
     have h2:=this.2 i x (by simpa using hx)
     rw[h2];congr 1;omega
 induction h generalizing k with
 | nil=>exact⟨Q7,λi x hx=>by simp at hx⟩
 | @cons q o l fr Cp s s1 s' v t ha h _ ih=>exact key (q:=q) (λk h1 h2 h3=>ih k h1 h2 h3) k Q7 hd hv
 | @alloc q o l fr Cp s s' t ha _ ih=>exact key (q:=q) (λk h1 h2 h3=>ih k h1 h2 h3) k Q7 hd hv
def ahN{i k:Nat}{ls:List Nat}(hls:∀l,l∈ls->Zb ops l)(h:Win ops i k):ad6 (Is ops.toList []) ls i k=true:=by
 unfold ad6;rw[List.all_eq_true];intro l hl;have h1:=h.1 l (hls l hl);have h2:=h.2 l (hls l hl);cases aF:S7 (Is ops.toList []) i l<;>cases fD:S7 (Is ops.toList []) l i<;>simp_all
def fX{os:List Oper}{i l:Nat}(h:l∈NK os i):∃j o,l=i+j/\os[j]?=some o/\calm o.op=false:=by
 induction os generalizing i with
 | nil=>simp[NK] at h
 | cons x os ih =>
   simp only[NK] at h;split at h;obtain⟨j,o,h1,h2,h3⟩:=ih h;exact⟨j+1,o,by omega,by simpa using h2,h3⟩
   rename_i hq;rcases List.mem_cons.1 h with h | h
   exact⟨0,x,by omega,rfl,by simpa using hq⟩
   obtain⟨j,o,h1,h2,h3⟩:=ih h;exact⟨j+1,o,by omega,by simpa using h2,h3⟩
def Kk{o:Oper}{fr:List AV}{s s':AS}{v:AV}(hq:quiet o.op=true)(h:J P G X H (.op ops o fr s (.ret v) s')):s'=s/\((CG ops fr o=false/\v=.sc undef)\/(CG ops fr o=true/\QW P G fr s o=some (.val v s))):=by
 cases h with
 | Ot hw h =>
   obtain⟨v',e⟩:=Wj hq h;injection e with e1 e2
   subst e2;exact⟨rfl,.inr ⟨hw,h⟩⟩
 | qJ hw=>exact⟨rfl,.inl ⟨hw,rfl⟩⟩
 | SJ hw h hc =>
   obtain⟨v',e⟩:=Wj hq h;cases e
 | qK Z5=>rw[hq] at Z5;cases Z5
 | gA Z5=>rw[hq] at Z5;cases Z5
 | acs _ ho Ii=>simp[quiet,ho,Ii] at hq
def wB{ms ls:List Nat}{i id:Nat}{cs:List AV}{ss:List AS}{k0:Nat}(h:Yq ms ls i id cs ss k0=true){k:Nat}{s:AS}(hs:ss[k]?=some s)(hw:ad6 ms ls i (k0+k)=true):s.get id=some (.cells cs):=by
 induction ss generalizing k0 k with
 | nil=>simp at hs
 | cons x ss ih =>
   simp only[Yq,Bool.and_eq_true] at h;cases k with
   | zero =>
     simp at hs;subst hs;rw[Nat.add_zero] at hw;have h1:=h.1;rw[hw] at h1;simp only[Bool.not_true,Bool.false_or] at h1;split at h1;rename_i ds hu;rw[hu,O7 h1];cases h1
   | succ k=>exact ih h.2 (by simpa using hs) (by rwa[show k0+1+k=k0+(k+1) from by omega])
def vR{ms ls:List Nat}{Nx:List AS}{os:List Oper}{ts:List (List AV×AS×AV)}{i0 q:Nat}(h:TZ P ops ms ls Nx os ts i0 q=true){i:Nat}{o:Oper}{e:TypeId}{x:List AV×AS×AV}(ho:os[i]?=some o)(hx:ts[i]?=some x)(he:o.op=.alloc e)(hw:CG ops x.1 o=true):∃z,MP P e=some z/\Yq ms ls (i0+i) (q+n7 os i) (cellsOf z) Nx 0=true:=by
 induction os generalizing ts i0 i q with
 | nil=>simp at ho
 | cons y os ih =>
   cases ts with
   | nil=>simp at hx
   | cons t ts =>
     cases i with
     | zero =>
       simp at ho hx;subst ho hx;simp only[TZ,he,hw,Bool.not_true,Bool.false_or,Bool.and_eq_true] at h;have h1:=h.1;split at h1;rename_i z hz;exact⟨z,hz,h1⟩;cases h1
     | succ i =>
       simp only[TZ] at h;split at h;rename_i e' he';rw[Bool.and_eq_true] at h;have:=ih h.2 (by simpa using ho) (by simpa using hx)
       simp only[n7,he',BX];rwa[show i0+1+i=i0+(i+1) from by omega,Nat.add_assoc q] at this;rename_i KE;have:=ih h (by simpa using ho) (by simpa using hx)
       have nZ:BX y.op=false:=by
         cases fP:BX y.op with
         | false=>rfl
         | true=>obtain⟨e',he'⟩:=K2 fP;exact absurd he' (KE e')
       simp only[n7,nZ,Nat.zero_add];rwa[show i0+1+i=i0+(i+1) from by omega] at this
def agC{l:List Oper}{r:List Bl}(h:rsv P l=some r):r.length=n7 l l.length:=by
 induction l generalizing r with
 | nil=>simp[rsv] at h;subst h;rfl
 | cons o l ih =>
   simp only[rsv] at h;split at h;rename_i e he;split at h;rename_i z r' hz hr;cases h;simp only[List.length_cons,n7,he,BX,ih hr];omega;cases h;rename_i KE
   have nZ:BX o.op=false:=by
     cases fP:BX o.op with
     | false=>rfl
     | true=>obtain⟨e',he'⟩:=K2 fP;exact absurd he' (KE e')
   simp only[List.length_cons,n7,nZ,ih h];omega
def RL{o:Oper}{e:TypeId}(h:o.op=.alloc e):quiet o.op=false:=by rw[h];rfl
end
end AI
namespace AI
open Go Go.RowKit
def inI:Int->Bool
 | .ofNat m=>Nat.ble m 9223372036854775807
 | .negSucc m=>Nat.ble m 9223372036854775807
def Ny(k:IntKind)(n:Int):Int:=match k with
 | .i64=>(match inI n with | true=>n | false=>IntKind.i64.wrap n)
 | k=>k.wrap n
def akj{n:Int}(h:inI n=true):IntKind.i64.wrap n=n:=by
 refine IntWalk.i64_in n ?_;cases n with
 | ofNat m =>
   have:=Nat.le_of_ble_eq_true h;have e:Int.ofNat m=(m:Int):=rfl;rw[e];have h2:(m:Int)<=9223372036854775807:=Int.ofNat_le.2 this;have h3:(0:Int)<=m:=Int.natCast_nonneg m;omega
 | negSucc m =>
   have:=Nat.le_of_ble_eq_true h;rw[Int.negSucc_eq];constructor;have e:(-9223372036854775808:Int)=-(9223372036854775807+1):=rfl;rw[e];have h2:(m:Int)<=9223372036854775807:=Int.ofNat_le.2 this;omega;have h2:(0:Int)<=m:=Int.natCast_nonneg m;omega
def VN(k:IntKind)(n:Int):Ny k n=k.wrap n:=by
 cases k<;>try rfl
 simp only[Ny];cases h:inI n with
 | true=>exact(akj h).symm
 | false=>rfl
def aak:Int->Int->Int
 | .ofNat a,.ofNat b=>.ofNat (Nat.add a b)
 | a,b=>a+b
def dU(a b:Int):aak a b=a+b:=by cases a<;>cases b<;>rfl
def ano(a b:Nat):Int:=match Nat.ble b a with
 | true=>.ofNat (Nat.sub a b)
 | false=>(a:Int) - (b:Int)
def hO:Int->Int->Int
 | .ofNat a,.ofNat b=>ano a b
 | a,b=>a - b
def hP(a b:Int):hO a b=a - b:=by
 cases a<;>cases b<;>try rfl
 rename_i a b;simp only[hO,ano];cases h:Nat.ble b a with
 | true =>
   have:=Nat.le_of_ble_eq_true h;show Int.ofNat (a - b)=(a:Int) - (b:Int);exact Int.ofNat_sub this
 | false=>rfl
def CZ:Int->Int->Bool
 | .ofNat a,.ofNat b=>Nat.beq a b
 | .negSucc a,.negSucc b=>Nat.beq a b
 | _,_=>false
def Od(a b:Int):CZ a b=(a == b):=by
 cases a<;>cases b<;>simp only[CZ]
 rename_i a b;rw[Bool.eq_iff_iff,beq_iff_eq,Int.ofNat.injEq];exact⟨λh=>Nat.eq_of_beq_eq_true h,λh=>by subst h;exact Nat.beq_refl a⟩;rw[Bool.eq_iff_iff,beq_iff_eq];exact⟨λh=>by simp at h,λh=>by cases h⟩;rw[Bool.eq_iff_iff,beq_iff_eq];exact⟨λh=>by simp at h,λh=>by cases h⟩;rename_i a b;rw[Bool.eq_iff_iff,beq_iff_eq,Int.negSucc.injEq];exact⟨λh=>Nat.eq_of_beq_eq_true h,λh=>by subst h;exact Nat.beq_refl a⟩
def NI:Int->Int->Bool
 | .ofNat a,.ofNat b=>Nat.ble a b
 | a,b=>decide (a<=b)
def Y6(a b:Int):NI a b=decide (a<=b):=by
 cases a<;>cases b<;>try rfl
 rename_i a b;simp only[NI];rw[Bool.eq_iff_iff,decide_eq_true_iff];show _↔(a:Int)<=(b:Int);rw[Int.ofNat_le];exact⟨Nat.le_of_ble_eq_true,Nat.ble_eq_true_of_le⟩
def Ez:Int->Int->Bool
 | .ofNat a,.ofNat b=>Nat.ble (Nat.succ a) b
 | a,b=>decide (a < b)
def SH(a b:Int):Ez a b=decide (a < b):=by
 cases a<;>cases b<;>try rfl
 rename_i a b;simp only[Ez];rw[Bool.eq_iff_iff,decide_eq_true_iff];show _↔(a:Int) < (b:Int);rw[Int.ofNat_lt];exact⟨Nat.le_of_ble_eq_true,Nat.ble_eq_true_of_le⟩
def sameKind:IntKind->IntKind->Bool
 | .i64,.i64=>true
 | .u8,.u8=>true
 | _,_=>false
def Xc{a b:IntKind}(h:sameKind a b=true):a=b:=by cases a<;>cases b<;>first | rfl | cases h
def afD(k:IntKind)(a b:Int):BinOp->Option Value
 | .add=>some (.int k (Ny k (aak a b)))
 | .sub=>some (.int k (Ny k (hO a b)))
 | .mul=>some (.int k (Ny k (a*b)))
 | .eql=>some (.bool (CZ a b))
 | .neq=>some (.bool (!CZ a b))
 | .lss=>some (.bool (Ez a b))
 | .leq=>some (.bool (NI a b))
 | .gtr=>some (.bool (Ez b a))
 | .geq=>some (.bool (NI b a))
 | _=>none
def afE{P:Program}{op:BinOp}{k:IntKind}{a b:Int}{t:TypeId}{xo yo:Operand}{v:Value}(h:afD k a b op=some v):pv P (do eqGuard op t xo yo (.int k a) (.int k b);binOp op t (.int k a) (.int k b))=some v/\scalar v=true:=by
 cases op<;>simp only[afD,Option.some.injEq,reduceCtorEq] at h<;>subst h<;>refine⟨?_,rfl⟩<;>simp[eqGuard,binOp,Op.intArith,Op.intCmp,pv,VN,dU,hP,Od,SH,Y6,bne,Bind.bind,Sem.bind,Pure.pure]
def BY:List UInt8->List UInt8->Bool
 | [],[]=>true
 | a::l,b::m=>(match Nat.beq a.toNat b.toNat with
   | true=>BY l m
   | false=>false)
 | _,_=>false
def T4(l m:List UInt8):BY l m=(l == m):=by
 induction l generalizing m with
 | nil=>cases m<;>rfl
 | cons a l ih =>
   cases m with
   | nil=>rfl
   | cons b m =>
     simp only[BY];cases h:Nat.beq a.toNat b.toNat with
     | true =>
       have:a=b:=UInt8.toNat_inj.1 (Nat.eq_of_beq_eq_true h);subst this;simp only[ih];simp
     | false =>
       have:a≠b:=λe=>by subst e;have:=Nat.ne_of_beq_eq_false h;exact this rfl
       simp[this]
def ali(x y:ByteArray):BinOp->Option Value
 | .eql=>some (.bool (BY x.data.toList y.data.toList))
 | .neq=>some (.bool (!BY x.data.toList y.data.toList))
 | op=>oG op x y
def agQ(x y:ByteArray)(op:BinOp):ali x y op=oG op x y:=by cases op<;>simp only[ali,oG,T4]
def acY(v:Option Value):Option AV:=match v with
 | some v=>(match scalar v with | true=>some (.sc v) | false=>none)
 | none=>none
def acZ(v:Option Value):acY v=v.bind aR:=by
 cases v with
 | none=>rfl
 | some v=>simp only[acY,Option.bind_some,aR];cases scalar v<;>rfl
def scF(P:Program)(op:BinOp)(t:TypeId)(xo yo:Operand)(x y:Value):Option AV :=
 match x with
 | .int k a=>(match y with
   | .int k' b=>(match sameKind k k' with
     | true=>(match afD k a b op with
       | some v=>some (.sc v)
       | none=>L2 P op t xo yo (.sc (.int k a)) (.sc (.int k' b)))
     | false=>L2 P op t xo yo (.sc (.int k a)) (.sc (.int k' b)))
   | y=>L2 P op t xo yo (.sc (.int k a)) (.sc y))
 | .string a=>(match y with
   | .string b=>acY (ali a b op)
   | y=>L2 P op t xo yo (.sc (.string a)) (.sc y))
 | x=>L2 P op t xo yo (.sc x) (.sc y)
def Yb(P:Program)(op:BinOp)(t:TypeId)(xo yo:Operand)(a b:AV):Option AV :=
 match a with
 | .sc x=>(match b with
   | .sc y=>scF P op t xo yo x y
   | b=>L2 P op t xo yo (.sc x) b)
 | a=>L2 P op t xo yo a b
def UR(P:Program)(op:BinOp)(t:TypeId)(xo yo:Operand)(a b:AV):Yb P op t xo yo a b=L2 P op t xo yo a b:=by
 unfold Yb;cases a with
 | sc x =>
   cases b with
   | sc y =>
     simp only[scF];cases x with
     | int k a =>
       cases y with
       | int k' b =>
         simp only;cases hk:sameKind k k' with
         | false=>rfl
         | true =>
           have:=Xc hk;subst this;simp only;cases hf:afD k a b op with
           | none=>rfl
           | some v =>
             obtain⟨h1,h2⟩:=afE (P:=P) (t:=t) (xo:=xo) (yo:=yo) hf;simp[L2,RJ,VG,h1,aR,h2]
       | _=>rfl
     | string a =>
       cases y with
       | string b=>simp only[acZ,agQ];rfl
       | _=>rfl
     | _=>rfl
   | _=>rfl
 | _=>rfl
def acn:List UInt8->Nat->Option UInt8
 | [],_=>none
 | a::_,0=>some a
 | _::l,n+1=>acn l n
def afW(l:List UInt8)(n:Nat):acn l n=l[n]?:=by
 induction l generalizing n with
 | nil=>simp[acn]
 | cons a l ih=>cases n<;>simp[acn,ih]
def alP:Option UInt8->Option AV
 | some b=>some (.sc (.int .u8 (.ofNat b.toNat)))
 | none=>none
def XB(P:Program)(t:TypeId)(x ix:AV):Option AV :=
 match x with
 | .sc (.string s)=>(match P.underlying t with
   | some .string=>(match To ix with
     | some i=>alP (acn s.data.toList i)
     | none=>none)
   | _=>Lx P t (.sc (.string s)) ix)
 | x=>Lx P t x ix
def oD(P:Program)(t:TypeId)(x ix:AV):XB P t x ix=Lx P t x ix:=by
 unfold XB;cases x with
 | sc v =>
   cases v with
   | string s =>
     simp only;split
     . rename_i hu
       unfold Lx;rw[hu];cases To ix with
       | none=>rfl
       | some i =>
         simp only[afW];cases s.data.toList[i]?<;>rfl
     rfl
   | _=>rfl
 | _=>rfl
end AI
namespace AI
open Go Go.RowKit
def nth:List AV->Nat->AV
 | [],_=>.sc undef
 | a::_,0=>a
 | _::l,n+1=>nth l n
def akG(l:List AV)(n:Nat):nth l n=l.getD n (.sc undef):=by
 induction l generalizing n with
 | nil=>simp[nth]
 | cons a l ih=>cases n<;>simp[nth,ih]
def evG:Option (List AV)->Option AV
 | some cs=>some (.el cs)
 | none=>none
def AZ(G:Bc)(fr:List AV):Operand->Option AV
 | .tmp t=>some (nth fr t)
 | .const v=>W7 v
 | .global g=>evG (G g)
 | .func f=>some (.fn (.func f) [] [])
def Cv(G:Bc)(fr:List AV)(x:Operand):AZ G fr x=Bg G fr x:=by
 cases x with
 | tmp t=>simp only[AZ,Bg,akG]
 | const v=>rfl
 | global g=>simp only[AZ,Bg];cases G g<;>rfl
 | func f=>rfl
def Nc(s:AS):Option AV->Option AR
 | some v=>some (.val v s)
 | none=>none
def Tm(s:AS)(o:Option AV):Nc s o=o.map (λv=>.val v s):=by cases o<;>rfl
def mZ:Option AS->Option AR
 | some s=>some (.val (.sc undef) s)
 | none=>none
def ahr(o:Option AS):mZ o=o.map (λs=>.val (.sc undef) s):=by cases o<;>rfl
def zG:Option (AV×AS)->Option AR
 | some r=>some (.val r.1 r.2)
 | none=>none
def vC(o:Option (AV×AS)):zG o=o.map (λr=>.val r.1 r.2):=by cases o<;>rfl
def iN{α β:Type}(o:Option α)(f:α->Option β):Option β:=match o with
 | some a=>f a
 | none=>none
def eE{α β:Type}(o:Option α)(f:α->Option β):iN o f=o.bind f:=by cases o<;>rfl
def two{β:Type}(a b:Option AV)(f:AV->AV->Option β):Option β:=match a with
 | some x=>(match b with
   | some y=>f x y
   | none=>none)
 | none=>none
def three{β:Type}(a b d:Option AV)(f:AV->AV->AV->Option β):Option β:=match a with
 | some x=>(match b with
   | some y=>(match d with
     | some z=>f x y z
     | none=>none)
   | none=>none)
 | none=>none
def aiz(x y:Option AV):Option AV->Option AV
 | some (.sc (.bool t))=>(match t with | true=>x | false=>y)
 | _=>none
def acm(s:AS):Option AV->Option AR
 | some z=>some (.val (.ptr s.nx 0) (s.new (.cells (cellsOf z))))
 | none=>none
def tR(s:AS):Option AV->Option AR
 | some z=>(match SE z with | true=>none | false=>some (.val (.ptr s.nx 0) (s.new (.cells (cellsOf z)))))
 | none=>none
def oK(s:AS):Option AV->Option AR
 | some v=>(match notNil v with | true=>some (.val v s) | false=>none)
 | none=>none
def pT(t:TypeId)(s:AS)(v:Option AV):Option TypeDesc->Option AR
 | some d=>(match v with
   | some v=>(match isIface d with | true=>none | false=>some (.val (.Fv t v) s))
   | none=>none)
 | none=>none
def func1(f:Fn)(s:AS)(b:Option (List AV)):Option (List AV)->Option AR
 | some a=>(match b with
   | some b=>some (.val (.fn f a b) s)
   | none=>none)
 | none=>none
def adg(P:Program)(s:AS)(t:TypeId)(l h m:Option (Option AV)):Option AV->Option AR
 | some a=>(match l with
   | some l=>(match h with
     | some h=>(match m with
       | some m=>Nc s (Md P t a l h m)
       | none=>none)
     | none=>none)
   | none=>none)
 | none=>none
def am5:Option AV->Option AR
 | some (.Fv t v)=>some (.JK (.Fv t v))
 | _=>none
def alX(P:Program)(as:Option (List AV)):Option AV->Option AR
 | some (.fn (.func g) first Ng)=>(match as with
   | some as=>(match MQ P g with | true=>some (.ent g (first++as++Ng)) | false=>none)
   | none=>none)
 | _=>none
def amR(P:Program)(G:Bc)(fr:List AV)(s:AS):List Operand->List TypeId->Option AR
 | [x],[t]=>Nc s (iN (AZ G fr x) (Xh P s t))
 | _,_=>none
def alH(P:Program)(G:Bc)(fr:List AV)(s:AS):List Operand->List TypeId->Option AR
 | [x,y],[t,tx]=>zG (two (AZ G fr x) (AZ G fr y) (Mv P s t tx))
 | _,_=>none
def aiB(P:Program)(s:AS)(f:List Value->Sem Value):Option (List Value)->Option AR
 | some vs=>Nc s (WM P (f vs))
 | none=>none
def aiC(P:Program)(s:AS)(f:Value->Sem Value):Option Value->Option AR
 | some v=>Nc s (WM P (f v))
 | none=>none
def Sv(P:Program)(G:Bc)(fr:List AV)(s:AS)(o:Oper)(cl:Call):Builtin->Option AR
 | .len=>amR P G fr s cl.args.toList cl.argTypes.toList
 | .append=>alH P G fr s cl.args.toList cl.argTypes.toList
 | .max=>aiB P s (λvs=>Builtin.max_ cl.argTypes o.type vs.toArray) (iN (aC G fr cl.args.toList) Po)
 | .min=>aiB P s (λvs=>Builtin.min_ cl.argTypes o.type vs.toArray) (iN (aC G fr cl.args.toList) Po)
 | _=>none
def dT(P:Program)(G:Bc)(fr:List AV)(s:AS)(o:Oper)(cl:Call):Option AR :=
 match cl.callee with
 | .builtin b=>Sv P G fr s o cl b
 | .value f=>alX P (aC G fr cl.args.toList) (AZ G fr f)
 | _=>none
def kS(s:AS):Option Operand->Option AR
 | none=>some (.val (.mp s.nx) (s.new (.map [] 0)))
 | some _=>none
def US(P:Program)(G:Bc)(fr:List AV)(s:AS)(o:Oper):Option AR :=
 match o.op with
 | .move x=>Nc s (AZ G fr x)
 | .assign x=>Nc s (AZ G fr x)
 | .pick c a b=>Nc s (aiz (AZ G fr a) (AZ G fr b) (AZ G fr c))
 | .alloc e=>acm s (MP P e)
 | .box _ x=>tR s (AZ G fr x)
 | .build t ps=>Nc s (iN (My G fr ps.toList) (Yc P t))
 | .buildSlice t n ps=>Nc s (iN (My G fr ps.toList) (MM P t n))
 | .load t a=>Nc s (iN (AZ G fr a) (K8 P s t))
 | .store t a x=>mZ (two (AZ G fr a) (AZ G fr x) (Me P s t))
 | .nilCheck x=>oK s (AZ G fr x)
 | .binOp op t x y _=>Nc s (two (AZ G fr x) (AZ G fr y) (Yb P op t x y))
 | .unOp op _ x=>aiC P s (Op.unary op) (iN (AZ G fr x) ZF)
 | .convert src dst x=>Nc s (iN (AZ G fr x) (WJ P src dst))
 | .makeInterface t x=>pT t s (AZ G fr x) (P.underlying t)
 | .makeFunc f first Ng=>func1 f s (aC G fr Ng.toList) (aC G fr first.toList)
 | .makeMap _ r=>kS s r
 | .makeSlice t l c=>zG (two (AZ G fr l) (AZ G fr c) (JN P s t))
 | .slice t x lo hi mx=>adg P s t (iO G fr lo) (iO G fr hi) (iO G fr mx) (AZ G fr x)
 | .fieldAddr t x k=>Nc s (iN (AZ G fr x) λa=>Sj P t a k)
 | .field t x k=>Nc s (iN (AZ G fr x) λa=>Yf P t a k)
 | .indexAddr t x i=>Nc s (two (AZ G fr x) (AZ G fr i) (DB P t))
 | .index t x i=>Nc s (two (AZ G fr x) (AZ G fr i) (XB P t))
 | .lookup t x k ok=>Nc s (two (AZ G fr x) (AZ G fr k) λa b=>Jm P s t a b ok)
 | .mapUpdate t m k x=>mZ (three (AZ G fr m) (AZ G fr k) (AZ G fr x) (KS P s t))
 | .insert t m k x=>mZ (three (AZ G fr m) (AZ G fr k) (AZ G fr x) (KS P s t))
 | .mapEntry t m k=>zG (two (AZ G fr m) (AZ G fr k) (P7 P s t))
 | .entryStore _ m st x=>mZ (three (AZ G fr m) (AZ G fr st) (AZ G fr x) (MN s))
 | .extract x k=>Nc s (iN (AZ G fr x) λa=>Si a k)
 | .call cl=>dT P G fr s o cl
 | .panic x=>am5 (AZ G fr x)
 | _=>none
def vO(P:Program)(G:Bc)(fr:List AV)(s:AS)(o:Oper)(cl:Call):dT P G fr s o cl=TF P G fr s o cl:=by
 unfold dT TF;cases hc:cl.callee with
 | value f =>
   simp only[Cv];cases Bg G fr f with
   | none=>rfl
   | some v =>
     cases v with
     | fn g a b =>
       cases g with
       | func g =>
         cases aC G fr cl.args.toList with
         | none=>rfl
         | some as =>
           simp only[alX];cases MQ P g<;>rfl
       | _=>rfl
     | _=>rfl
 | invoke r m=>rfl
 | builtin b =>
   cases b<;>try rfl
   . simp only[Sv]
     cases hx:cl.args.toList with
     | nil=>rfl
     | cons x xs =>
       cases xs with
       | nil=>rfl
       | cons y ys =>
         cases ys with
         | cons z zs=>rfl
         | nil =>
           cases ht:cl.argTypes.toList with
           | nil=>rfl
           | cons t ts =>
             cases ts with
             | nil=>rfl
             | cons u us =>
               cases us with
               | cons v vs=>rfl
               | nil =>
                 simp only[alH,Cv];cases Bg G fr x<;>cases Bg G fr y<;>first | rfl | exact vC _
   . simp only[Sv]
     cases hx:cl.args.toList with
     | nil=>rfl
     | cons x xs =>
       cases xs with
       | cons y ys=>rfl
       | nil =>
         cases ht:cl.argTypes.toList with
         | nil=>rfl
         | cons t ts =>
           cases ts with
           | cons u us=>rfl
           | nil=>simp only[amR,Cv,eE];exact Tm _ _
   simp only[Sv,eE];cases (aC G fr cl.args.toList).bind Po with
   | none=>rfl
   | some vs=>exact Tm _ _
   simp only[Sv,eE];cases (aC G fr cl.args.toList).bind Po with
   | none=>rfl
   | some vs=>exact Tm _ _
def ND(P:Program)(G:Bc)(fr:List AV)(s:AS)(o:Oper):US P G fr s o=QW P G fr s o:=by
 unfold US QW;cases ho:o.op<;>simp only[Cv,Tm,ahr,vC,eE,vO]
 case pick c a b =>
   cases Bg G fr c with
   | none=>rfl
   | some v =>
     cases v with
     | sc u=>cases u<;>first | rfl | (rename_i t;cases t<;>rfl)
     | _=>rfl
 case alloc e=>cases MP P e<;>rfl
 case box e x =>
   cases Bg G fr x with
   | none=>rfl
   | some v=>cases v<;>rfl
 case store t a x=>cases Bg G fr a<;>cases Bg G fr x<;>rfl
 case nilCheck x =>
   cases Bg G fr x with
   | none=>rfl
   | some v=>simp only[oK];cases notNil v<;>rfl
 case binOp op t x y z=>cases Bg G fr x<;>cases Bg G fr y<;>first | rfl | (simp only[two,UR])
 case unOp op t x=>cases (Bg G fr x).bind ZF with
   | none=>rfl
   | some v=>exact Tm _ _
 case makeInterface t x =>
   cases Bg G fr x with
   | none=>cases P.underlying t<;>rfl
   | some v =>
     cases P.underlying t with
     | none=>rfl
     | some d=>simp only[pT];cases isIface d<;>rfl
 case makeFunc f a b=>cases aC G fr a.toList<;>cases aC G fr b.toList<;>rfl
 case makeMap t r=>cases r<;>rfl
 case makeSlice t l c=>cases Bg G fr l<;>cases Bg G fr c<;>rfl
 case slice t x lo hi mx =>
   cases Bg G fr x<;>cases iO G fr lo<;>cases iO G fr hi<;>cases iO G fr mx<;>first | rfl | exact Tm _ _
 case indexAddr t x i=>cases Bg G fr x<;>cases Bg G fr i<;>rfl
 case index t x i=>cases Bg G fr x<;>cases Bg G fr i<;>first | rfl | (simp only[two,oD])
 case lookup t x k ok=>cases Bg G fr x<;>cases Bg G fr k<;>rfl
 case mapUpdate t m k x=>cases Bg G fr m<;>cases Bg G fr k<;>cases Bg G fr x<;>rfl
 case insert t m k x=>cases Bg G fr m<;>cases Bg G fr k<;>cases Bg G fr x<;>rfl
 case mapEntry t m k=>cases Bg G fr m<;>cases Bg G fr k<;>rfl
 case entryStore t m k x=>cases Bg G fr m<;>cases Bg G fr k<;>cases Bg G fr x<;>rfl
 case panic x =>
   cases Bg G fr x with
   | none=>rfl
   | some v=>cases v<;>rfl
end AI
namespace AI
open Go Go.RowKit
abbrev Rec:=Tk->Option Rs
def anl(r:Rec)(y:Code):Option Rs->Option Rs
 | some (.code e fr s)=>(match e with
   | .normal=>r (.code y fr s)
   | e=>some (.code e fr s))
 | _=>none
def ah5(r:Rec)(x y:Code)(fr:List AV)(s:AS):Option AV->Option Rs
 | some (.sc (.bool t))=>(match t with
   | true=>r (.code x fr s)
   | false=>r (.code y fr s))
 | _=>none
def aar(id:Nat):Option Rs->Option Rs
 | some (.code e fr s)=>some (.code (E7 id e) fr s)
 | _=>none
def aaF:Option Rs->Option Rs
 | some (.code e fr s)=>some (.code e fr s)
 | _=>none
def alW(P:Program)(G:Bc)(ops:Array Oper)(q:Nat)(rs:List Bl):Option Rs->Option Rs
 | some (.tr t fr s)=>(match alg P G ops t s q rs with
   | true=>some (.code .normal fr s)
   | false=>none)
 | _=>none
def amv(P:Program)(G:Bc)(r:Rec)(ops:Array Oper)(fr:List AV)(s:AS):Option (List Bl)->Option Rs
 | some rs=>alW P G ops s.nx rs (r (.draw ops ops.toList fr (s.hold rs) s.nx))
 | none=>none
def alV(P:Program)(G:Bc)(r:Rec)(ops:Array Oper)(fr:List AV)(s:AS):Bool->Option Rs
 | true=>amv P G r ops fr s (rsv P ops.toList)
 | false=>none
def uD(P:Program)(G:Bc)(r:Rec)(ops:Array Oper)(fr:List AV)(s:AS):Bool->Option Rs
 | false=>aaF (r (.ops ops ops.toList fr s))
 | true=>alV P G r ops fr s (MV ops)
def adk(P:Program)(G:Bc)(r:Rec)(fr:List AV)(s:AS):Code->Option Rs
 | .skip=>some (.code .normal fr s)
 | .exit id=>some (.code (.exit id) fr s)
 | .ret=>some (.code .ret fr s)
 | .seq x y=>anl r y (r (.code x fr s))
 | .cond q x y=>ah5 r x y fr s (AZ G fr q)
 | .block id c=>aar id (r (.code c fr s))
 | .loop c=>aaF (r (.loop c fr s))
 | .region _ ops d=>uD P G r ops fr s d
 | _=>none
def ais(r:Rec)(c:Code):Option Rs->Option Rs
 | some (.code e fr s)=>(match e with
   | .normal=>r (.loop c fr s)
   | e=>some (.code e fr s))
 | _=>none
def aqH(r:Rec)(ops:Array Oper)(dst:Option Tmp)(l:List Oper)(fr:List AV):Option Rs->Option Rs
 | some (.call c s)=>(match c with
   | .ret v=>r (.ops ops l (JE fr dst v) s)
   | .JK v=>some (.code (.JK v) fr s))
 | _=>none
def agP(r:Rec)(ops:Array Oper)(fr:List AV)(s:AS):List Oper->Option Rs
 | []=>some (.code .normal fr s)
 | o::l=>aqH r ops o.dst l fr (r (.op ops o fr s))
def trK(fr:List AV)(s:AS)(v:AV):Option Rs->Option Rs
 | some (.tr t WS s2)=>some (.tr ((fr,s,v)::t) WS s2)
 | _=>none
def als(r:Rec)(ops:Array Oper)(dst:Option Tmp)(l:List Oper)(fr:List AV)(s:AS)(q:Nat):Option Rs->Option Rs
 | some (.call (.ret v) s1)=>trK fr s v (r (.draw ops l (JE fr dst v) s1 q))
 | _=>none
def ai8(r:Rec)(ops:Array Oper)(o:Oper)(l:List Oper)(fr:List AV)(s:AS)(q:Nat)(v:AV):Option Rs:=trK fr s v (r (.draw ops l (JE fr o.dst v) s (q+1)))
def alr(r:Rec)(ops:Array Oper)(o:Oper)(l:List Oper)(fr:List AV)(s:AS)(q:Nat):Bool->Option Rs
 | true=>ai8 r ops o l fr s q (Pz ops fr o q)
 | false=>als r ops o.dst l fr s q (r (.op ops o fr s))
def mL(r:Rec)(ops:Array Oper)(fr:List AV)(s:AS)(q:Nat):List Oper->Option Rs
 | []=>some (.tr [] fr s)
 | o::l=>alr r ops o l fr s q (BX o.op)
def alQ:Option Rs->Option Rs
 | some (.call c s)=>some (.call c s)
 | _=>none
def opK(r:Rec)(s:AS):Option AR->Option Rs
 | some (.val v s1)=>some (.call (.ret v) s1)
 | some (.JK v)=>some (.call (.JK v) s)
 | some (.ent f args)=>alQ (r (.call f args s))
 | none=>none
def abc(ops:Array Oper)(fr:List AV):Option (Nat×Bool)->Bool
 | none=>true
 | some p=>(match (ops[p.1]?).bind (·.dst) with
   | some d=>(match nth fr d with
     | .sc (.bool b)=>b == p.2
     | _=>false)
   | none=>false)
def alh(P:Program)(G:Bc)(r:Rec)(fr:List AV)(s:AS)(o:Oper):Bool->Option Rs
 | true=>opK r s (US P G fr s o)
 | false=>some (.call (.ret (.sc undef)) s)
def amx(k:CR->Option CR):Option Rs->Option Rs
 | some (.call c s)=>(match k c with
   | some c1=>some (.call c1 s)
   | none=>none)
 | _=>none
def am9(s:AS)(n:Nat):Option AV->Option Rs
 | some v=>some (.call (.ret v) (fin v s n))
 | none=>none
def alO(P:Program)(fn:Func)(n:Nat):Option Rs->Option Rs
 | some (.code e fr s)=>(match e with
   | .normal=>am9 s n (JO P s fn fr)
   | .ret=>am9 s n (JO P s fn fr)
   | .JK v=>some (.call (.JK v) (s.cut n))
   | .exit _=>none)
 | _=>none
def alN(P:Program)(r:Rec)(fn:Func)(args:List AV)(s:AS):Option Code->Option Rs
 | some c=>alO P fn s.nx (r (.code c (args++List.replicate (fn.ntmps - args.length) (.sc undef)) s))
 | none=>none
def sH(P:Program)(r:Rec)(args:List AV)(s:AS):Option Func->Option Rs
 | some fn=>alN P r fn args s fn.body
 | none=>none
def amw(P:Program)(r:Rec)(f:FuncId)(args:List AV)(s:AS):Option (FuncId×List AV×(CR->Option CR))->Option Rs
 | some (g,YK,k)=>amx k (r (.call g YK s))
 | none=>sH P r args s P.funcs[f]?
def alZ(P:Program)(H:TV)(r:Rec)(f:FuncId)(args:List AV)(s:AS):Option (CR×AS)->Option Rs
 | some (c,s1)=>some (.call c s1)
 | none=>amw P r f args s (H f args)
def step(P:Program)(G:Bc)(X:ahS)(H:TV)(r:Rec):Tk->Option Rs
 | .code c fr s=>adk P G r fr s c
 | .loop c fr s=>ais r c (r (.code c fr s))
 | .ops ops l fr s=>agP r ops fr s l
 | .draw ops l fr s q=>mL r ops fr s q l
 | .op ops o fr s=>alh P G r fr s o (abc ops fr o.guard)
 | .call f args s=>alZ P H r f args s (X f args s)
end AI
namespace AI
open Go Go.RowKit
def aqE(l:List AV):Nat->AV:=List.rec (motive:=λ_=>Nat->AV) (λ_=>.sc undef) (λa _ ih n=>Nat.rec (motive:=λ_=>AV) a (λk _=>ih k) n) l
def aqM(v:AV)(l:List AV):Nat->List AV:=List.rec (motive:=λ_=>Nat->List AV) (λ_=>[]) (λa t ih n=>Nat.rec (motive:=λ_=>List AV) (v::t) (λk _=>a::ih k) n) l
def alI(fr:List AV)(dst:Option Tmp)(v:AV):List AV:=Option.rec (motive:=λ_=>List AV) fr (λd=>aqM v fr d) dst
abbrev Sm:=Program->Bc->List AV->AS->Oper->Option AR
def ajs(t:Tmp)(_:Bc)(fr:List AV):Option AV:=some (aqE fr t)
def ae8(v:Value)(_:Bc)(_:List AV):Option AV:=W7 v
def ajr(g:Nat)(G:Bc)(_:List AV):Option AV:=evG (G g)
def aps(f:FuncId)(_:Bc)(_:List AV):Option AV:=some (.fn (.func f) [] [])
def evR(x:Operand):Bc->List AV->Option AV:=Operand.rec (motive:=λ_=>Bc->List AV->Option AV) ajs ae8 ajr aps x
def gF{α β:Type}(o:Option α)(f:α->Option β):Option β:=Option.rec (motive:=λ_=>Option β) none f o
def amV(s:AS)(v:AV):Option AR:=some (.val v s)
def zH(s:AS)(o:Option AV):Option AR:=gF o (amV s)
def uN(x:Operand):Sm:=λ_ G fr s _=>zH s (evR x G fr)
def agI(c a b:Operand):Sm:=λ_ G fr s _=>Nc s (aiz (AZ G fr a) (AZ G fr b) (AZ G fr c))
def ac0(e:TypeId):Sm:=λP _ _ s _=>acm s (MP P e)
def ak8(_:TypeId)(x:Operand):Sm:=λ_ G fr s _=>tR s (AZ G fr x)
def ac1(t:TypeId)(ps:Array (Nat×Operand)):Sm:=λP G fr s _=>Nc s (iN (My G fr ps.toList) (Yc P t))
def aT(t:TypeId)(n:Nat)(ps:Array (Nat×Operand)):Sm:=λP G fr s _=>Nc s (iN (My G fr ps.toList) (MM P t n))
def agG(t:TypeId)(a:Operand):Sm:=λP G fr s _=>zH s (gF (evR a G fr) (K8 P s t))
def ac9(t:TypeId)(a x:Operand):Sm:=λP G fr s _=>mZ (two (AZ G fr a) (AZ G fr x) (Me P s t))
def ala(x:Operand):Sm:=λ_ G fr s _=>oK s (AZ G fr x)
def ak7(op:BinOp)(t:TypeId)(x y:Operand)(_:TypeId):Sm:=λP G fr s _=>zH s (gF (evR x G fr) (λa=>gF (evR y G fr) (λb=>Yb P op t x y a b)))
def anj(op:UnOp)(_:TypeId)(x:Operand):Sm:=λP G fr s _=>aiC P s (Op.unary op) (iN (AZ G fr x) ZF)
def agE(src dst:TypeId)(x:Operand):Sm:=λP G fr s _=>Nc s (iN (AZ G fr x) (WJ P src dst))
def ac4(t:TypeId)(x:Operand):Sm:=λP G fr s _=>pT t s (AZ G fr x) (P.underlying t)
def agF(f:Fn)(first Ng:Array Operand):Sm:=λ_ G fr s _=>func1 f s (aC G fr Ng.toList) (aC G fr first.toList)
def ak9(_:TypeId)(r:Option Operand):Sm:=λ_ _ _ s _=>kS s r
def agH(t:TypeId)(l c:Operand):Sm:=λP G fr s _=>zG (two (AZ G fr l) (AZ G fr c) (JN P s t))
def ac8(t:TypeId)(x:Operand)(lo hi mx:Option Operand):Sm:=λP G fr s _=>adg P s t (iO G fr lo) (iO G fr hi) (iO G fr mx) (AZ G fr x)
def yA(t:TypeId)(x:Operand)(k:Nat):Sm:=λP G fr s _=>zH s (gF (evR x G fr) λa=>Sj P t a k)
def ac3(t:TypeId)(x:Operand)(k:Nat):Sm:=λP G fr s _=>Nc s (iN (AZ G fr x) λa=>Yf P t a k)
def yB(t:TypeId)(x i:Operand):Sm:=λP G fr s _=>zH s (gF (evR x G fr) (λa=>gF (evR i G fr) (λb=>DB P t a b)))
def ac5(t:TypeId)(x i:Operand):Sm:=λP G fr s _=>zH s (gF (evR x G fr) (λa=>gF (evR i G fr) (λb=>XB P t a b)))
def yC(t:TypeId)(x k:Operand)(ok:Bool):Sm:=λP G fr s _=>Nc s (two (AZ G fr x) (AZ G fr k) λa b=>Jm P s t a b ok)
def ac7(t:TypeId)(m k x:Operand):Sm:=λP G fr s _=>mZ (three (AZ G fr m) (AZ G fr k) (AZ G fr x) (KS P s t))
def ac2(t:TypeId)(m k:Operand):Sm:=λP G fr s _=>zG (two (AZ G fr m) (AZ G fr k) (P7 P s t))
def x8(_:TypeId)(m st x:Operand):Sm:=λ_ G fr s _=>mZ (three (AZ G fr m) (AZ G fr st) (AZ G fr x) (MN s))
def rA(x:Operand)(k:Nat):Sm:=λ_ G fr s _=>Nc s (iN (AZ G fr x) λa=>Si a k)
def agD(cl:Call):Sm:=λP G fr s o=>dT P G fr s o cl
def ac6(x:Operand):Sm:=λ_ G fr _ _=>am5 (AZ G fr x)
def ani:Sm:=λ_ _ _ _ _=>none
def am3(op:Op):Sm:=match op with
 | .move x=>uN x
 | .assign x=>uN x
 | .pick c a b=>agI c a b
 | .alloc e=>ac0 e
 | .box e x=>ak8 e x
 | .build t ps=>ac1 t ps
 | .buildSlice t n ps=>aT t n ps
 | .load t a=>agG t a
 | .store t a x=>ac9 t a x
 | .nilCheck x=>ala x
 | .binOp op t x y z=>ak7 op t x y z
 | .unOp op t x=>anj op t x
 | .convert a b x=>agE a b x
 | .makeInterface t x=>ac4 t x
 | .makeFunc f a b=>agF f a b
 | .makeMap t r=>ak9 t r
 | .makeSlice t l c=>agH t l c
 | .slice t x lo hi mx=>ac8 t x lo hi mx
 | .fieldAddr t x k=>yA t x k
 | .field t x k=>ac3 t x k
 | .indexAddr t x i=>yB t x i
 | .index t x i=>ac5 t x i
 | .lookup t x k ok=>yC t x k ok
 | .mapUpdate t m k x=>ac7 t m k x
 | .insert t m k x=>ac7 t m k x
 | .mapEntry t m k=>ac2 t m k
 | .entryStore t m st x=>x8 t m st x
 | .extract x k=>rA x k
 | .call cl=>agD cl
 | .panic x=>ac6 x
 | _=>ani
def abd(ops:Array Oper)(fr:List AV)(g:Option (Nat×Bool)):Bool:=Option.rec (motive:=λ_=>Bool) true (λp=>abc ops fr (some p)) g
def am4(r:Rec)(ops:Array Oper)(dst:Option Tmp)(l:List Oper)(fr:List AV):Option Rs->Option Rs
 | some (.call c s)=>(match c with
   | .ret v=>r (.ops ops l (alI fr dst v) s)
   | .JK v=>some (.code (.JK v) fr s))
 | _=>none
def uR(P:Program)(G:Bc)(r:Rec)(fr:List AV)(s:AS)(o:Oper)(b:Bool):Option Rs:=Bool.rec (motive:=λ_=>Option Rs) (some (.call (.ret (.sc undef)) s)) (opK r s (am3 o.op P G fr s o)) b
def adl(P:Program)(G:Bc)(r:Rec)(ops:Array Oper)(fr:List AV)(s:AS)(l:List Oper):Option Rs:=List.rec (motive:=λ_=>Option Rs) (some (.code .normal fr s)) (λo l _=>am4 r ops o.dst l fr (uR P G r fr s o (abd ops fr o.guard))) l
abbrev Ss:=Program->Bc->Rec->List AV->AS->Option Rs
def alf:Ss:=λ_ _ _ fr s=>some (.code .normal fr s)
def ald(id:Nat):Ss:=λ_ _ _ fr s=>some (.code (.exit id) fr s)
def anm:Ss:=λ_ _ _ fr s=>some (.code .ret fr s)
def ann(x y:Code):Ss:=λ_ _ r fr s=>anl r y (r (.code x fr s))
def alc(q:Operand)(x y:Code):Ss:=λ_ G r fr s=>ah5 r x y fr s (AZ G fr q)
def agN(id:Nat)(c:Code):Ss:=λ_ _ r fr s=>aar id (r (.code c fr s))
def ale(c:Code):Ss:=λ_ _ r fr s=>aaF (r (.loop c fr s))
def adj(_:Nat)(ops:Array Oper)(d:Bool):Ss:=λP G r fr s=>uD P G r ops fr s d
def aqN:Ss:=λ_ _ _ _ _=>none
def ae2(c:Code):Ss:=match c with
 | .skip=>alf
 | .exit id=>ald id
 | .ret=>anm
 | .seq x y=>ann x y
 | .cond q x y=>alc q x y
 | .block id c=>agN id c
 | .loop c=>ale c
 | .region id ops d=>adj id ops d
 | _=>aqN
def Pm(P:Program)(G:Bc)(X:ahS)(H:TV)(r:Rec):Tk->Option Rs
 | .code c fr s=>ae2 c P G r fr s
 | .loop c fr s=>ais r c (r (.code c fr s))
 | .ops ops l fr s=>adl P G r ops fr s l
 | .draw ops l fr s q=>mL r ops fr s q l
 | .op ops o fr s=>uR P G r fr s o (abd ops fr o.guard)
 | .call f args s=>alZ P H r f args s (X f args s)
end AI
namespace AI
open Go Go.RowKit
mutual
def plain:AV->Bool
 | .sc _=>true
 | .agg cs=>BN cs
 | .C6 cs=>BN cs
 | .sl o _ cs=>(match o with | .row _ _=>false | _=>true)&&BN cs
 | .Fv _ v=>plain v
 | .el cs=>BN cs
 | .fn _ a b=>BN a&&BN b
 | .any=>true
 | _=>false
def BN:List AV->Bool
 | []=>true
 | a::l=>plain a&&BN l
end
mutual
def Ue:AV->AV
 | .agg cs=>.agg (Za cs)
 | .C6 cs=>.C6 (Za cs)
 | .sl o n cs=>.sl (match o with | .row _ _=>.lost | o=>o) n (Za cs)
 | .Fv t v=>.Fv t (Ue v)
 | .el cs=>.el (Za cs)
 | a=>a
def Za:List AV->List AV
 | []=>[]
 | a::l=>Ue a::Za l
end
mutual
def eF:AV->Bool
 | .sc _=>true
 | .agg cs=>Lz cs
 | .C6 cs=>Lz cs
 | .sl _ _ cs=>Lz cs
 | .Fv _ v=>eF v
 | .el cs=>Lz cs
 | .any=>true
 | _=>false
def Lz:List AV->Bool
 | []=>true
 | a::l=>eF a&&Lz l
end
section
variable {c c':Cx} {w w':World}
mutual
def Rp.plain(hv:∀g i v,P3 c w g i v->P3 c' w' g i v):∀{a:AV} {v:Value},AI.plain a=true->Rp c w a v->Rp c' w' a v:=by
 intro a v hp h;cases h with
 | sc h1=>exact .sc h1
 | agg h1=>exact .agg (CY.plain hv hp h1)
 | C6 h1=>exact .C6 (CY.plain hv hp h1)
 | @KA own A cap h1 =>
   simp only[AI.plain,Bool.and_eq_true] at hp;cases own with
   | full=>exact .KA h1
   | nil=>exact .KA h1
   | nn=>exact .KA h1
   | lost=>exact .KA h1
   | row r sz=>cases hp.1
 | @No own n cap g o cs hn h1 ho =>
   simp only[AI.plain,Bool.and_eq_true] at hp;refine .No hn (Bk.plain hv hp.2 h1) ?_;cases own with
   | full=>exact ho
   | nil=>exact ho
   | nn=>exact ho
   | lost=>trivial
   | row r sz=>cases hp.1
 | Oo hn h1=>cases hp
 | el h1=>exact .el (Bk.plain hv hp h1)
 | ptr h1=>cases hp
 | fn h1 h2 =>
   simp only[AI.plain,Bool.and_eq_true] at hp;exact .fn (CY.plain hv hp.1 h1) (CY.plain hv hp.2 h2)
 | Fv h1=>exact .Fv (Rp.plain hv hp h1)
 | mp h1=>cases hp
 | any h1=>exact .any h1
 | raw=>first | (cases hp;done) | exact .raw
def CY.plain(hv:∀g i v,P3 c w g i v->P3 c' w' g i v):∀{a:List AV} {v:List Value},AI.BN a=true->CY c w a v->CY c' w' a v:=by
 intro a v hp h;cases h with
 | nil=>exact .nil
 | cons h1 t =>
   simp only[AI.BN,Bool.and_eq_true] at hp;exact .cons (Rp.plain hv hp.1 h1) (CY.plain hv hp.2 t)
def Bk.plain(hv:∀g i v,P3 c w g i v->P3 c' w' g i v):∀{a:List AV} {g o:Nat},AI.BN a=true->Bk c w g o a->Bk c' w' g o a:=by
 intro a g o hp h;cases h with
 | nil=>exact .nil
 | cons hvv h1 t =>
   simp only[AI.BN,Bool.and_eq_true] at hp;exact .cons (hv _ _ _ hvv) (Rp.plain hv hp.1 h1) (Bk.plain hv hp.2 t)
end
mutual
def Rp.Ue(hv:∀g i v,P3 c w g i v->P3 c' w' g i v):∀{a:AV} {v:Value},eF a=true->Rp c w a v->Rp c' w' (AI.Ue a) v:=by
 intro a v hp h;cases h with
 | sc h1=>exact .sc h1
 | agg h1=>exact .agg (CY.Ue hv hp h1)
 | C6 h1=>exact .C6 (CY.Ue hv hp h1)
 | @KA own A cap h1 =>
   cases own with
   | full=>exact .KA h1
   | nil=>exact .KA h1
   | nn=>exact .KA h1
   | lost=>exact .KA h1
   | row r sz=>exact .KA trivial
 | @No own n cap g o cs hn h1 ho =>
   have h2:=Bk.Ue hv hp h1;refine .No hn h2 ?_;cases own with
   | full=>exact ho
   | nil=>exact ho
   | nn=>exact ho
   | lost=>trivial
   | row r sz=>trivial
 | Oo hn h1=>cases hp
 | el h1=>exact .el (Bk.Ue hv hp h1)
 | ptr h1=>cases hp
 | fn h1 h2=>cases hp
 | Fv h1=>exact .Fv (Rp.Ue hv hp h1)
 | mp h1=>cases hp
 | any h1=>exact .any h1
 | raw=>first | (cases hp;done) | exact .raw
def CY.Ue(hv:∀g i v,P3 c w g i v->P3 c' w' g i v):∀{a:List AV} {v:List Value},Lz a=true->CY c w a v->CY c' w' (AI.Za a) v:=by
 intro a v hp h;cases h with
 | nil=>exact .nil
 | cons h1 t =>
   simp only[AI.Lz,Bool.and_eq_true] at hp;exact .cons (Rp.Ue hv hp.1 h1) (CY.Ue hv hp.2 t)
def Bk.Ue(hv:∀g i v,P3 c w g i v->P3 c' w' g i v):∀{a:List AV} {g o:Nat},Lz a=true->Bk c w g o a->Bk c' w' g o (AI.Za a):=by
 intro a g o hp h;cases h with
 | nil=>exact .nil
 | cons hvv h1 t =>
   simp only[AI.Lz,Bool.and_eq_true] at hp;exact .cons (hv _ _ _ hvv) (Rp.Ue hv hp.1 h1) (Bk.Ue hv hp.2 t)
end
end
def s0:AS:=⟨[],0,[],0⟩
end AI
namespace AI
open Go Go.RowKit
mutual
def under(n m:Nat):AV->Bool
 | .sc _=>true
 | .agg cs=>FJ n m cs
 | .C6 cs=>FJ n m cs
 | .sl o _ cs=>(match o with | .row r _=>decide (r < m) | _=>true)&&FJ n m cs
 | .Oo id _ _=>decide (id < n)
 | .el cs=>FJ n m cs
 | .ptr id _=>decide (id < n)
 | .fn _ a b=>FJ n m a&&FJ n m b
 | .Fv _ v=>under n m v
 | .mp id=>decide (id < n)
 | .any=>true
 | .raw _ _ _=>true
def FJ(n m:Nat):List AV->Bool
 | []=>true
 | a::l=>under n m a&&FJ n m l
end
mutual
def GH(n m:Nat):∀{a:AV},plain a=true->under n m a=true
 | .sc _,_=>rfl
 | .agg cs,h=>by simp only[plain] at h;simp only[under];exact Cf n m h
 | .C6 cs,h=>by simp only[plain] at h;simp only[under];exact Cf n m h
 | .sl o k cs,h=>by
   simp only[plain,Bool.and_eq_true] at h;simp only[under,Bool.and_eq_true];refine⟨?_,Cf n m h.2⟩;cases o with
   | row r sz=>cases h.1
   | _=>rfl
 | .Oo _ _ _,h=>by cases h
 | .el cs,h=>by simp only[plain] at h;simp only[under];exact Cf n m h
 | .ptr _ _,h=>by cases h
 | .fn _ a b,h=>by
   simp only[plain,Bool.and_eq_true] at h;simp only[under,Bool.and_eq_true];exact⟨Cf n m h.1,Cf n m h.2⟩
 | .Fv _ v,h=>by simp only[plain] at h;simp only[under];exact GH n m h
 | .mp _,h=>by cases h
 | .any,_=>rfl
 | .raw _ _ _,_=>rfl
def Cf(n m:Nat):∀{l:List AV},BN l=true->FJ n m l=true
 | [],_=>rfl
 | a::l,h=>by
   simp only[BN,Bool.and_eq_true] at h;simp only[FJ,Bool.and_eq_true];exact⟨GH n m h.1,Cf n m h.2⟩
end
def Cx.upto(c:Cx)(n m:Nat):Cx:=⟨c.base,c.DA.take n,c.rows.take m,c.bad⟩
def J9{α:Type}{l:List α}{n i:Nat}{x:α}(h:(l.take n)[i]?=some x):l[i]?=some x/\i < n:=by
 rw[List.getElem?_take] at h;split at h;rename_i hi;exact⟨h,hi⟩;cases h
def VD{α:Type}{l:List α}{n i:Nat}{x:α}(h:l[i]?=some x)(hi:i < n):(l.take n)[i]?=some x:=by
 rw[List.getElem?_take,if_pos hi];exact h
section
variable {c:Cx} {w:World} {n m:Nat}
def ade{g i:Nat}(h:(c.upto n m).yH g i):c.yH g i:=by
 rcases h with h | ⟨r,n,cap,sz,hr,h⟩ | h
 exact .inl (List.mem_of_mem_take h);exact .inr (.inl ⟨r,n,cap,sz,(J9 hr).1,h⟩);exact .inr (.inr h)
def ZT{g i:Nat}{v:Value}(h:P3 c w g i v):P3 (c.upto n m) w g i v:=⟨h.1,λhs=>h.2.1 (ade hs),h.2.2⟩
mutual
def Rp.upto:∀{a:AV} {v:Value},under n m a=true->Rp c w a v->Rp (c.upto n m) w a v:=by
 intro a v hp h;cases h with
 | sc h1=>exact .sc h1
 | agg h1=>exact .agg (CY.upto hp h1)
 | C6 h1=>exact .C6 (CY.upto hp h1)
 | @KA own A cap h1 =>
   simp only[AI.under,Bool.and_eq_true] at hp;cases own with
   | full=>exact .KA h1
   | nil=>exact .KA h1
   | nn=>exact .KA h1
   | lost=>exact .KA trivial
   | row r sz =>
     have hr:r < m:=of_decide_eq_true hp.1;refine .KA ⟨h1.1,?_⟩;have:=h1.2;simp only[Cx.upto,List.length_take];omega
 | @No own k cap g o cs hn h1 ho =>
   simp only[AI.under,Bool.and_eq_true] at hp;refine .No hn (Bk.upto hp.2 h1) ?_;cases own with
   | full=>exact ho
   | nil=>exact ho
   | nn=>exact ho
   | lost=>trivial
   | row r sz =>
     have hr:r < m:=of_decide_eq_true hp.1;refine⟨ho.1,ho.2.1,?_,λe=>ho.2.2.2.1 (J9 e).1,λg' n' c' s' e=>ho.2.2.2.2 g' n' c' s' (J9 e).1⟩;have:=ho.2.2.1;simp only[Cx.upto,List.length_take];omega
 | Oo hn h1=>exact .Oo hn (VD h1 (of_decide_eq_true hp))
 | el h1=>exact .el (Bk.upto hp h1)
 | ptr h1=>exact .ptr (VD h1 (of_decide_eq_true hp))
 | fn h1 h2 =>
   simp only[AI.under,Bool.and_eq_true] at hp;exact .fn (CY.upto hp.1 h1) (CY.upto hp.2 h2)
 | Fv h1=>exact .Fv (Rp.upto hp h1)
 | mp h1=>exact .mp (VD h1 (of_decide_eq_true hp))
 | any h1=>exact .any h1
 | raw=>exact .raw
def CY.upto:∀{a:List AV} {v:List Value},FJ n m a=true->CY c w a v->CY (c.upto n m) w a v:=by
 intro a v hp h;cases h with
 | nil=>exact .nil
 | cons h1 t =>
   simp only[AI.FJ,Bool.and_eq_true] at hp;exact .cons (Rp.upto hp.1 h1) (CY.upto hp.2 t)
def Bk.upto:∀{a:List AV} {g o:Nat},FJ n m a=true->Bk c w g o a->Bk (c.upto n m) w g o a:=by
 intro a g o hp h;cases h with
 | nil=>exact .nil
 | cons hvv h1 t =>
   simp only[AI.FJ,Bool.and_eq_true] at hp;exact .cons (ZT hvv) (Rp.upto hp.1 h1) (Bk.upto hp.2 t)
end
end
def U4:AV->Bool
 | .sc v=>XC v
 | _=>true
def T3{c:Cx}{w:World}{a:AV}{v:Value}(h:Rp c w a v)(hd:U4 a=true):XC v=true:=by
 cases h<;>first | rfl | exact hd | assumption | (cases hd;done)
def rK:AV->AV
 | .sl _ n cs=>.sl .lost n cs
 | a=>a
inductive Fg(n m:Nat):List AV->List AV->Prop where
 | nil:Fg n m [] []
 | Vi {a:AV} {l k:List AV} (h:under n m a=true) (t:Fg n m l k):Fg n m (a::l) (a::k)
 | drop {a:AV} {l k:List AV} (h:U4 a=true) (t:Fg n m l k):Fg n m (a::l) (.any::k)
 | lost {o:Own} {j:Nat} {cs l k:List AV} (h:FJ n m cs=true) (t:Fg n m l k):Fg n m (.sl o j cs::l) (.sl .lost j cs::k)
def Fg.ok{n m:Nat}{l k:List AV}(h:Fg n m l k){c:Cx}{w:World}{vs:List Value}(hr:CY c w l vs):CY (c.upto n m) w k vs:=by
 induction h generalizing vs with
 | nil=>cases hr;exact .nil
 | Vi h _ ih=>cases hr with | cons h1 t=>exact .cons (h1.upto h) (ih t)
 | drop h _ ih=>cases hr with | cons h1 t=>exact .cons (.any (T3 h1 h)) (ih t)
 | @lost o j cs l k h _ ih =>
   cases hr with
   | cons h1 t =>
     refine .cons ?_ (ih t);cases h1 with
     | KA _=>exact .KA trivial
     | No hn hc ho=>exact .No hn (hc.upto h) trivial
def X1(n m:Nat):List (Value×AV×Nat)->Bool
 | []=>true
 | e::l=>under n m e.2.1&&X1 n m l
def adQ(n m:Nat):Bl->Bool
 | .cells cs=>FJ n m cs
 | .map es _=>X1 n m es
def K0.upto{c:Cx}{w:World}{n m:Nat}:∀{es:List (Value×AV×Nat)} {fs:List MapEntry},X1 n m es=true->K0 c w es fs->K0 (c.upto n m) w es fs:=by
 intro es
 induction es with
 | nil=>intro fs _ h;cases h;exact .nil
 | cons e es ih =>
   intro fs hu h;obtain⟨x,a,b⟩:=e;simp only[X1,Bool.and_eq_true] at hu;cases h with | cons h1 t=>exact .cons (h1.upto hu.1) (ih hu.2 t)
def FK.upto{c:Cx}{w:World}{n m:Nat}{b:Bl}{o:Obj}(hb:adQ n m b=true)(h:FK c w b o):FK (c.upto n m) w b o:=by
 cases h with
 | Ja ext h1=>exact .Ja ext (h1.upto hb)
 | map h1=>exact .map (h1.upto hb)
def Fits(n m:Nat)(a b:AV):Prop:=∀(c:Cx) (w:World) (v:Value),Rp c w a v->Rp (c.upto n m) w b v
def K7(n m:Nat)(a b:List AV):Prop:=∀(c:Cx) (w:World) (v:List Value),CY c w a v->CY (c.upto n m) w b v
def TE(n m:Nat)(a b:List AV):Prop:=∀(c:Cx) (w:World) (g o:Nat),Bk c w g o a->Bk (c.upto n m) w g o b
def TD(n m:Nat)(a b:Bl):Prop:=∀(c:Cx) (w:World) (o:Obj),FK c w a o->FK (c.upto n m) w b o
def Fg.fits{n m:Nat}{l k:List AV}(h:Fg n m l k):K7 n m l k:=λ_ _ _ hr=>h.ok hr
def Fits.under{n m:Nat}{a:AV}(h:AI.under n m a=true):Fits n m a a:=λ_ _ _ hr=>hr.upto h
def K7.under{n m:Nat}{a:List AV}(h:AI.FJ n m a=true):K7 n m a a:=λ_ _ _ hr=>hr.upto h
def TE.under{n m:Nat}{a:List AV}(h:AI.FJ n m a=true):TE n m a a:=λ_ _ _ _ hr=>hr.upto h
def TD.under{n m:Nat}{b:Bl}(h:adQ n m b=true):TD n m b b:=λ_ _ _ hr=>hr.upto h
def Fits.plain{n m:Nat}{a:AV}(h:AI.plain a=true):Fits n m a a:=.under (GH n m h)
def K7.plain{n m:Nat}{a:List AV}(h:BN a=true):K7 n m a a:=.under (Cf n m h)
def TE.plain{n m:Nat}{a:List AV}(h:BN a=true):TE n m a a:=.under (Cf n m h)
def Fits.sc{n m:Nat}{v:Value}:Fits n m (.sc v) (.sc v):=.under rfl
def Fits.drop{n m:Nat}{a:AV}(h:U4 a=true):Fits n m a .any:=λ_ _ _ hr=>.any (T3 hr h)
def Fits.agg{n m:Nat}{a b:List AV}(h:K7 n m a b):Fits n m (.agg a) (.agg b):=λ_ _ _ hr=>by cases hr with | agg h1=>exact .agg (h _ _ _ h1)
def Fits.C6{n m:Nat}{a b:List AV}(h:K7 n m a b):Fits n m (.C6 a) (.C6 b):=λ_ _ _ hr=>by cases hr with | C6 h1=>exact .C6 (h _ _ _ h1)
def Fits.lost{n m:Nat}{o:Own}{k:Nat}{a b:List AV}(h:TE n m a b)(e:a=[]->b=[]):Fits n m (.sl o k a) (.sl .lost k b):=λ_ _ _ hr=>by
 cases hr with
 | KA _=>rw[e rfl];exact .KA trivial
 | No hn hc ho=>exact .No hn (h _ _ _ _ hc) trivial
def K7.nil{n m:Nat}:K7 n m [] []:=λ_ _ _ hr=>by cases hr;exact .nil
def K7.cons{n m:Nat}{a b:AV}{l k:List AV}(h:Fits n m a b)(t:K7 n m l k):K7 n m (a::l) (b::k):=λ_ _ _ hr=>by cases hr with | cons h1 t1=>exact .cons (h _ _ _ h1) (t _ _ _ t1)
def TE.nil{n m:Nat}:TE n m [] []:=λ_ _ _ _ hr=>by cases hr;exact .nil
def TE.cons{n m:Nat}{a b:AV}{l k:List AV}(h:Fits n m a b)(t:TE n m l k):TE n m (a::l) (b::k):=λ_ _ _ _ hr=>by cases hr with | cons hv h1 t1=>exact .cons (ZT hv) (h _ _ _ h1) (t _ _ _ _ t1)
def TD.cells{n m:Nat}{a b:List AV}(h:K7 n m a b):TD n m (.cells a) (.cells b):=λ_ _ _ hr=>by cases hr with | Ja ext h1=>exact .Ja ext (h _ _ _ h1)
def afg{G:Bc}(hG:∀g cs,G g=some cs->BN cs=true){s s' s2:AS}{Cp fr2:List AV}(hn:s2.nx=s.nx)(hr:s2.nr=s.nr)
   (hd:KC s2.h s2.nx) (apI:∀id b,look id s2.h=some b->∃b',look id s'.h=some b'/\TD s.nx s.nr b' b) (hF:∀r n,Fw r s2.F=some n->Fw r s'.F=some n/\r < s.nr)
   (hf:K7 s.nx s.nr Cp fr2) (cx:Cx) (w:World) (c':Cx) (w':World) (vs:List Value) (hx:Ext cx w c' w') (hs:St G cx w s) (CX:St G c' w' s') (Q7:CY c' w' Cp vs) :
   ∃c2,Ext cx w c2 w'/\St G c2 w' s2/\CY c2 w' fr2 vs:=by
 have Ub:c'.DA.take s.nx=cx.DA:=by
   obtain⟨t,ht⟩:=hx.DA;rw[<- ht,hs.len,List.take_left]
 have hrl:(c'.rows.take s.nr).length=cx.rows.length:=by
   have:=hx.J6;rw[List.length_take,hs.J6];omega
 refine⟨c'.upto s.nx s.nr,⟨?_,?_,λr x Z6 h=>?_,λg i v hv=>ZT (hx.iD g i v hv),hx.below,hx.base,hx.bad,λg hg=>hx.lF g (List.mem_of_mem_take hg),λr g n cap sz h=>hx.lU r g n cap sz (J9 h).1,hx.Vi⟩,?_,hf _ _ _ Q7⟩;show cx.DA <+: c'.DA.take s.nx;rw[Ub];exact List.prefix_refl _;show cx.rows.length<=(c'.rows.take s.nr).length;omega;exact hx.rows r x Z6 (J9 h).1;refine⟨?_,hd,λi j g h1 h2=>CX.nodup i j g (J9 h1).1 (J9 h2).1,λg hg=>CX.low g (List.mem_of_mem_take hg),λid g b h1 h2=>?_,?_,λr g n cap sz h=>?_,λr n h=>?_,λg hg=>CX.O2 g (List.mem_of_mem_take hg),CX.OW,λr r' g n cap sz n' CC P5 h h'=>CX.J2 r r' g n cap sz n' CC P5 (J9 h).1 (J9 h').1,λg cs hg=>(CX.PH g cs hg).upto (Cf _ _ (hG g cs hg)),CX.Su⟩;show s2.nx=(c'.DA.take s.nx).length;rw[Ub,hn,hs.len];obtain⟨b',h3,h4⟩:=apI id b h2;obtain⟨o,ho,hb⟩:=CX.box id g b' (J9 h1).1 h3;exact⟨o,ho,h4 _ _ _ hb⟩;show s2.nr=(c'.rows.take s.nr).length;rw[hrl,hr,hs.J6];obtain⟨a1,a2,a3,a4⟩:=CX.row r g n cap sz (J9 h).1;exact⟨a1,a2,λhm=>a3 (List.mem_of_mem_take hm),a4⟩;obtain⟨h1,h2⟩:=hF r n h;rcases CX.Kw r n h1 with ⟨h3,h4⟩ | ⟨g,cap,sz,h3⟩
 exact .inl ⟨VD h3 h2,h4⟩;exact .inr ⟨g,cap,sz,VD h3 h2⟩
end AI
namespace AI
open Go Go.RowKit
section
variable {P:Program} {G:Bc} {X:Xg} {H:TV}
def W(P:Program)(G:Bc)(X:Xg)(H:TV)(c:Code)(fr:List AV)(s:AS)(Q:AX->List AV->AS->Prop):Prop:=∃e Cp s',J P G X H (.code c fr s e Cp s')/\Q e Cp s'
def WL(P:Program)(G:Bc)(X:Xg)(H:TV)(c:Code)(fr:List AV)(s:AS)(Q:AX->List AV->AS->Prop):Prop:=∃e Cp s',J P G X H (.loop c fr s e Cp s')/\Q e Cp s'
def WC(P:Program)(G:Bc)(X:Xg)(H:TV)(f:FuncId)(args:List AV)(s:AS)(Q:CR->AS->Prop):Prop:=∃r s',J P G X H (.call f args s r s')/\Q r s'
def aiN(P:Program)(G:Bc)(X:Xg)(H:TV)(y:Code)(Q:AX->List AV->AS->Prop):AX->List AV->AS->Prop
 | .normal,fr,s=>W P G X H y fr s Q
 | e,fr,s=>Q e fr s
def ET(id:Nat)(Q:AX->List AV->AS->Prop):AX->List AV->AS->Prop:=λe fr s=>Q (E7 id e) fr s
def U1(P:Program)(fn:Func)(n:Nat)(Q:CR->AS->Prop):AX->List AV->AS->Prop
 | .normal,fr,s=>∃v,JO P s fn fr=some v/\Q (.ret v) (s.cut n)
 | .ret,fr,s=>∃v,JO P s fn fr=some v/\Q (.ret v) (s.cut n)
 | .JK v,_,s=>Q (.JK v) (s.cut n)
 | _,_,_=>False
def W.mono{c:Code}{fr:List AV}{s:AS}{Q R:AX->List AV->AS->Prop}(h:W P G X H c fr s Q)(k:∀e fr s,Q e fr s->R e fr s):W P G X H c fr s R:=by
 obtain⟨e,Cp,s',h1,h2⟩:=h;exact⟨e,Cp,s',h1,k _ _ _ h2⟩
def WC.mono{f:FuncId}{args:List AV}{s:AS}{Q R:CR->AS->Prop}(h:WC P G X H f args s Q)(k:∀r s,Q r s->R r s):WC P G X H f args s R:=by
 obtain⟨r,s',h1,h2⟩:=h;exact⟨r,s',h1,k _ _ h2⟩
def alF{x y:Code}{fr:List AV}{s:AS}{Q:AX->List AV->AS->Prop}(h:W P G X H x fr s (aiN P G X H y Q)):W P G X H (.seq x y) fr s Q:=by
 obtain⟨e,WS,s1,h1,h2⟩:=h;cases e with
 | normal =>
   obtain⟨e2,fr2,s2,h3,h4⟩:=h2;exact⟨e2,fr2,s2,.seq h1 h3,h4⟩
 | exit id=>exact⟨_,_,_,.rB h1 (by simp),h2⟩
 | ret=>exact⟨_,_,_,.rB h1 (by simp),h2⟩
 | JK v=>exact⟨_,_,_,.rB h1 (by simp),h2⟩
def aeO{q:Operand}{x y:Code}{fr:List AV}{s:AS}{Q:AX->List AV->AS->Prop}(hq:Bg G fr q=some (.sc (.bool true)))(h:W P G X H x fr s Q):W P G X H (.cond q x y) fr s Q:=by
 obtain⟨e,WS,s1,h1,h2⟩:=h;exact⟨e,WS,s1,.cond hq h1,h2⟩
def aeN{q:Operand}{x y:Code}{fr:List AV}{s:AS}{Q:AX->List AV->AS->Prop}(hq:Bg G fr q=some (.sc (.bool false)))(h:W P G X H y fr s Q):W P G X H (.cond q x y) fr s Q:=by
 obtain⟨e,WS,s1,h1,h2⟩:=h;exact⟨e,WS,s1,.cond hq h1,h2⟩
def rU{id:Nat}{c:Code}{fr:List AV}{s:AS}{Q:AX->List AV->AS->Prop}(h:W P G X H c fr s (ET id Q)):W P G X H (.block id c) fr s Q:=by
 obtain⟨e,WS,s1,h1,h2⟩:=h;exact⟨_,WS,s1,.block h1,h2⟩
def ai5{c:Code}{fr:List AV}{s:AS}{Q:AX->List AV->AS->Prop}(h:WL P G X H c fr s Q):W P G X H (.loop c) fr s Q:=by
 obtain⟨e,WS,s1,h1,h2⟩:=h;exact⟨_,WS,s1,.loop h1,h2⟩
def drop_cons{α:Type}{o:α}{l m:List α}{k:Nat}(h:o::l=m.drop k):m[k]?=some o/\l=m.drop (k+1):=by
 constructor;have:=congrArg (λx=>x[0]?) h;simpa using this.symm
 have:=congrArg List.tail h;rw[List.tail_drop] at this;exact this
def Au{f:FuncId}{fn:Func}{c:Code}{args:List AV}{s:AS}{Q:CR->AS->Prop}(hf:P.funcs[f]?=some fn)(hb:fn.body=some c)(h:W P G X H c (args++List.replicate (fn.ntmps - args.length) (.sc undef)) s (U1 P fn s.nx Q)):WC P G X H f args s Q:=by
 obtain⟨e,WS,s1,h1,h2⟩:=h;cases e with
 | normal=>obtain⟨v,h3,h4⟩:=h2;exact⟨_,_,.body hf hb h1 (.inl rfl) h3 (.inl rfl),h4⟩
 | ret=>obtain⟨v,h3,h4⟩:=h2;exact⟨_,_,.body hf hb h1 (.inr rfl) h3 (.inl rfl),h4⟩
 | JK v=>exact⟨_,_,.ah0 hf hb h1,h2⟩
 | exit id=>exact h2.elim
end
end AI
namespace AI
open Go Go.RowKit
abbrev XS(P:Program)(G:Bc):Xg:=λf args s r s'=>Sound P G (.call f args s r s')
def H0:TV:=λ_ _=>none
def T7{P:Program}{G:Bc}(h:P.follows .mixedOrders=true):ahU P G (XS P G) H0:=⟨h,λ_ _ _ _ _ h=>h,λ_ _ _ _ _ h=>by cases h⟩
def Pure(P:Program)(G:Bc)(f:FuncId)(args:List AV)(v:AV):Prop:=∀s,Sound P G (.call f args s (.ret v) s)
def rows{α:Type}(f:α->List AV)(l:List α):List AV:=l.flatMap f
def cM{α:Type}{f:α->List AV}{k:Nat}(hf:∀x,(f x).length=k){l:List α}{i:Nat}{x:α}(h:l[i]?=some x):(rows f l).drop (i*k)=f x++rows f (l.drop (i+1)):=by
 induction l generalizing i with
 | nil=>simp at h
 | cons y l ih =>
   cases i with
   | zero=>simp at h;subst h;simp[rows]
   | succ i =>
     have:=ih (i:=i) (by simpa using h)
     have e:rows f (y::l)=f y++rows f l:=by simp[rows]
     rw[e,List.drop_append,hf y,show(i+1)*k - k=i*k by rw[Nat.add_mul];omega,List.drop_eq_nil_of_le (by rw[hf y,Nat.add_mul];omega),List.nil_append,this];simp
def SR{α:Type}{f:α->List AV}{k:Nat}(hf:∀x,(f x).length=k)(l:List α):(rows f l).length=l.length*k:=by
 induction l with
 | nil=>simp[rows]
 | cons y l ih =>
   have e:rows f (y::l)=f y++rows f l:=by simp[rows]
   rw[e,List.length_append,hf y,ih,List.length_cons,Nat.add_mul];omega
def W9{α:Type}(f:α->List AV)(l m:List α):rows f (l++m)=rows f l++rows f m:=by simp[rows]
def I9{α:Type}(f:α->List AV)(x:α)(m:List α):rows f (x::m)=f x++rows f m:=by simp[rows]
def qV{α:Type}{f:α->List AV}{l:List α}(h:∀x∈l,BN (f x)=true):BN (rows f l)=true:=by
 have WK:∀a b:List AV,BN a=true->BN b=true->BN (a++b)=true:=by
   intro a b ha hb
   induction a with
   | nil=>exact hb
   | cons x a ih =>
     simp only[BN,Bool.and_eq_true,List.cons_append] at ha ⊢;exact⟨ha.1,ih ha.2⟩
 induction l with
 | nil=>rfl
 | cons y l ih=>rw[I9];exact WK _ _ (h y List.mem_cons_self) (ih λx hx=>h x (List.mem_cons_of_mem _ hx))
def pV{P:Program}{α:Type}{f:α->List AV}{k:Nat}{t elem:TypeId}{e:TypeInfo}(hu:P.underlying t=some (.slice elem))(he:P.info? elem=some e)(hk:e.size=k)(hf:∀x,(f x).length=k){own:Own}{l:List α}{i:Nat}{x:α}(h:l[i]?=some x) :
   DB P t (.sl own l.length (rows f l)) (.sc (.int .i64 (i:Int)))=some (.el (f x++rows f (l.drop (i+1)))):=by
 have hi:=(List.getElem?_eq_some_iff.1 h).1
 have hn:To (.sc (.int .i64 (i:Int)))=some i:=by
   unfold To;simp
 unfold DB;rw[hu,hn];simp only[he,hk,if_pos hi,cM hf h]
def ad8{i:Nat}(h:i<=9223372036854775807):IntKind.i64.wrap (i:Int)=(i:Int):=by
 refine IntWalk.i64_in _ ?_;omega
end AI
namespace AI
open Go Go.RowKit
section
variable {G:Bc}
inductive NZ where
 | t (tmp sz:Nat)
 | b (id i sz:Nat)
 | l (tmp:Nat)
 | lb (id i:Nat)
def afV:AV->Bool
 | .sl .full n cs=>(match n with | 0=>(match cs with | []=>true | _=>false) | _=>false)
 | _=>false
def nz1(fr:List AV)(s:AS):NZ->Option (List AV×AS)
 | .t k sz=>(match fr[k]? with
   | some a=>(match afV a with
     | true=>some (fr.set k (.sl (.row s.nr sz) 0 []),s.tok)
     | false=>none)
   | none=>none)
 | .b id i sz=>(match look id s.h with
   | some (.cells cs)=>(match cs[i]? with
     | some a=>(match afV a with
       | true=>some (fr,⟨uZ id (.cells (cs.set i (.sl (.row s.nr sz) 0 []))) s.h,s.nx,(s.nr,0)::s.F,s.nr+1⟩)
       | false=>none)
     | none=>none)
   | _=>none)
 | .l k=>(match fr[k]? with
   | some a=>some (fr.set k (rK a),s)
   | none=>none)
 | .lb id i=>(match look id s.h with
   | some (.cells cs)=>(match cs[i]? with
     | some a=>some (fr,⟨uZ id (.cells (cs.set i (rK a))) s.h,s.nx,s.F,s.nr⟩)
     | none=>none)
   | _=>none)
def nzs:List NZ->List AV->AS->Option (List AV×AS)
 | [],fr,s=>some (fr,s)
 | z::l,fr,s=>(match nz1 fr s z with
   | some (fr,s)=>nzs l fr s
   | none=>none)
def Wkn(G:Bc)(fr:List AV)(s:AS)(fr2:List AV)(s2:AS):Prop:=∀(cx:Cx) (w:World) (vs:List Value),St G cx w s->CY cx w fr vs->∃cx2,Ext cx w cx2 w/\St G cx2 w s2/\CY cx2 w fr2 vs
def Wkn.refl{fr:List AV}{s:AS}:Wkn G fr s fr s:=λcx w vs h1 h2=>⟨cx,Ext.refl _ _,h1,h2⟩
def Wkn.trans{fr fr2 fr3:List AV}{s s2 s3:AS}(h:Wkn G fr s fr2 s2)(k:Wkn G fr2 s2 fr3 s3):Wkn G fr s fr3 s3:=λcx w vs h1 h2=>by
 obtain⟨c2,x2,s2,r2⟩:=h cx w vs h1 h2;obtain⟨c3,x3,s3,r3⟩:=k c2 w vs s2 r2;exact⟨c3,x2.trans x3,s3,r3⟩
def tS{a:AV}(h:afV a=true){c:Cx}{w:World}{v:Value}(hr:Rp c w a v){r sz:Nat}(hl:r < c.rows.length):Rp c w (.sl (.row r sz) 0 []) v:=by
 unfold afV at h;split at h
 . split at h
   . split at h
     . cases hr with
       | KA h0=>exact .KA ⟨h0,hl⟩
       | No hn hc ho =>
         have:_=0:=ho;subst this;exact .KA ⟨rfl,hl⟩
     cases h
   cases h
 cases h
def cZ{a:AV}{c:Cx}{w:World}{v:Value}(hr:Rp c w a v):Rp c w (rK a) v:=by
 cases hr with
 | KA _=>exact .KA trivial
 | No hn hc ho=>exact .No hn hc trivial
 | sc h=>exact .sc h
 | agg h=>exact .agg h
 | C6 h=>exact .C6 h
 | Oo h1 h2=>exact .Oo h1 h2
 | el h=>exact .el h
 | ptr h=>exact .ptr h
 | fn h1 h2=>exact .fn h1 h2
 | Fv h=>exact .Fv h
 | mp h=>exact .mp h
 | any h=>exact .any h
 | raw=>exact .raw
def CY.agK{c:Cx}{w:World}{as:List AV}{vs:List Value}(h:CY c w as vs){i:Nat}{a b:AV}(ha:as[i]?=some a)(hb:∀v,Rp c w a v->Rp c w b v):CY c w (as.set i b) vs:=by
 induction as generalizing vs i with
 | nil=>simp at ha
 | cons x as ih =>
   cases h with
   | cons h1 t =>
     cases i with
     | zero=>simp at ha;subst ha;exact .cons (hb _ h1) t
     | succ i=>exact .cons h1 (ih t (by simpa using ha))
def St.xU{c:Cx}{w:World}{s:AS}(h:St G c w s){id:Nat}{b b2:Bl}(hb:look id s.h=some b)(hk:∀o,FK c w b o->FK c w b2 o):St G c w ⟨uZ id b2 s.h,s.nx,s.F,s.nr⟩ :=
 ⟨h.len,ZO h.desc,h.nodup,h.low,λRN g b' h1 h2=>by
   rcases ZP h2 with ⟨rfl,rfl⟩ | ⟨_,h3⟩
   obtain⟨o,ho,hbo⟩:=h.box _ g b h1 hb;exact⟨o,ho,hk o hbo⟩;exact h.box RN g b' h1 h3,h.J6,h.row,h.Kw,h.O2,h.OW,h.J2,h.PH,h.Su⟩
def akI{fr fr2:List AV}{s s2:AS}{z:NZ}(h:nz1 fr s z=some (fr2,s2)):Wkn G fr s fr2 s2:=by
 intro cx w vs hs hr;cases z with
 | t k sz =>
   simp only[nz1] at h;split at h;rename_i a ha;split at h;rename_i hn;cases h;obtain⟨x,st⟩:=hs.tok;refine⟨_,x,st,(hr.mono x).agK ha (λv hv=>tS hn hv ?_)⟩;simp[hs.J6];cases h;cases h
 | b id i sz =>
   simp only[nz1] at h;split at h;rename_i cs hb;split at h;rename_i a ha;split at h;rename_i hn;cases h;obtain⟨x,st⟩:=hs.tok;refine⟨_,x,st.xU (b:=.cells cs) hb (λo ho=>?_),hr.mono x⟩;cases ho with
   | Ja ext h1=>exact .Ja ext (h1.agK ha (λv hv=>tS hn hv (by simp[hs.J6])))
   cases h;cases h;cases h
 | l k =>
   simp only[nz1] at h;split at h;rename_i a ha;cases h;exact⟨cx,Ext.refl _ _,hs,hr.agK ha (λv hv=>cZ hv)⟩;cases h
 | lb id i =>
   simp only[nz1] at h;split at h;rename_i cs hb;split at h;rename_i a ha;cases h;refine⟨cx,Ext.refl _ _,hs.xU (b:=.cells cs) hb (λo ho=>?_),hr⟩;cases ho with
   | Ja ext h1=>exact .Ja ext (h1.agK ha (λv hv=>cZ hv))
   cases h;cases h
def qE:∀{l:List NZ} {fr fr2:List AV} {s s2:AS},nzs l fr s=some (fr2,s2)->Wkn G fr s fr2 s2:=by
 intro l
 induction l with
 | nil=>intro fr fr2 s s2 h;simp only[nzs] at h;cases h;exact .refl
 | cons z l ih =>
   intro fr fr2 s s2 h;simp only[nzs] at h;split at h;rename_i f1 s1 h1;exact(akI h1).trans (ih h);cases h
end
end AI
namespace AI
open Go Go.RowKit
def eqV:Value->Value->Bool
 | .string a,.string b=>BY a.data.toList b.data.toList
 | .int k a,.int k' b=>(match sameKind k k' with | true=>CZ a b | false=>false)
 | a,b=>aeS a b
def ajp{a b:Value}(h:eqV a b=true):a=b:=by
 unfold eqV at h;split at h;rename_i x y;rw[T4,beq_iff_eq] at h;have:x=y:=ByteArray.ext (Array.ext' h);rw[this];split at h;rename_i hk;rw[Od,beq_iff_eq] at h;rw[Xc hk,h];cases h;exact rZ h
def ah7:Own->Own->Bool
 | .full,.full=>true
 | .lost,.lost=>true
 | .nil,.nil=>true
 | .nn,.nn=>true
 | _,_=>false
def aaW{a b:Own}(h:ah7 a b=true):a=b:=by cases a<;>cases b<;>first | rfl | cases h
mutual
def eS:AV->AV->Bool
 | .sc a,.sc b=>eqV a b
 | .agg a,.agg b=>eqL a b
 | .C6 a,.C6 b=>eqL a b
 | .sl o n a,.sl p m b=>(match ah7 o p with
   | true=>(match Nat.beq n m with | true=>eqL a b | false=>false)
   | false=>false)
 | .Fv t a,.Fv u b=>(match Nat.beq t u with | true=>eS a b | false=>false)
 | _,_=>false
def eqL:List AV->List AV->Bool
 | [],[]=>true
 | a::as,b::bs=>(match eS a b with | true=>eqL as bs | false=>false)
 | _,_=>false
end
mutual
def aaT:∀{a b:AV},eS a b=true->a=b
 | .sc a,b,h=>by
   cases b<;>first
     | (simp only[eS] at h;rw[ajp h])
     | (simp[eS] at h;done)
 | .agg a,b,h=>by
   cases b<;>first
     | (simp only[eS] at h;rw[eU h])
     | (simp[eS] at h;done)
 | .C6 a,b,h=>by
   cases b<;>first
     | (simp only[eS] at h;rw[eU h])
     | (simp[eS] at h;done)
 | .sl o n a,b,h=>by
   cases b<;>first
     | (simp only[eS] at h
        split at h;rename_i h1;split at h;rename_i h2;rw[aaW h1,beq_true h2,eU h];cases h;cases h)
     | (simp[eS] at h;done)
 | .Fv t a,b,h=>by
   cases b<;>first
     | (simp only[eS] at h
        split at h;rename_i h1;rw[beq_true h1,aaT h];cases h)
     | (simp[eS] at h;done)
 | .Oo _ _ _,b,h=>by simp[eS] at h
 | .el _,b,h=>by simp[eS] at h
 | .ptr _ _,b,h=>by simp[eS] at h
 | .fn _ _ _,b,h=>by simp[eS] at h
 | .mp _,b,h=>by simp[eS] at h
 | .any,b,h=>by simp[eS] at h
def eU:∀{a b:List AV},eqL a b=true->a=b
 | [],b,h=>by cases b<;>first | rfl | (simp[eqL] at h;done)
 | a::as,b,h=>by
   cases b<;>first
     | (simp[eqL] at h;done)
     | (simp only[eqL] at h
        split at h;rename_i h1;rw[aaT h1,eU h];cases h)
end
structure Ent where
 f:Nat
 args:List AV
 box:Option (List AV×List AV)
 v:AV
def aad(P:Program)(G:Bc)(e:Ent):Prop:=match e.box with
 | none=>∀s,Sound P G (.call e.f e.args s (.ret e.v) s)
 | some (cs,cs')=>∀s id,s.get id=some (.cells cs)->Sound P G (.call e.f (.ptr id 0::e.args) s (.ret e.v) (s.put id (.cells cs')))
def aq7.cons{P:Program}{G:Bc}{e:Ent}{l:List Ent}(he:aad P G e)(hl:∀e∈l,aad P G e):∀e'∈e::l,aad P G e':=λe' h=>by
 rcases List.mem_cons.1 h with h | h
 rw[h];exact he;exact hl e' h
end AI
namespace AI
open Go Go.RowKit
inductive Hn where
 | k
 | b (b:Bool)
 | i (z:Int)
 | w (v:AV)
 | a (v:AV) (s:AS)
 | ae (v:AV)
 | af (v:AV)
 | m (s:AS)
 | l (v:AV)
 | s (s:AS)
 | c (v:AV) (s:AS)
 | o (v:AV)
 | z (c:Nat)
 | p (v:AV) (s:AS)
 | g (sz k:Nat) (cs:List AV)
 | u (v:AV) (pre:List (Nat×Bl)) (tp:List (Nat×Nat)) (RB:List (Nat×Bl)) (tu:List (Nat×Nat))
 | q (v:AV) (pre:List (Nat×Bl)) (tp:List (Nat×Nat)) (RB:List (Nat×Bl)) (tu:List (Nat×Nat))
 | n (l:List NZ)
 | x (b:Bl) (v:AV)
 | y (b b2:Bl)
 | lb (m:Bl) (v:AV)
 | sb (m m2:Bl)
 | mb (n:Nat) (m:Bl)
 | za
 | zq (c:Nat)
 | cn (v:AV) (h:List (Nat×Bl)) (dn:Nat) (F:List (Nat×Nat)) (dr:Nat)
 | f (id:Nat) (b b2:Bl)
inductive Cd where
 | eqb (B b:Bool)
 | eqi (X z:Int)
 | idx (t:TypeId) (a b v:AV)
 | bin (op:BinOp) (t:TypeId) (x y:Operand) (a b v:AV)
 | call (f:FuncId) (args:List AV) (s:AS) (v:AV)
 | WK (s:AS) (t tx:TypeId) (a b v:AV) (s1:AS)
 | ix (t:TypeId) (a b v:AV)
 | lk (s:AS) (t:TypeId) (a b:AV) (ok:Bool) (v:AV)
 | ms (s:AS) (t:TypeId) (a b v:AV) (s1:AS)
 | ah4 (f:FuncId) (args:List AV) (s:AS) (v:AV) (s1:AS)
 | ld (s:AS) (t:TypeId) (a v:AV)
 | st (s:AS) (t:TypeId) (a x:AV) (s1:AS)
 | mk (s:AS) (t:TypeId) (a b v:AV) (s1:AS)
 | sli (t:TypeId) (a:AV) (l h m:Option AV) (v:AV)
 | ah3 (f:FuncId) (args:List AV) (s:AS) (v:AV) (s1:AS)
 | pur (f:FuncId) (args:List AV) (v:AV)
 | aD (t tx:TypeId) (own:Own) (n:Nat) (cs:List AV) (b:AV) (sz k:Nat) (sA:List AV)
 | eqn (k n:Nat)
 | Fc (f:FuncId) (args:List AV) (r:CR) (pre:List (Nat×Bl)) (tp:List (Nat×Nat)) (RB:List (Nat×Bl)) (tu:List (Nat×Nat))
 | z7 (a b:List (Option Bl)) (c d:List (Option Nat))
 | lkB (b:Bl) (t:TypeId) (k:AV) (ok:Bool) (v:AV)
 | msB (b:Bl) (t:TypeId) (k v:AV) (b2:Bl)
 | ldB (b:Bl) (t:TypeId) (off:Nat) (v:AV)
 | stB (b:Bl) (t:TypeId) (off:Nat) (x:AV) (b2:Bl)
 | mkB (t:TypeId) (a x:AV) (n:Nat) (m:Bl)
 | apB (t tx:TypeId) (a b:AV) (n:Nat) (m:Bl)
 | ah2 (f:FuncId) (args:List AV) (nx nr:Nat) (v:AV) (h:List (Nat×Bl)) (dn:Nat) (F:List (Nat×Nat)) (dr:Nat)
 | rd (nr:Nat) (b b2:Bl)
 | cv (t t2:TypeId) (a v:AV)
 | apf (t tx:TypeId) (a b v:AV)
def AS.Wv(s:AS):List (Nat×Bl)->AS
 | []=>s
 | e::l=>(s.put e.1 e.2).Wv l
def AS.TK(s:AS):List (Nat×Nat)->AS
 | []=>s
 | e::l=>(AS.mk s.h s.nx (yD e.1 e.2 s.F) s.nr).TK l
def YL(s:AS):List (Nat×Bl)->List (Option Bl)
 | []=>[]
 | e::l=>s.get e.1::YL s l
def OU:List (Nat×Bl)->List (Option Bl)
 | []=>[]
 | e::l=>some e.2::OU l
def bH(F:List (Nat×Nat)):List (Nat×Nat)->List (Option Nat)
 | []=>[]
 | e::l=>Fw e.1 F::bH F l
def Pp:List (Nat×Nat)->List (Option Nat)
 | []=>[]
 | e::l=>some e.2::Pp l
def Cd.ok(P:Program)(G:Bc):Cd->Prop
 | .eqb B b=>B=b
 | .eqi X z=>X=z
 | .idx t a b v=>DB P t a b=some v
 | .bin op t x y a b v=>L2 P op t x y a b=some v
 | .call f args s v=>Sound P G (.call f args s (.ret v) s)
 | .WK s t tx a b v s1=>∃v0,Mv P s t tx a b=some (v0,s1)/\∀c w u,Rp c w v0 u->Rp c w v u
 | .ix t a b v=>Lx P t a b=some v
 | .lk s t a b ok v=>Jm P s t a b ok=some v
 | .ms s t a b v s1=>KS P s t a b v=some s1
 | .ah4 f args s v s1=>Sound P G (.call f args s (.ret v) s1)
 | .ld s t a v=>K8 P s t a=some v
 | .st s t a x s1=>Me P s t a x=some s1
 | .mk s t a b v s1=>JN P s t a b=some (v,s1)
 | .sli t a l h m v=>Md P t a l h m=some v
 | .ah3 f args s v s1=>Sound P G (.call f args s (.JK v) s1)
 | .pur f args v=>∀s,Sound P G (.call f args s (.ret v) s)
 | .aD t tx own n cs b sz k sA=>∀s:AS,Oq sz s.F n own=true->∃cs0,Mv P s t tx (.sl own n cs) b=some (.sl (aiy s sz own) k cs0,s.to k own)/\∀c w u o,Rp c w (.sl o k cs0) u->Rp c w (.sl o k sA) u
 | .eqn k n=>k=n
 | .Fc f args r pre tp RB tu=>∀s:AS,YL s pre=OU pre->bH s.F tp=Pp tp->Sound P G (.call f args s r ((s.Wv RB).TK tu))
 | .z7 a b c d=>a=b/\c=d
 | .lkB b t k ok v=>∀(s:AS) (id:Nat),s.get id=some b->Jm P s t (.mp id) k ok=some v
 | .msB b t k v b2=>∀(s:AS) (id:Nat),s.get id=some b->KS P s t (.mp id) k v=some (s.put id b2)
 | .ldB b t off v=>∀(s:AS) (id:Nat),s.get id=some b->K8 P s t (.ptr id off)=some v
 | .stB b t off x b2=>∀(s:AS) (id:Nat),s.get id=some b->Me P s t (.ptr id off) x=some (s.put id b2)
 | .mkB t a x n m=>∀s:AS,∃m0,JN P s t a x=some (.Oo s.nx 0 n,s.new m0)/\∀(cx:Cx) (w:World) (o:Obj),FK cx w m0 o->FK cx w m o
 | .apB t tx a b n m=>∀s:AS,alB P G t tx a b s (.Oo s.nx 0 n) (s.new m)
 | .ah2 f args nx nr v h dn F dr=>∀s:AS,s.nx=nx->s.nr=nr->Sound P G (.call f args s (.ret v) ⟨h++s.h,s.nx+dn,F++s.F,s.nr+dr⟩)
 | .apf t tx a b v=>∀s:AS,∃v0,Mv P s t tx a b=some (v0,s)/\∀c w u,Rp c w v0 u->Rp c w v u
 | .cv t t2 a v=>WJ P t t2 a=some v
 | .rd nr b b2=>∀(cx:Cx) (w:World) (o:Obj),nr < cx.rows.length->FK cx w b o->FK cx w b2 o
def R1(P:Program)(G:Bc):List Cd->Prop
 | []=>True
 | c::l=>c.ok P G/\R1 P G l
def R1.WK{P:Program}{G:Bc}{l m:List Cd}(h:R1 P G (l++m)):R1 P G l/\R1 P G m:=by
 induction l with
 | nil=>exact⟨trivial,h⟩
 | cons c l ih=>exact⟨⟨h.1,(ih h.2).1⟩,(ih h.2).2⟩
abbrev HO:=Option (AV×AS×List Hn×List Cd)
def LD(s1:Option AR)(hs:List Hn):HO:=match s1 with
 | some (.val v s)=>some (v,s,hs,[])
 | _=>none
def al6(P:Program)(op:BinOp)(t:TypeId)(x y:Operand)(a b:AV)(s:AS):List Hn->HO
 | .k::hs=>(match Yb P op t x y a b with
   | some v=>some (v,s,hs,[])
   | none=>none)
 | .b c::hs=>(match Yb P op t x y a b with
   | some (.sc (.bool B))=>some (.sc (.bool c),s,hs,[.eqb B c])
   | _=>none)
 | .i z::hs=>(match Yb P op t x y a b with
   | some (.sc (.int k X))=>some (.sc (.int k z),s,hs,[.eqi X z])
   | _=>none)
 | .w v::hs=>some (v,s,hs,[.bin op t x y a b v])
 | _=>none
def al9(P:Program)(t:TypeId)(a b:AV)(s:AS):List Hn->HO
 | .k::hs=>(match DB P t a b with
   | some v=>some (v,s,hs,[])
   | none=>none)
 | .w v::hs=>some (v,s,hs,[.idx t a b v])
 | _=>none
def YO(s:AS)(r:Option AR):List Hn->HO
 | .w v::hs=>(match r with
   | some (.ent f args)=>some (v,s,hs,[.pur f args v])
   | _=>none)
 | .a v s1::hs=>(match r with
   | some (.ent f args)=>some (v,s1,hs,[.ah4 f args s v s1])
   | _=>none)
 | .u v pre tp RB tu::hs=>(match r with
   | some (.ent f args)=>some (v,(s.Wv RB).TK tu,hs,[.Fc f args (.ret v) pre tp RB tu,.z7 (YL s pre) (OU pre) (bH s.F tp) (Pp tp)])
   | _=>none)
 | .cn v h dn F dr::hs=>(match r with
   | some (.ent f args)=>some (v,⟨h++s.h,s.nx+dn,F++s.F,s.nr+dr⟩,hs,[.ah2 f args s.nx s.nr v h dn F dr])
   | _=>none)
 | _=>none
def abe(s:AS)(t tx:TypeId)(a b:AV):List Hn->HO
 | .mb n m::hs=>some (.Oo s.nx 0 n,s.new m,hs,[.apB t tx a b n m])
 | .a v s1::hs=>some (v,s1,hs,[.WK s t tx a b v s1])
 | .ae v::hs=>some (v,s,hs,[.WK s t tx a b v s])
 | .af v::hs=>some (v,s,hs,[.apf t tx a b v])
 | .g sz k sA::hs=>(match a with
   | .sl .full n cs=>some (.sl (.row s.nr sz) k sA,s.add k,hs,[.aD t tx .full n cs b sz k sA])
   | .sl (.row r z) n cs=>(match Fw r s.F with
     | some m=>(match Nat.beq z sz with
       | true=>some (.sl (.row r sz) k sA,s.grow r k,hs,[.aD t tx (.row r z) n cs b sz k sA,.eqn m n])
       | false=>none)
     | none=>none)
   | _=>none)
 | _=>none
def ama(P:Program)(t:TypeId)(a b:AV)(s:AS):List Hn->HO
 | .k::hs=>(match Lx P t a b with
   | some v=>some (v,s,hs,[])
   | none=>none)
 | .w v::hs=>some (v,s,hs,[.ix t a b v])
 | _=>none
def aid(t:TypeId)(a b:AV)(ok:Bool)(s:AS):List Hn->HO
 | .w v::hs=>some (v,s,hs,[.lk s t a b ok v])
 | .x m v::hs=>(match a with
   | .mp id=>some (v,s,hs,[.lkB m t b ok v,.z7 [s.get id] [some m] [] []])
   | _=>none)
 | _=>none
def ajD(t:TypeId)(a b v:AV)(s:AS):List Hn->HO
 | .m s1::hs=>some (.sc undef,s1,hs,[.ms s t a b v s1])
 | .y m m2::hs=>(match a with
   | .mp id=>some (.sc undef,s.put id m2,hs,[.msB m t b v m2,.z7 [s.get id] [some m] [] []])
   | _=>none)
 | _=>none
def abh(t:TypeId)(a:Option AV)(s:AS)(r:Option AR):List Hn->HO
 | .l v::hs=>(match a with
   | some a=>some (v,s,hs,[.ld s t a v])
   | none=>none)
 | .lb m v::hs=>(match a with
   | some (.ptr id off)=>some (v,s,hs,[.ldB m t off v,.z7 [s.get id] [some m] [] []])
   | _=>none)
 | hs=>LD r hs
def o0(t:TypeId)(a x:Option AV)(s:AS)(r:Option AR):List Hn->HO
 | .s s1::hs=>(match a,x with
   | some a,some x=>some (.sc undef,s1,hs,[.st s t a x s1])
   | _,_=>none)
 | .sb m m2::hs=>(match a,x with
   | some (.ptr id off),some x=>some (.sc undef,s.put id m2,hs,[.stB m t off x m2,.z7 [s.get id] [some m] [] []])
   | _,_=>none)
 | hs=>LD r hs
def abj(t:TypeId)(a x:Option AV)(s:AS)(r:Option AR):List Hn->HO
 | .c v s1::hs=>(match a,x with
   | some a,some x=>some (v,s1,hs,[.mk s t a x v s1])
   | _,_=>none)
 | .mb n m::hs=>(match a,x with
   | some a,some x=>some (.Oo s.nx 0 n,s.new m,hs,[.mkB t a x n m])
   | _,_=>none)
 | hs=>LD r hs
def ajE(t:TypeId)(a:Option AV)(l h m:Option (Option AV))(s:AS)(r:Option AR):List Hn->HO
 | .o v::hs=>(match a,l,h,m with
   | some a,some l,some h,some m=>some (v,s,hs,[.sli t a l h m v])
   | _,_,_,_=>none)
 | hs=>LD r hs
def aib(P:Program)(t t2:TypeId)(a:AV)(s:AS):List Hn->HO
 | .w v::hs=>some (v,s,hs,[.cv t t2 a v])
 | hs=>(match WJ P t t2 a with
   | some v=>some (v,s,hs,[])
   | none=>none)
def wO(P:Program)(G:Bc)(fr:List AV)(s:AS)(o:Oper)(hs:List Hn):HO :=
 match o.op with
 | .binOp op t x y _=>(match AZ G fr x with
   | some a=>(match AZ G fr y with
     | some b=>al6 P op t x y a b s hs
     | none=>none)
   | none=>none)
 | .indexAddr t x i=>(match AZ G fr x with
   | some a=>(match AZ G fr i with
     | some b=>al9 P t a b s hs
     | none=>none)
   | none=>none)
 | .index t x i=>(match AZ G fr x with
   | some a=>(match AZ G fr i with
     | some b=>ama P t a b s hs
     | none=>none)
   | none=>none)
 | .convert t t2 x=>(match AZ G fr x with
   | some (.sl o n cs)=>aib P t t2 (.sl o n cs) s hs
   | _=>LD (US P G fr s o) hs)
 | .lookup t x k ok=>(match AZ G fr x with
   | some a=>(match AZ G fr k with
     | some b=>aid t a b ok s hs
     | none=>none)
   | none=>none)
 | .mapUpdate t m k x=>(match AZ G fr m with
   | some a=>(match AZ G fr k with
     | some b=>(match AZ G fr x with
       | some v=>ajD t a b v s hs
       | none=>none)
     | none=>none)
   | none=>none)
 | .load t x=>abh t (Bg G fr x) s (US P G fr s o) hs
 | .store t x y=>o0 t (Bg G fr x) (Bg G fr y) s (US P G fr s o) hs
 | .makeSlice t x y=>abj t (Bg G fr x) (Bg G fr y) s (US P G fr s o) hs
 | .slice t x lo hi mx=>ajE t (Bg G fr x) (iO G fr lo) (iO G fr hi) (iO G fr mx) s (US P G fr s o) hs
 | .call cl=>(match cl.callee with
   | .value _=>YO s (US P G fr s o) hs
   | .builtin .append=>(match cl.args.toList,cl.argTypes.toList with
     | [x,y],[t,tx]=>(match AZ G fr x with
       | some a=>(match AZ G fr y with
         | some b=>abe s t tx a b hs
         | none=>none)
       | none=>none)
     | _,_=>none)
   | _=>LD (US P G fr s o) hs)
 | _=>LD (US P G fr s o) hs
def bK(P:Program)(G:Bc)(ops:Array Oper)(fr:List AV)(s:AS)(o:Oper)(hs:List Hn):HO :=
 match CG ops fr o with
 | true=>wO P G fr s o hs
 | false=>some (.sc undef,s,hs,[])
section
variable {P:Program} {G:Bc} {ops:Array Oper}
def V3{r:Option AR}{hs CX:List Hn}{v:AV}{s:AS}{cd:List Cd}(h:LD r hs=some (v,s,CX,cd)):r=some (.val v s):=by
 unfold LD at h;split at h;cases h;rfl;cases h
def abi{t:TypeId}{a:Option AV}{r:Option AR}{hs CX:List Hn}{v:AV}{s s1:AS}{cd:List Cd}(h:abh t a s r hs=some (v,s1,CX,cd))(hc:R1 P G cd):(∃a',a=some a'/\K8 P s t a'=some v/\s1=s)\/LD r hs=some (v,s1,CX,cd):=by
 unfold abh at h;split at h;split at h;cases h;exact .inl ⟨_,rfl,hc.1,rfl⟩;cases h;split at h;cases h;exact .inl ⟨_,rfl,hc.1 _ _ (List.cons.inj hc.2.1.1).1,rfl⟩;cases h;exact .inr h
def V4{t:TypeId}{a x:Option AV}{r:Option AR}{hs CX:List Hn}{v:AV}{s s1:AS}{cd:List Cd}(h:o0 t a x s r hs=some (v,s1,CX,cd))(hc:R1 P G cd):(∃a' x',a=some a'/\x=some x'/\Me P s t a' x'=some s1/\v=.sc undef)\/LD r hs=some (v,s1,CX,cd):=by
 unfold o0 at h;split at h;split at h;cases h;exact .inl ⟨_,_,rfl,rfl,hc.1,rfl⟩;cases h;split at h;cases h;exact .inl ⟨_,_,rfl,rfl,hc.1 _ _ (List.cons.inj hc.2.1.1).1,rfl⟩;cases h;exact .inr h
def abk{t:TypeId}{a x:Option AV}{r:Option AR}{hs CX:List Hn}{v:AV}{s s1:AS}{cd:List Cd}(h:abj t a x s r hs=some (v,s1,CX,cd))(hc:R1 P G cd):(∃a' x',a=some a'/\x=some x'/\∃s0,JN P s t a' x'=some (v,s0)/\∀cx w,St G cx w s0->St G cx w s1)\/LD r hs=some (v,s1,CX,cd):=by
 unfold abj at h;split at h;split at h;cases h;exact .inl ⟨_,_,rfl,rfl,_,hc.1,λ_ _ h=>h⟩;cases h;split at h;cases h;obtain⟨m0,h1,h2⟩:=hc.1 s;refine .inl ⟨_,_,rfl,rfl,_,h1,λcx w hs=>?_⟩;have:=hs.xU (id:=s.nx) (b:=m0) (b2:=_) (by simp[AS.new,look]) (λo ho=>h2 cx w o ho);simpa[AS.new,uZ] using this
 cases h;exact .inr h
def afo{t:TypeId}{a:Option AV}{l k m:Option (Option AV)}{r:Option AR}{hs CX:List Hn}{v:AV}{s s1:AS}{cd:List Cd}(h:ajE t a l k m s r hs=some (v,s1,CX,cd))(hc:R1 P G cd):(∃a' l' k' m',a=some a'/\l=some l'/\k=some k'/\m=some m'/\Md P t a' l' k' m'=some v/\s1=s)\/LD r hs=some (v,s1,CX,cd):=by
 unfold ajE at h;split at h;split at h;cases h;exact .inl ⟨_,_,_,_,rfl,rfl,rfl,rfl,hc.1,rfl⟩;cases h;exact .inr h
def ajB{fr:List AV}{s s1:AS}{o:Oper}{hs CX:List Hn}{v:AV}{cd:List Cd}(hw:CG ops fr o=true)(h:wO P G fr s o hs=some (v,s1,CX,cd))(hc:R1 P G cd):J P G (XS P G) H0 (.op ops o fr s (.ret v) s1):=by
 have Um:LD (US P G fr s o) hs=some (v,s1,CX,cd)->J P G (XS P G) H0 (.op ops o fr s (.ret v) s1):=λh=>by
   have:=V3 h;rw[ND] at this;exact .Ot hw this
 unfold wO at h;split at h;rename_i op t x y z ho;rw[Cv,Cv] at h;split at h;rename_i a ha;split at h;rename_i b hb
 have fin:∀v',L2 P op t x y a b=some v'->s1=s->v=v'->J P G (XS P G) H0 (.op ops o fr s (.ret v) s1):=by
   intro v' h1 h2 h3;subst h2 h3;refine .Ot hw ?_;unfold QW;rw[ho];simp only[ha,hb,h1,Option.map_some]
 unfold al6 at h;rw[UR] at h;split at h;split at h;rename_i h1;cases h;exact fin _ h1 rfl rfl;cases h;split at h;rename_i h1;cases h;have e:_=_:=hc.1;subst e;exact fin _ h1 rfl rfl;cases h;split at h;rename_i h1;cases h;have e:_=_:=hc.1;subst e;exact fin _ h1 rfl rfl;cases h;cases h;exact fin _ hc.1 rfl rfl;cases h;cases h;cases h;rename_i t x i ho;rw[Cv,Cv] at h;split at h;rename_i a ha;split at h;rename_i b hb
 have fin:∀v',DB P t a b=some v'->s1=s->v=v'->J P G (XS P G) H0 (.op ops o fr s (.ret v) s1):=by
   intro v' h1 h2 h3;subst h2 h3;refine .Ot hw ?_;unfold QW;rw[ho];simp only[ha,hb,h1,Option.map_some]
 unfold al9 at h;split at h;split at h;rename_i h1;cases h;exact fin _ h1 rfl rfl;cases h;cases h;exact fin _ hc.1 rfl rfl;cases h;cases h;cases h;rename_i t x i ho;rw[Cv,Cv] at h;split at h;rename_i a ha;split at h;rename_i b hb
 have fin:∀v',Lx P t a b=some v'->s1=s->v=v'->J P G (XS P G) H0 (.op ops o fr s (.ret v) s1):=by
   intro v' h1 h2 h3;subst h2 h3;refine .Ot hw ?_;unfold QW;rw[ho];simp only[ha,hb,h1,Option.map_some]
 unfold ama at h;split at h;split at h;rename_i h1;cases h;exact fin _ h1 rfl rfl;cases h;cases h;exact fin _ hc.1 rfl rfl;cases h;cases h;cases h;rename_i t t2 x ho;rw[Cv] at h;split at h;rename_i ow n cs ha
 have fin:∀v',WJ P t t2 (.sl ow n cs)=some v'->s1=s->v=v'->J P G (XS P G) H0 (.op ops o fr s (.ret v) s1):=by
   intro v' h1 h2 h3;subst h2 h3;refine .Ot hw ?_;unfold QW;rw[ho];simp only[ha,Option.bind_some,h1,Option.map_some]
 unfold aib at h;split at h;cases h;exact fin _ hc.1 rfl rfl;split at h;rename_i h1;cases h;exact fin _ h1 rfl rfl;cases h;exact Um h;rename_i t x k ok ho;rw[Cv,Cv] at h;split at h;rename_i a ha;split at h;rename_i b hb
 have h1:Jm P s t a b ok=some v/\s1=s:=by
   unfold aid at h;split at h;cases h;exact⟨hc.1,rfl⟩;split at h;cases h;refine⟨hc.1 _ _ ?_,rfl⟩;have h2:=hc.2.1.1;simpa using h2
   cases h;cases h
 obtain⟨h1,rfl⟩:=h1;refine .Ot hw ?_;unfold QW;rw[ho];simp only[ha,hb,h1,Option.map_some];cases h;cases h;rename_i t m k x ho;rw[Cv,Cv,Cv] at h;split at h;rename_i a ha;split at h;rename_i b hb;split at h;rename_i x' hx
 have h1:KS P s t a b x'=some s1/\v=.sc undef:=by
   unfold ajD at h;split at h;cases h;exact⟨hc.1,rfl⟩;split at h;cases h;refine⟨hc.1 _ _ ?_,rfl⟩;have h2:=hc.2.1.1;simpa using h2
   cases h;cases h
 obtain⟨h1,rfl⟩:=h1;refine .Ot hw ?_;unfold QW;rw[ho];simp only[ha,hb,hx,h1,Option.map_some];cases h;cases h;cases h;rename_i t x ho;rcases abi h hc with ⟨a,ha,h1,rfl⟩ | h1
 refine .Ot hw ?_;unfold QW;rw[ho];simp only[ha,Option.bind_some,h1,Option.map_some];exact Um h1;rename_i t x y ho;rcases V4 h hc with ⟨a,b,ha,hb,h1,rfl⟩ | h1
 refine .Ot hw ?_;unfold QW;rw[ho];simp only[ha,hb,h1,Option.map_some];exact Um h1;rename_i t x y ho;rcases abk h hc with ⟨a,b,ha,hb,s0,h1,h2⟩ | h1
 refine .gA ?_ (.Ot (s':=s0) hw ?_) h2;simp only[quiet,ho];unfold QW;rw[ho];simp only[ha,hb,h1,Option.map_some];exact Um h1;rename_i t x lo hi mx ho;rcases afo h hc with ⟨a,l,k,m,ha,hl,hk,hm,h1,rfl⟩ | h1
 refine .Ot hw ?_;unfold QW;rw[ho];simp only[ha,hl,hk,hm,h1,Option.map_some];exact Um h1;rename_i cl ho;split at h;unfold YO at h;split at h;split at h;rename_i h1;cases h;rw[ND] at h1;exact .SJ hw h1 (.ext (hc.1 s));cases h;split at h;rename_i h1;cases h;rw[ND] at h1;exact .SJ hw h1 (.ext hc.1);cases h;split at h;rename_i h1;cases h;rw[ND] at h1;exact .SJ hw h1 (.ext (hc.1 s hc.2.1.1 hc.2.1.2));cases h;split at h;rename_i h1;cases h;rw[ND] at h1;exact .SJ hw h1 (.ext (hc.1 s rfl rfl));cases h;cases h;rename_i Ii;split at h;rename_i x y t tx hxs D7;rw[Cv,Cv] at h;split at h;rename_i a ha;split at h;rename_i b hb
 have fin:∀v0,Mv P s t tx a b=some (v0,s1)->(∀c w u,Rp c w v0 u->Rp c w v u)->J P G (XS P G) H0 (.op ops o fr s (.ret v) s1):=by
   intro v0 h1 h2;refine .qK (v:=v0) ?_ (.Ot hw ?_) h2;simp only[quiet,ho,Ii];unfold QW;rw[ho];simp only[TF,Ii,hxs,D7,ha,hb,h1,Option.map_some]
 unfold abe at h;split at h;cases h;exact .acs hw ho Ii hxs D7 ha hb (hc.1 s);cases h;obtain⟨v0,h1,h2⟩:=hc.1;exact fin v0 h1 h2;cases h;obtain⟨v0,h1,h2⟩:=hc.1;exact fin v0 h1 h2;cases h;obtain⟨v0,h1,h2⟩:=hc.1 s;exact fin v0 h1 h2;split at h;cases h;obtain⟨cs0,h1,h2⟩:=hc.1 s rfl;exact fin _ h1 (λc w u=>h2 c w u _);rename_i r z n cs;split at h;rename_i m hm;split at h;rename_i hz;have hz:=beq_true hz;subst hz;cases h;have e:m=n:=hc.2.1;subst e;obtain⟨cs0,h1,h2⟩:=hc.1 s (by simp[Oq,hm]);exact fin _ h1 (λc w u=>h2 c w u _);cases h;cases h;cases h;cases h;cases h;cases h;cases h;exact Um h;exact Um h
def PI{fr:List AV}{s s1:AS}{o:Oper}{hs CX:List Hn}{v:AV}{cd:List Cd}(h:bK P G ops fr s o hs=some (v,s1,CX,cd))(hc:R1 P G cd):J P G (XS P G) H0 (.op ops o fr s (.ret v) s1):=by
 unfold bK at h;split at h;rename_i hw;exact ajB hw h hc;rename_i hw;cases h;exact .qJ hw
end
end AI
