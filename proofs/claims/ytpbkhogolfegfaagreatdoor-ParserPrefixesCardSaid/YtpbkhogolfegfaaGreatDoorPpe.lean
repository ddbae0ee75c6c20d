/- Part of a proof: see the last text. -/
import Derived.Test.YtpbkhogolfegfaaGreatDoorPpd
import Derived.LoopN
set_option linter.unusedVariables false
set_option linter.unusedSimpArgs false
set_option linter.defProp false
noncomputable section
namespace AI
open Go Go.RowKit
inductive AX where
 | normal
 | exit (id:Nat)
 | ret
 | JI (v:AV)
inductive CR where
 | ret (v:AV)
 | JI (v:AV)
def CG(ops:Array Oper)(fr:List AV)(o:Oper):Bool:=match o.guard with
 | none=>true
 | some (j,want)=>match (ops[j]?).bind (·.dst) with
   | some d=>match fr[d]? with
     | some (.sc (.bool b))=>b == want
     | _=>false
   | none=>false
def Fa(id:Nat):AX->AX
 | .exit RC=>if RC=id then .normal else .exit RC
 | e=>e
def UG(P:Program)(s:AS)(fr:List AV):ResultVar->Option AV
 | .tmp t=>some (fr.getD t (.sc undef))
 | .cell t ty=>K8 P s ty (fr.getD t (.sc undef))
def P3(P:Program)(s:AS)(fr:List AV):List ResultVar->Option (List AV)
 | []=>some []
 | r::rs=>match UG P s fr r,P3 P s fr rs with
   | some a,some as=>some (a::as)
   | _,_=>none
def JO(P:Program)(s:AS)(fn:Func)(fr:List AV):Option AV:=match P3 P s fr fn.results.toList with
 | some [a]=>some a
 | some as=>some (.C6 as)
 | none=>none
inductive Jd where
 | code (c:Code) (fr:List AV) (s:AS) (e:AX) (Ct:List AV) (s':AS)
 | loop (c:Code) (fr:List AV) (s:AS) (e:AX) (Ct:List AV) (s':AS)
 | ops (ops:Array Oper) (l:List Nat) (fr:List AV) (s:AS) (e:AX) (Ct:List AV) (s':AS)
 | op (ops:Array Oper) (o:Oper) (fr:List AV) (s:AS) (r:CR) (s':AS)
 | call (f:FuncId) (args:List AV) (s:AS) (r:CR) (s':AS)
def Cs(ops:Array Oper)(i:Nat):Option Tmp:=(ops[i]?).bind (·.dst)
def YU(ops:Array Oper)(i:Nat):Prop:=∃o,ops[i]?=some o/\calm o.op=false
def Win(ops:Array Oper)(i k:Nat):Prop:=(∀l,YU ops l->SN (Ir ops.toList []) i l=true->l < k)/\(∀l,YU ops l->SN (Ir ops.toList []) l i=true->k<=l)
abbrev WQ:=FuncId->List AV->AS->CR->AS->Prop
abbrev TH:=FuncId->List AV->Option (FuncId×List AV×(CR->Option CR))
def alt(P:Program)(G:Bc)(t tx:TypeId)(a b:AV)(s:AS)(v:AV)(s':AS):Prop:=∀(c:Cx) (w:World) (va vb:Value) (ty:TypeId),St G c w s->Rp c w a va->Rp c w b vb ->
 ∃u w' c',(Builtin.append_ #[t,tx] ty #[va,vb]).run P w=.ok u w'/\Ext c w c' w'/\St G c' w' s'/\Rp c' w' v u
def aoo(G:Bc)(c:Cx)(w:World)(r:CR)(s':AS)(e:Ending)(w':World):Prop :=
 ∃c',Ext c w c' w'/\St G c' w' s'/\match r with
   | .ret v=>∃u,e=.returned u/\Rp c' w' v u
   | .JI v=>∃u,e=.panicked [{ v:=u,recovered:=false }]/\Rp c' w' v u
def Tm(G:Bc)(c:Cx)(w:World)(e:AX)(Ct:List AV)(s':AS)(e':Exit)(a':Act)(w':World):Prop :=
 ∃c',Ext c w c' w'/\St G c' w' s'/\a'.defers=[]/\match e with
   | .normal=>e'=.normal/\CX c' w' Ct a'.tmps.toList
   | .exit id=>e'=.exit id/\CX c' w' Ct a'.tmps.toList
   | .ret=>e'=.ret/\CX c' w' Ct a'.tmps.toList
   | .JI v=>∃u,e'=.panic [{ v:=u,recovered:=false }]/\Rp c' w' v u
def Tm.ext{G:Bc}{c c1:Cx}{w w1:World}{e:AX}{Ct:List AV}{s':AS}{e':Exit}{a':Act}{w':World}(x:Ext c w c1 w1)(h:Tm G c1 w1 e Ct s' e' a' w'):Tm G c w e Ct s' e' a' w':=by
 obtain⟨c',h1,h2⟩:=h;exact⟨c',x.trans h1,h2⟩
def OR(P:Program)(ops:Array Oper)(o:Oper)(K:Act->World->Prop)(Q:Exit->Act->World->Prop)(a:Act)(w:World):Prop :=
 if Region.wanted o (yielded ops a.tmps) then o.wp P a w K Q else K (a.put o.dst undef) w
def Sound(P:Program)(G:Bc):Jd->Prop
 | .code c fr s e Ct s'=>∀(cx:Cx) (w:World) (a:Act) (Q:Exit->Act->World->Prop),St G cx w s->CX cx w fr a.tmps.toList->a.defers=[]->(∀e' a' w',Tm G cx w e Ct s' e' a' w'->Q e' a' w')->c.wp P Q a w
 | .loop c fr s e Ct s'=>∃n,∀(cx:Cx) (w:World) (a:Act) (Q:Exit->Act->World->Prop),St G cx w s->CX cx w fr a.tmps.toList->a.defers=[]->(∀e' a' w',Tm G cx w e Ct s' e' a' w'->Q e' a' w')->Code.rounds P c Q n a w
 | .ops ops l fr s e Ct s'=>∀(cx:Cx) (w:World) (a:Act) (Q:Exit->Act->World->Prop),St G cx w s->CX cx w fr a.tmps.toList->a.defers=[]->(∀e' a' w',Tm G cx w e Ct s' e' a' w'->Q e' a' w')->wpOps P ops Q l a w
 | .op ops o fr s r s'=>∀(cx:Cx) (w:World) (a:Act) (K:Act->World->Prop) (Q:Exit->Act->World->Prop),St G cx w s->(∀x∈o.op.operands,ZO G cx w fr a.eval x)->CG ops fr o=Region.wanted o (yielded ops a.tmps) ->
     (match r with
       | .ret v=>∀u w' c',Ext cx w c' w'->St G c' w' s'->Rp c' w' v u->K (a.put o.dst u) w'
       | .JI v=>∀u w' c',Ext cx w c' w'->St G c' w' s'->Rp c' w' v u->Q (.panic [{ v:=u,recovered:=false }]) a w')->OR P ops o K Q a w
 | .call f args s r s'=>∀(cx:Cx) (w:World) (vs:List Value),St G cx w s->CX cx w args vs->Calls P f vs.toArray w (aoo G cx w r s')
inductive J(P:Program)(G:Bc)(X:WQ)(H:TH):Jd->Prop where
 | skip {fr:List AV} {s:AS}:J P G X H (.code .skip fr s .normal fr s)
 | exit {id:Nat} {fr:List AV} {s:AS}:J P G X H (.code (.exit id) fr s (.exit id) fr s)
 | ret {fr:List AV} {s:AS}:J P G X H (.code .ret fr s .ret fr s)
 | seq {x y:Code} {fr Wr Ct:List AV} {s s1 s':AS} {e:AX} (h1:J P G X H (.code x fr s .normal Wr s1)) (h2:J P G X H (.code y Wr s1 e Ct s')):J P G X H (.code (.seq x y) fr s e Ct s')
 | qN {x y:Code} {fr Ct:List AV} {s s':AS} {e:AX} (h1:J P G X H (.code x fr s e Ct s')) (he:e≠.normal):J P G X H (.code (.seq x y) fr s e Ct s')
 | cond {q:Operand} {x y:Code} {t:Bool} {fr Ct:List AV} {s s':AS} {e:AX} (hq:Bg G fr q=some (.sc (.bool t))) (h:J P G X H (.code (if t then x else y) fr s e Ct s')):J P G X H (.code (.cond q x y) fr s e Ct s')
 | block {id:Nat} {c:Code} {fr Ct:List AV} {s s':AS} {e:AX} (h:J P G X H (.code c fr s e Ct s')):J P G X H (.code (.block id c) fr s (Fa id e) Ct s')
 | loop {c:Code} {fr Ct:List AV} {s s':AS} {e:AX} (h:J P G X H (.loop c fr s e Ct s')):J P G X H (.code (.loop c) fr s e Ct s')
 | aio {c:Code} {fr Wr Ct:List AV} {s s1 s':AS} {e:AX} (h1:J P G X H (.code c fr s .normal Wr s1)) (h2:J P G X H (.loop c Wr s1 e Ct s')):J P G X H (.loop c fr s e Ct s')
 | s6 {c:Code} {fr Ct:List AV} {s s':AS} {e:AX} (h1:J P G X H (.code c fr s e Ct s')) (he:e≠.normal):J P G X H (.loop c fr s e Ct s')
 | region {id:Nat} {ops:Array Oper} {fr Ct:List AV} {s s':AS} {e:AX} (h:J P G X H (.ops ops (List.range ops.size) fr s e Ct s')):J P G X H (.code (.region id ops false) fr s e Ct s')
 | acv {ops:Array Oper} {fr:List AV} {s:AS}:J P G X H (.ops ops [] fr s .normal fr s)
 | tK {ops:Array Oper} {i:Nat} {l:List Nat} {o:Oper} {v:AV} {fr Ct:List AV} {s s1 s':AS} {e:AX} (ho:ops[i]?=some o) (h:J P G X H (.op ops o fr s (.ret v) s1)) (t:J P G X H (.ops ops l (JE fr o.dst v) s1 e Ct s')):J P G X H (.ops ops (i::l) fr s e Ct s')
 | acw {ops:Array Oper} {i:Nat} {l:List Nat} {o:Oper} {v:AV} {fr:List AV} {s s1:AS} (ho:ops[i]?=some o) (h:J P G X H (.op ops o fr s (.JI v) s1)):J P G X H (.ops ops (i::l) fr s (.JI v) fr s1)
 | Oi {ops:Array Oper} {o:Oper} {fr:List AV} {s s':AS} {v:AV} (hw:CG ops fr o=true) (h:QK P G fr s o=some (.val v s')):J P G X H (.op ops o fr s (.ret v) s')
 | p4 {ops:Array Oper} {o:Oper} {fr:List AV} {s s':AS} {v v2:AV} (hq:quiet o.op=false) (h:J P G X H (.op ops o fr s (.ret v) s')) (hv:∀cx w u,Rp cx w v u->Rp cx w v2 u):J P G X H (.op ops o fr s (.ret v2) s')
 | fE {ops:Array Oper} {o:Oper} {fr:List AV} {s s1 s2:AS} {v:AV} (hq:quiet o.op=false) (h:J P G X H (.op ops o fr s (.ret v) s1)) (hs:∀cx w,St G cx w s1->St G cx w s2):J P G X H (.op ops o fr s (.ret v) s2)
 | acu {ops:Array Oper} {o:Oper} {fr:List AV} {s s':AS} {cl:Call} {x y:Operand} {t tx:TypeId} {a b v:AV} (hw:CG ops fr o=true) (ho:o.op=.call cl) (IF:cl.callee=.builtin .append) (hx:cl.args.toList=[x,y]) (ht:cl.argTypes.toList=[t,tx]) (ha:Bg G fr x=some a) (hb:Bg G fr y=some b) (h:alt P G t tx a b s v s'):J P G X H (.op ops o fr s (.ret v) s')
 | pY {ops:Array Oper} {o:Oper} {fr:List AV} {s:AS} (hw:CG ops fr o=false):J P G X H (.op ops o fr s (.ret (.sc undef)) s)
 | Sy {ops:Array Oper} {o:Oper} {fr:List AV} {s s':AS} {f:FuncId} {args:List AV} {r:CR} (hw:CG ops fr o=true) (h:QK P G fr s o=some (.ent f args)) (hc:J P G X H (.call f args s r s')):J P G X H (.op ops o fr s r s')
 | ais {ops:Array Oper} {o:Oper} {fr:List AV} {s:AS} {v:AV} (hw:CG ops fr o=true) (h:QK P G fr s o=some (.JI v)):J P G X H (.op ops o fr s (.JI v) s)
 | draw {id:Nat} {ops:Array Oper} {f0:List AV} {s0:AS} (rs:List Bo) (vals:Nat->AV) (Nt:Nat->AS) (h0:Nt 0=s0.hold rs) (H8:MP ops=true)
     (hl:∀i o,ops[i]?=some o->calm o.op=false->J P G X H (.op ops o (IG f0 (Cs ops) vals (λ_=>true) i) (Nt i) (.ret (vals i)) (Nt (i+1))))
     (hq:∀i o,ops[i]?=some o->quiet o.op=true->Nt (i+1)=Nt i/\((CG ops (IG f0 (Cs ops) vals (λ_=>true) i) o=false/\vals i=.sc undef)\/(CG ops (IG f0 (Cs ops) vals (λ_=>true) i) o=true/\∀k,k<=ops.size->Win ops i k->QK P G (IG f0 (Cs ops) vals (λ_=>true) i) (Nt k) o=some (.val (vals i) (Nt k)))))
     (ha:∀i o e,ops[i]?=some o->o.op=.alloc e->Nt (i+1)=Nt i/\((CG ops (IG f0 (Cs ops) vals (λ_=>true) i) o=false/\vals i=.sc undef)\/(CG ops (IG f0 (Cs ops) vals (λ_=>true) i) o=true/\∃z,MH P e=some z/\rk ops i < rs.length/\vals i=.ptr (s0.nx+rk ops i) 0/\∀k,k<=ops.size->Win ops i k->(Nt k).get (s0.nx+rk ops i)=some (.cells (cellsOf z))))) :
     J P G X H (.code (.region id ops true) f0 s0 .normal (IG f0 (Cs ops) vals (λ_=>true) ops.size) (Nt ops.size))
 | body {f:FuncId} {fn:Func} {c:Code} {args Ct:List AV} {s s' s2:AS} {e:AX} {v:AV} (hf:P.funcs[f]?=some fn) (hb:fn.body=some c) (h:J P G X H (.code c (args++List.replicate (fn.ntmps - args.length) (.sc undef)) s e Ct s')) (he:e=.normal\/e=.ret) (hr:JO P s' fn Ct=some v) (hk:s2=s'.cut s.nx\/s2=s'):J P G X H (.call f args s (.ret v) s2)
 | ahU {f:FuncId} {fn:Func} {c:Code} {args Ct:List AV} {s s':AS} {v:AV} (hf:P.funcs[f]?=some fn) (hb:fn.body=some c) (h:J P G X H (.code c (args++List.replicate (fn.ntmps - args.length) (.sc undef)) s (.JI v) Ct s')):J P G X H (.call f args s (.JI v) (s'.cut s.nx))
 | ext {f:FuncId} {args:List AV} {s s':AS} {r:CR} (h:X f args s r s'):J P G X H (.call f args s r s')
 | Wd {c:Code} {fr fr2 Ct:List AV} {s s2 s':AS} {e:AX} (hw:∀cx w vs,St G cx w s->CX cx w fr vs->∃cx2,Ext cx w cx2 w/\St G cx2 w s2/\CX cx2 w fr2 vs) (h:J P G X H (.code c fr2 s2 e Ct s')):J P G X H (.code c fr s e Ct s')
 | aiN {c:Code} {fr fr2 Ct:List AV} {s s2 s':AS} {e:AX} (hw:∀cx w vs,St G cx w s->CX cx w fr vs->∃cx2,Ext cx w cx2 w/\St G cx2 w s2/\CX cx2 w fr2 vs) (h:J P G X H (.loop c fr2 s2 e Ct s')):J P G X H (.loop c fr s e Ct s')
 | scope {c:Code} {fr fr2 Ct:List AV} {s s2 s':AS} {e:AX} (h:J P G X H (.code c fr s e Ct s')) (he:∀v,e≠.JI v) (hs:∀cx w c' w' vs,Ext cx w c' w'->St G cx w s->St G c' w' s'->CX c' w' Ct vs->∃c2,Ext cx w c2 w'/\St G c2 w' s2/\CX c2 w' fr2 vs):J P G X H (.code c fr s e fr2 s2)
 | ajM {f g:FuncId} {args Ys:List AV} {k:CR->Option CR} {s s':AS} {r r':CR} (hh:H f args=some (g,Ys,k)) (h:J P G X H (.call g Ys s r s')) (hk:k r=some r'):J P G X H (.call f args s r' s')
 | sem {c:Code} {fr Ct:List AV} {s s':AS} {e:AX} (h:P.follows .mixedOrders=true->Sound P G (.code c fr s e Ct s')):J P G X H (.code c fr s e Ct s')
def N3{ops:Array Oper}{fr:List AV}{o:Oper}{c:Cx}{w:World}{tmps:Array Value}(h:∀j want,o.guard=some (j,want)->∀d,(ops[j]?).bind (·.dst)=some d->∃M,CX c w M tmps.toList/\M[d]?=fr[d]?):CG ops fr o=Region.wanted o (yielded ops tmps):=by
 unfold CG Region.wanted;cases hg:o.guard with
 | none=>rfl
 | some p =>
   obtain⟨j,want⟩:=p;simp only;unfold yielded;cases hd:(ops[j]?).bind (·.dst) with
   | none=>simp
   | some d =>
     obtain⟨M,hM,he⟩:=h j want hg d hd;simp only[Option.bind_some];rw[<- he];cases hm:M[d]? with
     | none =>
       have hl:=hM.len;have h1:=List.getElem?_eq_none_iff.1 hm;have h2:tmps[d]?=none:=Array.getElem?_eq_none (by rw[<- Array.length_toList];omega);simp[h2]
     | some b =>
       obtain⟨u,hu,hr⟩:=hM.get hm;rw[Array.getElem?_toList] at hu;rw[hu];cases hr with
       | sc hs=>cases u<;>simp
       | any hs=>cases u<;>first | (simp[Xg] at hs;done) | simp
       | _=>simp
def xK(tmps:Array Value):ResultVar->Sem Value
 | .tmp t=>pure (tmps.getD t undef)
 | .cell a t=>do loadVar t (<- asAddr (tmps.getD a undef))
def Uh(fn:Func)(tmps:Array Value):results fn tmps=(do
 let vs <- fn.results.mapM (xK tmps)
 pure (if h:vs.size=1 then vs[0] else .tuple vs)):=by
 unfold results;congr 2
def iI{P:Program}{G:Bc}{c:Cx}{w:World}{s:AS}{fr:List AV}{tmps:Array Value}(hs:St G c w s)(hf:CX c w fr tmps.toList){r:ResultVar}{v:AV}(h:UG P s fr r=some v) :
   ∃u,(xK tmps r).run P w=.ok u w/\Rp c w v u:=by
 have ht:∀t,Rp c w (fr.getD t (.sc undef)) (tmps.getD t undef):=λt=>Gn (G:=G) (s:=s) (a:=⟨tmps,[]⟩) (x:=.tmp t) hs hf rfl;cases r with
 | tmp t=>simp only[UG,Option.some.injEq] at h;subst h;exact⟨_,rfl,ht t⟩
 | cell t ty =>
   obtain⟨u,h1,h2⟩:=iE hs h (ht t);refine⟨u,?_,h2⟩;have hr:=ht t;simp only[Instr.loadAt,Sem.run_bind] at h1;simp only[xK,Sem.run_bind];generalize tmps.getD t undef=x at hr h1;simp only[UG] at h;unfold K8 at h;split at h;rename_i NY;rw[NY] at hr;cases hr;simpa[asAddr,Instr.sureAddr] using h1
   rename_i NY;rw[NY] at hr;cases hr;simpa[asAddr,Instr.sureAddr] using h1
   cases h
def iJ{P:Program}{G:Bc}{c:Cx}{w:World}{s:AS}{fr:List AV}{tmps:Array Value}(hs:St G c w s)(hf:CX c w fr tmps.toList)(rs:List ResultVar){vs:List AV}(h:P3 P s fr rs=some vs) :
   ∃us,(rs.mapM (xK tmps)).run P w=.ok us w/\CX c w vs us:=by
 induction rs generalizing vs with
 | nil=>simp[P3] at h;subst h;exact⟨[],rfl,.nil⟩
 | cons r rs ih =>
   simp only[P3] at h;split at h;rename_i a as h1 h2;cases h;obtain⟨u,hu,hr⟩:=iI hs hf h1;obtain⟨us,hus,hrs⟩:=ih h2;refine⟨u::us,?_,.cons hr hrs⟩;rw[List.mapM_cons];simp only[Sem.run_bind,hu,Result.andThen_ok,hus,Sem.run_pure];cases h
def Wk{P:Program}{G:Bc}{c:Cx}{w:World}{s:AS}{fr:List AV}{tmps:Array Value}{fn:Func}{v:AV}(hs:St G c w s)(hf:CX c w fr tmps.toList)(h:JO P s fn fr=some v):∃u,(results fn tmps).run P w=.ok u w/\Rp c w v u:=by
 unfold JO at h;cases hl:P3 P s fr fn.results.toList with
 | none=>rw[hl] at h;cases h
 | some as =>
   rw[hl] at h;obtain⟨us,hus,hrs⟩:=iJ hs hf _ hl;have hlen:=hrs.len
   have U0:(results fn tmps).run P w=.ok (if h:us.toArray.size=1 then us.toArray[0] else .tuple us.toArray) w:=by
     rw[Uh,Array.mapM_eq_mapM_toList];simp only[Sem.run_bind,Sem.run_map,hus,Result.andThen_ok,Sem.run_pure]
   rw[U0];split at h;rename_i a NY;cases NY;cases h;cases hrs with
   | cons h1 t=>cases t;exact⟨_,rfl,h1⟩
   rename_i as' Kw NY;cases NY;cases h
   have:¬us.toArray.size=1:=by
     intro h1;simp at h1;obtain⟨a,ha⟩:=List.length_eq_one_iff.1 (hlen.symm.trans h1);exact Kw a ha
   rw[dif_neg this];exact⟨_,rfl,.C6 hrs⟩;rename_i NY;cases NY
end AI
namespace AI
open Go Go.RowKit
def iS(L:Nat->Bool):Nat->Nat
 | 0=>0
 | n+1=>iS L n+if L n then 0 else 1
def iU{L:Nat->Bool}:∀(n:Nat),iS L n=0->∀i,i < n->L i=true:=by
 intro n
 induction n with
 | zero=>intro _ i hi;omega
 | succ n ih =>
   intro h i hi;simp only[iS] at h;by_cases hn:i=n;subst hn;by_cases hL:L i=true;exact hL;simp[hL] at h;exact ih (by omega) i (by omega)
def rM{L M:Nat->Bool}{i:Nat}(h0:L i=false)(h1:M i=true)(Kw:∀j,j≠i->M j=L j):∀(n:Nat),(i < n->iS L n=iS M n+1)/\(n<=i->iS L n=iS M n):=by
 intro n
 induction n with
 | zero=>exact⟨λh=>by omega,λ_=>rfl⟩
 | succ n ih =>
   refine⟨λh=>?_,λh=>?_⟩;simp only[iS];by_cases hn:n=i;subst hn;rw[ih.2 (Nat.le_refl _),h0,h1];simp;rw[ih.1 (by omega),Kw n hn];omega;simp only[iS];rw[ih.2 (by omega),Kw n (by omega)]
def qQ{ops:Array Oper}{Nt:Nat->AS}(hq:∀i o,ops[i]?=some o->calm o.op=true->Nt (i+1)=Nt i){x:Nat}:∀(y:Nat),x<=y->y<=ops.size->(∀m,x<=m->m < y->¬YU ops m)->Nt x=Nt y:=by
 intro y
 induction y with
 | zero=>intro h _ _;have:x=0:=by omega
         subst this;rfl
 | succ y ih =>
   intro h hn hl;by_cases e:x=y+1;subst e;rfl;rw[ih (by omega) (by omega) (λm h1 h2=>hl m h1 (by omega))];have ho:ops[y]?=some (ops[y]'(by omega)):=Array.getElem?_eq_getElem (by omega);have hy:=hl y (by omega) (by omega);refine(hq y _ ho ?_).symm;cases hqq:calm (ops[y]'(by omega)).op with
   | true=>rfl
   | false=>exact absurd ⟨_,ho,hqq⟩ hy
def mem_ready{ops:Array Oper}{L:Array Bool}(Qc:L.size=ops.size){i:Nat}(h:i∈Region.ready .any ops L):∃o,ops[i]?=some o/\L.getD i false=false/\Met (λj=>L.getD j false) o/\i < ops.size:=by
 unfold Region.ready at h;rw[List.mem_filter,List.mem_range,Bool.and_eq_true] at h;obtain⟨h1,h2,h3⟩:=h;have ho:ops[i]?=some (ops[i]'h1):=Array.getElem?_eq_getElem h1;refine⟨_,ho,?_,λe he hb=>?_,h1⟩;have:i < L.size:=by omega
 simpa[this] using h2
 rw[ho] at h3;simp only[Option.map_some,Option.getD_some] at h3;rw[Array.all_eq_true_iff_forall_mem] at h3;have:=h3 e he;rw[hb] at this;simpa using this
def lA{ops:Array Oper}{L:Array Bool}(Qc:L.size=ops.size){i:Nat}{o:Oper}(ho:ops[i]?=some o)(hL:L.getD i false=false)(hm:Met (λj=>L.getD j false) o):i∈Region.ready .any ops L:=by
 have h1:=(Array.getElem?_eq_some_iff.1 ho).1;unfold Region.ready;rw[List.mem_filter,List.mem_range,Bool.and_eq_true];refine⟨h1,?_,?_⟩;have:i < L.size:=by omega
 simpa[this] using hL
 rw[ho];simp only[Option.map_some,Option.getD_some];rw[Array.all_eq_true_iff_forall_mem];intro e he;by_cases hb:Region.binds .any e=true;have:=hm e he hb;rw[hb];simpa using this
 simp[hb]
section
variable {P:Program} {G:Bc} {ops:Array Oper} {f0:List AV} {vals:Nat->AV} {Nt:Nat->AS}
structure Inv(G:Bc)(ops:Array Oper)(f0:List AV)(vals:Nat->AV)(Nt:Nat->AS)(nA:Cx)(w0:World)(nh:Nat)(L:Array Bool)(a:Act)(w:World):Prop where
 size:L.size=ops.size
 closed:N1 ops.toList (λj=>L.getD j false)
 st:∃c k,k<=ops.size/\(∀l,YU ops l->(L.getD l false=true↔l < k))/\Ext nA w0 c w/\St G c w (Nt k)/\CX c w (IG f0 (Cs ops) vals (λj=>L.getD j false) ops.size) a.tmps.toList /\
   ∀j y,ops[j]?=some y->B1 y.op=true->L.getD j false=false->rk ops j < nh->c.DD[nA.DD.length+rk ops j]?=some none
 defers:a.defers=[]
def looks{x y:Oper}{t:Nat}(hx:x.dst=some t)(hy:t∈y.looksAt ops):P5 ops x y=true:=by
 simp[P5,hx,hy]
def aks{x y:Oper}{t:Nat}(hx:t∈x.looksAt ops)(hy:y.dst=some t):P5 ops x y=true:=by
 simp[P5,hx,hy]
def anq{x y:Oper}{t:Nat}(hx:x.dst=some t)(hy:y.dst=some t):P5 ops x y=true:=by
 simp[P5,hx,hy]
def tA{x y:Oper}(hx:calm x.op=false)(hy:calm y.op=false):P5 ops x y=true:=by
 simp[P5,hx,hy]
def Cm{i:Nat}{o:Oper}(h:ops[i]?=some o):ops.toList[i]?=some o:=by rw[Array.getElem?_toList];exact h
def VF{L:Nat->Bool}(H8:MP ops=true)(hc:N1 ops.toList L){i j:Nat}{x y:Oper}(hx:ops[i]?=some x)(hy:ops[j]?=some y)(hm:Met L y)(Gm:i < j)(IF:P5 ops x y=true):L i=true :=
 Yh hc (Cm hy) hm (bI H8 hx hy Gm IF)
def QO{L:Nat->Bool}(H8:MP ops=true)(hc:N1 ops.toList L){i j:Nat}{x y:Oper}(hx:ops[i]?=some x)(hy:ops[j]?=some y)(hL:L i=false)(Gm:i < j)(IF:P5 ops x y=true):L j=false:=by
 cases h:L j with
 | false=>rfl
 | true =>
   have:=Yh hc (Cm hy) (hc j y (Cm hy) h) (bI H8 hx hy Gm IF);rw[hL] at this;cases this
def n7{i t:Nat}(h:Cs ops i=some t):∃o,ops[i]?=some o/\o.dst=some t:=by
 unfold Cs at h;cases ho:ops[i]? with
 | none=>rw[ho] at h;cases h
 | some o=>rw[ho] at h;exact⟨o,rfl,by simpa using h⟩
def SP{L:Nat->Bool}(H8:MP ops=true)(hc:N1 ops.toList L){i:Nat}{o:Oper}(ho:ops[i]?=some o)(hL:L i=false)(hm:Met L o){t:Nat}(ht:t∈o.looksAt ops) :
   (IG f0 (Cs ops) vals L ops.size)[t]?=(IG f0 (Cs ops) vals (λ_=>true) i)[t]?:=by
 have hi:=(Array.getElem?_eq_some_iff.1 ho).1;rw[rY (j:=i) ops.size (by omega)];refine Yq i (λj hj hd=>?_);obtain⟨x,hx,hxd⟩:=n7 hd;exact VF H8 hc hx ho hm hj (looks hxd ht);intro j hj _ hd;by_cases e:j=i;subst e;exact hL;obtain⟨y,hy,hyd⟩:=n7 hd;exact QO H8 hc ho hy hL (by omega) (aks ht hyd)
def rZ{L M:Nat->Bool}(H8:MP ops=true)(hc:N1 ops.toList L){i:Nat}{o:Oper}(ho:ops[i]?=some o)(hL:L i=false)(hM:M i=true)(Kw:∀j,j≠i->M j=L j) :
   IG f0 (Cs ops) vals M ops.size=JE (IG f0 (Cs ops) vals L ops.size) o.dst (vals i):=by
 have hi:=(Array.getElem?_eq_some_iff.1 ho).1;have hdi:Cs ops i=o.dst:=by unfold Cs;rw[ho];rfl
 apply List.ext_getElem?;intro t;by_cases hd:o.dst=some t;rw[rY (j:=i+1) ops.size (by omega)];simp only[IG,hM,if_true,hdi,hd];rw[O7,O7,Xn,Xn];intro j hj _ hdj;obtain⟨y,hy,hyd⟩:=n7 hdj;rw[Kw j (by omega)];exact QO H8 hc ho hy hL (by omega) (anq hd hyd);rw[R8 hd];refine Yq ops.size (λj _ hdj=>Kw j (λe=>hd ?_));rw[<- hdi,<- e];exact hdj
def Ext.ajt{c:Cx}{w:World}{c':Cx}{w':World}(h:Ext c w c' w'){id:Nat}{y:Option Nat}(e:c.DD[id]?=some y):c'.DD[id]?=some y:=by
 obtain⟨t,ht⟩:=h.DD;rw[<- ht,List.getElem?_append_left (List.getElem?_eq_some_iff.1 e).1];exact e
def aaH{nh:Nat}(H8:MP ops=true)
   (hl:∀i o,ops[i]?=some o->calm o.op=false->Sound P G (.op ops o (IG f0 (Cs ops) vals (λ_=>true) i) (Nt i) (.ret (vals i)) (Nt (i+1))))
   (hq:∀i o,ops[i]?=some o->quiet o.op=true->Nt (i+1)=Nt i/\((CG ops (IG f0 (Cs ops) vals (λ_=>true) i) o=false/\vals i=.sc undef)\/(CG ops (IG f0 (Cs ops) vals (λ_=>true) i) o=true/\∀k,k<=ops.size->Win ops i k->QK P G (IG f0 (Cs ops) vals (λ_=>true) i) (Nt k) o=some (.val (vals i) (Nt k)))))
   (nA:Cx) (w0:World)
   (ha:∀i o e,ops[i]?=some o->o.op=.alloc e->Nt (i+1)=Nt i/\((CG ops (IG f0 (Cs ops) vals (λ_=>true) i) o=false/\vals i=.sc undef)\/(CG ops (IG f0 (Cs ops) vals (λ_=>true) i) o=true/\∃z,MH P e=some z/\rk ops i < nh/\vals i=.ptr (nA.DD.length+rk ops i) 0/\∀k,k<=ops.size->Win ops i k->(Nt k).get (nA.DD.length+rk ops i)=some (.cells (cellsOf z)))))
   (Q:Exit->Act->World->Prop) (hQ:∀e' a' w',Tm G nA w0 .normal (IG f0 (Cs ops) vals (λ_=>true) ops.size) (Nt ops.size) e' a' w'->Q e' a' w') :
   ∀(Lr:Nat) (L:Array Bool) (a:Act) (w:World),Inv G ops f0 vals Nt nA w0 nh L a w->iS (λj=>L.getD j false) ops.size=Lr->wpAny P .any ops Q Lr L a w:=by
 have hqs:∀i o,ops[i]?=some o->calm o.op=true->Nt (i+1)=Nt i:=λi o h1 h2=>by
   rcases Yb h2 with h2 | ⟨e,h2⟩
   exact(hq i o h1 h2).1;exact(ha i o e h1 h2).1
 have fin:∀(L:Array Bool) (a:Act) (w:World),Inv G ops f0 vals Nt nA w0 nh L a w->(∀i,i < ops.size->L.getD i false=true)->Q .normal a w:=by
   intro L a w hI H6;obtain⟨c,k,hk,hlk,hx,GC,QV,_⟩:=hI.st;have ap6:Nt k=Nt ops.size:=qQ hqs ops.size hk (Nat.le_refl _) (λm h1 h2 hm=>by have:=(hlk m hm).1 (H6 m h2);omega);rw[ap6] at GC;refine hQ _ _ _ ⟨c,hx,GC,hI.defers,rfl,?_⟩
   have:IG f0 (Cs ops) vals (λj=>L.getD j false) ops.size=IG f0 (Cs ops) vals (λ_=>true) ops.size:=by
     apply List.ext_getElem?;intro t;exact Yq ops.size (λi hi _=>H6 i hi)
   rw[<- this];exact QV
 intro Lr
 induction Lr with
 | zero =>
   intro L a w hI hc;have H6:=iU ops.size hc;refine⟨?_,fin L a w hI H6⟩;apply List.eq_nil_iff_forall_not_mem.2;intro i hi;obtain⟨o,ho,h1,_,Gm⟩:=mem_ready hI.size hi;have:=H6 i Gm;rw[h1] at this;cases this
 | succ Lr ih =>
   intro L a w hI apE;refine⟨λeC=>fin L a w hI (λi=>?_),λi hi=>?_⟩
   induction i using Nat.strongRecOn with
   | _ i ihi =>
     intro Gm;cases gZ:L.getD i false with
     | true=>rfl
     | false =>
       exfalso;have ho:ops[i]?=some (ops[i]'Gm):=Array.getElem?_eq_getElem Gm
       have:=lA hI.size ho gZ (λe he hb=>by
         have h1:=kJ H8 ho he hb;exact ihi e.on h1 (by omega))
       rw[eC] at this;cases this
   obtain⟨o,ho,gZ,YE,Gm⟩:=mem_ready hI.size hi;obtain⟨c,k,hk,hlk,hx,GC,QV,oQ⟩:=hI.st
   have hMi:(L.setIfInBounds i true).getD i false=true:=by
     have:i < L.size:=by rw[hI.size];exact Gm
     simp[this]
   have sA:∀j,j≠i->(L.setIfInBounds i true).getD j false=L.getD j false:=by
     intro j hj;simp only[Array.getD_eq_getD_getElem?];rw[Array.getElem?_setIfInBounds_ne (λe=>hj e.symm)]
   have hle:∀j,L.getD j false=true->(L.setIfInBounds i true).getD j false=true:=by
     intro j hj;by_cases e:j=i;subst e;exact hMi;rw[sA j e];exact hj
   have Yz:N1 ops.toList (λj=>(L.setIfInBounds i true).getD j false):=by
     intro j y hy hj e he hb;by_cases ej:j=i;subst ej;rw[Cm ho] at hy;cases hy;exact hle _ (YE e he hb);have wG:L.getD j false=true:=by rw[<- sA j ej];exact hj
     exact hle _ (hI.closed j y hy wG e he hb)
   have abv:iS (λj=>(L.setIfInBounds i true).getD j false) ops.size=Lr:=by
     have:=(rM (L:=λj=>L.getD j false) (M:=λj=>(L.setIfInBounds i true).getD j false) gZ hMi sA ops.size).1 Gm;omega
   have ajQ:=rZ (f0:=f0) (vals:=vals) (L:=λj=>L.getD j false) (M:=λj=>(L.setIfInBounds i true).getD j false) H8 hI.closed ho gZ hMi sA
   have aiE:∀(k':Nat) (u:Value) (w':World) (c':Cx),k'<=ops.size->(∀l,YU ops l->((L.setIfInBounds i true).getD l false=true↔l < k'))->Ext nA w0 c' w'->Mon c w c' w' ->
       (∀j y,ops[j]?=some y->B1 y.op=true->(L.setIfInBounds i true).getD j false=false->rk ops j < nh->c'.DD[nA.DD.length+rk ops j]?=some none)->St G c' w' (Nt k')->Rp c' w' (vals i) u->wpAny P .any ops Q Lr (L.setIfInBounds i true) (a.put o.dst u) w':=by
     intro k' u w' c' zF eB TW hO hh' PE hu;refine ih _ _ _ ⟨by simp[hI.size],Yz,⟨c',k',zF,eB,TW,PE,?_,hh'⟩,by cases o.dst<;>exact hI.defers⟩ abv
     rw[ajQ];exact SK (QV.DG hO) hu
   have step:∀(k':Nat) (u:Value) (w':World) (c':Cx),k'<=ops.size->(∀l,YU ops l->((L.setIfInBounds i true).getD l false=true↔l < k'))->Ext c w c' w'->St G c' w' (Nt k')->Rp c' w' (vals i) u->wpAny P .any ops Q Lr (L.setIfInBounds i true) (a.put o.dst u) w':=by
     intro k' u w' c' zF eB TW PE hu;refine aiE k' u w' c' zF eB (hx.trans TW) TW.mon (λj y hy eR hj hjn=>?_) PE hu;have hji:j≠i:=λe=>by subst e;rw[hMi] at hj;cases hj
     rw[sA j hji] at hj;exact TW.ajt (oQ j y hy eR hj hjn)
   have jU:∀x∈o.op.operands,ZO G c w (IG f0 (Cs ops) vals (λ_=>true) i) a.eval x:=by
     intro x hxo v hv;cases x with
     | tmp t =>
       have abA:t∈o.looksAt ops:=by
         unfold Oper.looksAt;rw[List.mem_append];left;rw[List.mem_filterMap];exact⟨.tmp t,Array.mem_toList_iff.2 hxo,rfl⟩
       have he:=SP (f0:=f0) (vals:=vals) H8 hI.closed ho gZ YE abA
       have:Bg G (IG f0 (Cs ops) vals (λj=>L.getD j false) ops.size) (.tmp t)=some v:=by
         rw[<- hv];simp only[Bg,List.getD_eq_getElem?_getD,he]
       exact Gn GC QV this
     | const z=>exact Gn (fr:=IG f0 (Cs ops) vals (λj=>L.getD j false) ops.size) GC QV hv
     | global g=>exact Gn (fr:=IG f0 (Cs ops) vals (λj=>L.getD j false) ops.size) GC QV hv
     | func f=>exact Gn (fr:=IG f0 (Cs ops) vals (λj=>L.getD j false) ops.size) GC QV hv
   have Wx:CG ops (IG f0 (Cs ops) vals (λ_=>true) i) o=Region.wanted o (yielded ops a.tmps):=by
     refine N3 (c:=c) (w:=w) (λj want hg d hd=>⟨_,QV,?_⟩);refine SP H8 hI.closed ho gZ YE ?_;unfold Oper.looksAt;rw[List.mem_append];right;rw[hg];simp[hd]
   have dW:OR P ops o (wpAny P .any ops Q Lr (L.setIfInBounds i true)) Q a w->wpOp P ops Q i (wpAny P .any ops Q Lr (L.setIfInBounds i true)) a w:=by
     intro h;unfold wpOp;rw[ho];unfold OR at h;simp only;split;rename_i hw;rw[if_pos hw] at h;exact .inl h;rename_i hw;rw[if_neg hw] at h;exact h
   refine dW ?_;cases hqo:calm o.op with
   | false =>
     have hki:Nt k=Nt i:=by
       rcases Nat.le_total k i with ajL | ajL
       exact qQ hqs i ajL (by omega) (λm h1 h2 hm=>by
         obtain⟨y,hy,sN⟩:=hm;have:=VF H8 hI.closed hy ho YE h2 (tA sN hqo);have:=(hlk m ⟨y,hy,sN⟩).1 this;omega)
       exact(qQ hqs k ajL hk (λm h1 h2 hm=>by
         obtain⟨y,hy,sN⟩:=hm;have hLm:=(hlk m ⟨y,hy,sN⟩).2 h2;by_cases e:m=i;subst e;rw[gZ] at hLm;cases hLm;have:=QO H8 hI.closed ho hy gZ (by omega) (tA hqo sN);rw[this] at hLm;cases hLm)).symm
     rw[hki] at GC;refine hl i o ho hqo c w a _ _ GC jU Wx ?_;intro u w' c' TW PE hu;refine step (i+1) u w' c' (by omega) (λl zG=>?_) TW PE hu;by_cases e:l=i;subst e;rw[hMi];simp;rw[sA l e,hlk l zG];obtain⟨y,hy,sN⟩:=zG;constructor;intro abB;have hLl:=(hlk l ⟨y,hy,sN⟩).2 abB;rcases Nat.lt_or_ge l i with h1 | h1
     omega;have:=QO H8 hI.closed ho hy gZ (by omega) (tA hqo sN);rw[this] at hLl;cases hLl;intro abB;have:=VF H8 hI.closed hy ho YE (by omega) (tA sN hqo);exact(hlk l ⟨y,hy,sN⟩).1 this
   | true =>
     have eB:∀l,YU ops l->((L.setIfInBounds i true).getD l false=true↔l < k):=by
       intro l zG
       have Kw:l≠i:=by
         intro e;subst e;obtain⟨y,hy,sN⟩:=zG;rw[ho] at hy;cases hy;rw[hqo] at sN;cases sN
       rw[sA l Kw];exact hlk l zG
     have Z0:Win ops i k:=by
       refine⟨λl zG hd=>?_,λl zG hd=>?_⟩;exact(hlk l zG).1 (Yh hI.closed (Cm ho) YE hd);rcases Nat.lt_or_ge l k with h1 | h1
       exfalso;have hLl:=(hlk l zG).2 h1;obtain⟨y,hy,sN⟩:=zG;have:=Yh hI.closed (Cm hy) (hI.closed l y (Cm hy) hLl) hd;rw[gZ] at this;cases this;exact h1
     unfold OR;rcases Yb hqo with hqo | ⟨e,hoe⟩
     obtain⟨_,Tx⟩:=hq i o ho hqo;rcases Tx with ⟨hw,hv⟩ | ⟨hw,hv⟩
     rw[<- Wx,hw];simp only[Bool.false_eq_true,if_false];exact step k undef w c hk eB (Ext.refl c w) GC (by rw[hv];exact .sc rfl);rw[<- Wx,hw];simp only[if_true];have amf:=dD GC jU (λ_=>rfl) (hv k hk Z0);obtain⟨u,w',c',hr,TW,PE,hu⟩:=amf;unfold Oper.wp;rcases hr with hr | ⟨hr,rfl⟩
     rw[hr];exact step k u w' c' hk eB TW PE hu;rw[hr];exact step k undef w' c' hk eB TW PE hu;obtain⟨_,Tx⟩:=ha i o e ho hoe;rcases Tx with ⟨hw,hv⟩ | ⟨hw,z,hz,hrk,hv,amg⟩
     rw[<- Wx,hw];simp only[Bool.false_eq_true,if_false];exact step k undef w c hk eB (Ext.refl c w) GC (by rw[hv];exact .sc rfl);rw[<- Wx,hw];simp only[if_true];have hia:B1 o.op=true:=by rw[hoe];rfl
     obtain⟨u,w',c',hr,hO,PE,hu,apI,apU⟩:=nN (ρ:=a.eval) GC hoe hz (oQ i o ho hia gZ hrk) (amg k hk Z0);unfold Oper.wp;rw[hr];refine aiE k u w' c' hk eB (apI nA w0 hx (by omega)) hO (λj y hy eR hj hjn=>?_) PE (by rw[hv];exact hu);have hji:j≠i:=λe=>by subst e;rw[hMi] at hj;cases hj
     rw[sA j hji] at hj;have Kw:rk ops j≠rk ops i:=λe=>hji (akV hy ho eR hia e);rw[apU _ (by omega)];exact oQ j y hy eR hj hjn
end
end AI
namespace AI
open Go Go.RowKit
def fF{G:Bc}{c:Cx}{w:World}{s:AS}{fr:List AV}{a:Act}(hs:St G c w s)(hf:CX c w fr a.tmps.toList)(x:Operand):ZO G c w fr a.eval x:=λ_ hv=>Gn hs hf hv
def QI{P:Program}{ops:Array Oper}{o:Oper}{i:Nat}{l:List Nat}{Q:Exit->Act->World->Prop}{a:Act}{w:World}(ho:ops[i]?=some o)(h:OR P ops o (wpOps P ops Q l) Q a w):wpOps P ops Q (i::l) a w:=by
 unfold wpOps;rw[ho];unfold OR at h;simp only;split;rename_i hw;rw[if_pos hw] at h;exact .inl h;rename_i hw;rw[if_neg hw] at h;exact h
def Tm.Qi{G:Bc}{c:Cx}{w:World}{e:AX}{Ct:List AV}{s':AS}{e':Exit}{a':Act}{w':World}(h:Tm G c w e Ct s' e' a' w')(he:e≠.normal):e'≠.normal:=by
 obtain⟨c',_,_,_,h4⟩:=h;cases e with
 | normal=>exact absurd rfl he
 | exit id=>intro h5;rw[h4.1] at h5;cases h5
 | ret=>intro h5;rw[h4.1] at h5;cases h5
 | JI v=>obtain⟨u,h5,_⟩:=h4;intro h6;rw[h5] at h6;cases h6
def Vk{K:Act->World->Prop}{Q:Exit->Act->World->Prop}{e:Exit}{a:Act}{w:World}(he:e≠.normal)(h:Q e a w):Exit.then K Q e a w:=by
 cases e<;>first | exact absurd rfl he | exact h
structure ahN(P:Program)(G:Bc)(X:WQ)(H:TH):Prop where
 mixed:P.follows .mixedOrders=true
 ext:∀f args s r s',X f args s r s'->Sound P G (.call f args s r s')
 ajM:∀f args g Ys k,H f args=some (g,Ys,k)->∀s r s' r',Sound P G (.call g Ys s r s')->k r=some r'->Sound P G (.call f args s r' s')
def sound{P:Program}{G:Bc}{X:WQ}{H:TH}(hg:ahN P G X H){jd:Jd}(h:J P G X H jd):Sound P G jd:=by
 induction h with
 | sem h=>exact h hg.mixed
 | Wd hw _ ih=>intro cx w a Q hs hf hd hQ;obtain⟨c2,x,h1,h2⟩:=hw cx w _ hs hf;exact ih c2 w a Q h1 h2 hd (λe a w hp=>hQ e a w (hp.ext x))
 | aiN hw _ ih=>obtain⟨n,ih⟩:=ih;exact⟨n,λcx w a Q hs hf hd hQ=>by obtain⟨c2,x,h1,h2⟩:=hw cx w _ hs hf;exact ih c2 w a Q h1 h2 hd (λe a w hp=>hQ e a w (hp.ext x))⟩
 | p4 _ _ hv ih =>
   intro cx w a K Q hs I5 hU hK;exact ih cx w a K Q hs I5 hU (λu w' c' x st hu=>hK u w' c' x st (hv _ _ _ hu))
 | fE _ _ hv ih =>
   intro cx w a K Q hs I5 hU hK;exact ih cx w a K Q hs I5 hU (λu w' c' x st hu=>hK u w' c' x (hv _ _ st) hu)
 | @scope c fr fr2 Ct s s2 s' e _ he hsc ih =>
   intro cx w a Q hs hf hd hQ;refine ih cx w a Q hs hf hd ?_;rintro e' a' w' ⟨c',hx,CW,SS,h4⟩;cases e with
   | normal=>obtain⟨rfl,h5⟩:=h4;obtain⟨c2,x2,XE,f2⟩:=hsc cx w c' w' _ hx hs CW h5;exact hQ _ _ _ ⟨c2,x2,XE,SS,rfl,f2⟩
   | exit id=>obtain⟨rfl,h5⟩:=h4;obtain⟨c2,x2,XE,f2⟩:=hsc cx w c' w' _ hx hs CW h5;exact hQ _ _ _ ⟨c2,x2,XE,SS,rfl,f2⟩
   | ret=>obtain⟨rfl,h5⟩:=h4;obtain⟨c2,x2,XE,f2⟩:=hsc cx w c' w' _ hx hs CW h5;exact hQ _ _ _ ⟨c2,x2,XE,SS,rfl,f2⟩
   | JI v=>exact absurd rfl (he v)
 | skip=>intro cx w a Q hs hf hd hQ;exact wp_skip (hQ _ _ _ ⟨cx,Ext.refl _ _,hs,hd,rfl,hf⟩)
 | exit=>intro cx w a Q hs hf hd hQ;exact wp_exit (hQ _ _ _ ⟨cx,Ext.refl _ _,hs,hd,rfl,hf⟩)
 | ret=>intro cx w a Q hs hf hd hQ;exact wp_ret (hQ _ _ _ ⟨cx,Ext.refl _ _,hs,hd,rfl,hf⟩)
 | seq _ _ pB ih2 =>
   intro cx w a Q hs hf hd hQ;refine wp_seq (pB cx w a _ hs hf hd ?_);rintro e' a' w' ⟨c',hx,CW,SS,rfl,YA⟩;exact ih2 c' w' a' Q CW YA SS (λe2 a2 w2 h2=>hQ e2 a2 w2 (h2.ext hx))
 | qN _ he pB =>
   intro cx w a Q hs hf hd hQ;refine wp_seq (pB cx w a _ hs hf hd ?_);intro e' a' w' hp;exact Vk (hp.Qi he) (hQ _ _ _ hp)
 | @cond q x y t fr Ct s s' e hq _ ih =>
   intro cx w a Q hs hf hd hQ;have hr:=Gn hs hf hq
   have I5:a.eval q=.bool t:=by
     generalize a.eval q=v at hr;cases hr;rfl
   exact wp_cond I5 (ih cx w a Q hs hf hd hQ)
 | @block id c fr Ct s s' e _ ih =>
   intro cx w a Q hs hf hd hQ;refine wp_block (ih cx w a _ hs hf hd ?_);rintro e' a' w' ⟨c',hx,CW,SS,h4⟩;cases e with
   | normal=>obtain⟨rfl,h5⟩:=h4;exact hQ _ _ _ ⟨c',hx,CW,SS,rfl,h5⟩
   | exit RC =>
     obtain⟨rfl,h5⟩:=h4;show if RC=id then Q .normal a' w' else Q (.exit RC) a' w'
     by_cases hid:RC=id;rw[if_pos hid];refine hQ _ _ _ ⟨c',hx,CW,SS,?_⟩;simp only[Fa,hid,if_true];exact⟨trivial,h5⟩;rw[if_neg hid];refine hQ _ _ _ ⟨c',hx,CW,SS,?_⟩;simp only[Fa,hid,if_false];exact⟨trivial,h5⟩
   | ret=>obtain⟨rfl,h5⟩:=h4;exact hQ _ _ _ ⟨c',hx,CW,SS,rfl,h5⟩
   | JI v=>obtain⟨u,rfl,h5⟩:=h4;exact hQ _ _ _ ⟨c',hx,CW,SS,u,rfl,h5⟩
 | loop _ ih =>
   intro cx w a Q hs hf hd hQ;obtain⟨n,hn⟩:=ih;exact wp_loop_rounds n (hn cx w a Q hs hf hd hQ)
 | aio _ _ pB ih2 =>
   obtain⟨n,hn⟩:=ih2;refine⟨n+1,?_⟩;intro cx w a Q hs hf hd hQ;rw[rounds_succ];refine pB cx w a _ hs hf hd ?_;rintro e' a' w' ⟨c',hx,CW,SS,rfl,YA⟩;exact hn c' w' a' Q CW YA SS (λe2 a2 w2 h2=>hQ e2 a2 w2 (h2.ext hx))
 | s6 _ he pB =>
   refine⟨1,?_⟩;intro cx w a Q hs hf hd hQ;rw[rounds_succ];refine pB cx w a _ hs hf hd ?_;intro e' a' w' hp;exact Vk (hp.Qi he) (hQ _ _ _ hp)
 | region _ ih =>
   intro cx w a Q hs hf hd hQ;exact wp_region (ih cx w a Q hs hf hd hQ)
 | acv=>intro cx w a Q hs hf hd hQ;exact hQ _ _ _ ⟨cx,Ext.refl _ _,hs,hd,rfl,hf⟩
 | @tK ops i l o v fr Ct s s1 s' e ho _ _ pB ih2 =>
   intro cx w a Q hs hf hd hQ;refine QI ho (pB cx w a _ _ hs (λx _=>fF hs hf x) (N3 (c:=cx) (w:=w) (λ_ _ _ _ _=>⟨fr,hf,rfl⟩)) ?_);intro u w' c' hx CW hu;exact ih2 c' w' (a.put o.dst u) Q CW (SK (hf.mono hx) hu) (by cases o.dst<;>exact hd) (λe2 a2 w2 h2=>hQ e2 a2 w2 (h2.ext hx))
 | @acw ops i l o v fr s s1 ho _ pB =>
   intro cx w a Q hs hf hd hQ;refine QI ho (pB cx w a _ _ hs (λx _=>fF hs hf x) (N3 (c:=cx) (w:=w) (λ_ _ _ _ _=>⟨fr,hf,rfl⟩)) ?_);intro u w' c' hx CW hu;exact hQ _ _ _ ⟨c',hx,CW,hd,u,rfl,hu⟩
 | @Oi ops o fr s s' v hw h =>
   intro cx w a K Q hs I5 hU hK;unfold OR;rw[<- hU,hw];simp only[if_true];obtain⟨u,w',c',hr,hx,CW,hu⟩:=dD hs I5 (λ_=>rfl) h;unfold Oper.wp;rcases hr with hr | ⟨hr,rfl⟩
   rw[hr];exact hK u w' c' hx CW hu;rw[hr];exact hK undef w' c' hx CW hu
 | @acu ops o fr s s' cl x y t tx a b v hw ho IF hxs D9 ha hb h =>
   intro cx w ac K Q hs I5 hU hK;unfold OR;rw[<- hU,hw];simp only[if_true];have e1:cl.args=#[x,y]:=by apply Array.ext';rw[hxs]
   have e2:cl.argTypes=#[t,tx]:=by apply Array.ext';rw[D9]
   have jS:∀z∈[x,y],z∈o.op.operands:=λz hz=>by rw[ho];simp only[Op.operands,Call.operands,e1,Array.mem_append];exact .inr (by simpa using hz)
   obtain⟨u,w',c',hr,hx,CW,hu⟩:=h cx w _ _ o.type hs (I5 x (jS x (by simp)) a ha) (I5 y (jS y (by simp)) b hb);unfold Oper.wp
   have hP:(execOp ac.eval o).run P w=.ok (.value u) w':=by
     simp[execOp,ho,resolve,IF,e1,e2,invoke,builtin,hr]
   rw[hP];exact hK u w' c' hx CW hu
 | @pY ops o fr s hw =>
   intro cx w a K Q hs I5 hU hK;unfold OR;rw[<- hU,hw];simp only[Bool.false_eq_true,if_false];exact hK undef w cx (Ext.refl _ _) hs (.sc rfl)
 | @Sy ops o fr s s' f args r hw h _ ih =>
   intro cx w a K Q hs I5 hU hK;unfold OR;rw[<- hU,hw];simp only[if_true];obtain⟨vs,hr,IJ⟩:=dD hs I5 (λ_=>rfl) h;unfold Oper.wp;rw[hr];refine(ih cx w vs hs IJ).mono ?_;rintro e w' ⟨c',hx,CW,h4⟩;cases r with
   | ret v=>obtain⟨u,rfl,hu⟩:=h4;exact hK u w' c' hx CW hu
   | JI v=>obtain⟨u,rfl,hu⟩:=h4;exact hK u w' c' hx CW hu
 | @ais ops o fr s v hw h =>
   intro cx w a K Q hs I5 hU hK;unfold OR;rw[<- hU,hw];simp only[if_true];obtain⟨u,hr,hu⟩:=dD hs I5 (λ_=>rfl) h;unfold Oper.wp;rw[hr];exact hK u w cx (Ext.refl _ _) hs hu
 | @draw id ops f0 s0 rs vals Nt h0 H8 hl hq ha ihl =>
   intro cx w a Q hs hf hd hQ;refine wp_region_any hg.mixed ?_;obtain⟨x,st⟩:=hs.same (iP w);obtain⟨c2,x2,XE,TV⟩:=st.holds rs;rw[<- h0] at XE;rw[hs.len] at ha;refine aaH (nh:=rs.length) H8 ihl hq cx w ha Q hQ ops.size _ a _ ⟨by simp,?_,⟨c2,0,Nat.zero_le _,?_,x.trans x2,XE,?_,?_⟩,hd⟩ ?_;intro i o ho hL;exfalso;simp only[Array.getD_eq_getD_getElem?,Array.getElem?_replicate] at hL;split at hL<;>simp at hL
   intro l _;simp only[Array.getD_eq_getD_getElem?,Array.getElem?_replicate];split<;>simp
   have:IG f0 (Cs ops) vals (λj=>(Array.replicate ops.size false).getD j false) ops.size=f0:=by
     have key:∀n,IG f0 (Cs ops) vals (λj=>(Array.replicate ops.size false).getD j false) n=f0:=by
       intro n
       induction n with
       | zero=>rfl
       | succ n ih =>
         simp only[IG,ih];rw[if_neg];simp only[Array.getD_eq_getD_getElem?,Array.getElem?_replicate];split<;>simp
     exact key _
   rw[this];exact hf.mono (x.trans x2);intro j y _ _ _ hj;rw[TV,List.getElem?_append_right (by omega)];simp[List.getElem?_replicate];omega
   have key:∀n,iS (λj=>(Array.replicate ops.size false).getD j false) n=n:=by
     intro n
     induction n with
     | zero=>rfl
     | succ n ih =>
       simp only[iS,ih]
       have:(Array.replicate ops.size false).getD n false=false:=by
         simp only[Array.getD_eq_getD_getElem?,Array.getElem?_replicate];split<;>simp
       simp only[this];simp
   exact key _
 | @body f fn c args Ct s s' s2 e v hf hb _ he hr hk ih =>
   intro cx w vs hs IJ;have hl:=IJ.len;refine calls_of_wp hf hb (ih cx w _ _ hs ?_ rfl ?_);simp only[Array.toList_append,Array.toList_replicate];rw[List.size_toArray,hl];exact IJ.append (CX.replicate (.sc rfl) _);rintro e' a' w' ⟨c',hx,CW,SS,h4⟩
   have aR:St G c' w' s2:=by
     rcases hk with rfl | rfl
     exact CW.cut _;exact CW
   rcases he with rfl | rfl
   obtain⟨rfl,h5⟩:=h4;obtain⟨u,h6,h7⟩:=Wk CW h5 hr;exact⟨SS,u,h6,c',hx,aR,u,rfl,h7⟩;obtain⟨rfl,h5⟩:=h4;obtain⟨u,h6,h7⟩:=Wk CW h5 hr;exact⟨SS,u,h6,c',hx,aR,u,rfl,h7⟩
 | @ahU f fn c args Ct s s' v hf hb _ ih =>
   intro cx w vs hs IJ;have hl:=IJ.len;refine calls_of_wp hf hb (ih cx w _ _ hs ?_ rfl ?_);simp only[Array.toList_append,Array.toList_replicate];rw[List.size_toArray,hl];exact IJ.append (CX.replicate (.sc rfl) _);rintro e' a' w' ⟨c',hx,CW,SS,u,rfl,h5⟩;exact⟨SS,c',hx,CW.cut _,u,rfl,h5⟩
 | ext h=>exact hg.ext _ _ _ _ _ h
 | ajM hh _ hk ih=>exact hg.ajM _ _ _ _ _ hh _ _ _ _ ih hk
end AI
namespace AI
open Go Go.RowKit
def aeN:Value->Value->Bool
 | .int k a,.int k' b=>k == k'&&a == b
 | .bool a,.bool b=>a == b
 | .string a,.string b=>a.data.toList == b.data.toList
 | .nilIface,.nilIface=>true
 | .nilFunc,.nilFunc=>true
 | .pointer none,.pointer none=>true
 | .map none,.map none=>true
 | .tuple a,.tuple b=>a.size == 0&&b.size == 0
 | _,_=>false
def rI{a b:Value}(h:aeN a b=true):a=b:=by
 unfold aeN at h;split at h;simp at h;rw[h.1,h.2];simp at h;rw[h];simp only[beq_iff_eq] at h;rename_i x y;have:x=y:=ByteArray.ext (Array.ext' h);rw[this];rfl;rfl;rfl;rfl;rename_i x y;simp at h;rw[h.1,h.2];cases h
mutual
def TM:AV->AV->Bool
 | .sc a,.sc b=>aeN a b
 | .agg a,.agg b=>X8 a b
 | .C6 a,.C6 b=>X8 a b
 | .sl o n a,.sl p m b=>decide (o=p)&&n == m&&X8 a b
 | .Og a b c,.Og x y z=>a == x&&b == y&&c == z
 | .el a,.el b=>X8 a b
 | .ptr a b,.ptr x y=>a == x&&b == y
 | .fn f a b,.fn g x y=>decide (f=g)&&X8 a x&&X8 b y
 | .Fu t a,.Fu u b=>t == u&&TM a b
 | .mp a,.mp b=>a == b
 | _,_=>false
def X8:List AV->List AV->Bool
 | [],[]=>true
 | a::as,b::bs=>TM a b&&X8 as bs
 | _,_=>false
end
mutual
def rH:∀{a b:AV},TM a b=true->a=b
 | .sc a,b,h=>by cases b<;>simp[TM] at h;rw[rI h]
 | .agg a,b,h=>by cases b<;>simp[TM] at h;rw[O9 h]
 | .C6 a,b,h=>by cases b<;>simp[TM] at h;rw[O9 h]
 | .sl o n a,b,h=>by cases b<;>simp[TM] at h;rw[h.1.1,h.1.2,O9 h.2]
 | .Og _ _ _,b,h=>by cases b<;>simp[TM] at h;rw[h.1.1,h.1.2,h.2]
 | .el a,b,h=>by cases b<;>simp[TM] at h;rw[O9 h]
 | .ptr _ _,b,h=>by cases b<;>simp[TM] at h;rw[h.1,h.2]
 | .fn f a c,b,h=>by cases b<;>simp[TM] at h;rw[h.1.1,O9 h.1.2,O9 h.2]
 | .Fu t a,b,h=>by cases b<;>simp[TM] at h;rw[h.1,rH h.2]
 | .mp _,b,h=>by cases b<;>simp[TM] at h;rw[h]
 | .any,b,h=>by cases b<;>simp[TM] at h
def O9:∀{a b:List AV},X8 a b=true->a=b
 | [],b,h=>by cases b<;>simp[X8] at h;rfl
 | a::as,b,h=>by cases b<;>simp[X8] at h;rw[rH h.1,O9 h.2]
end
def reads:Op->Bool
 | .load .. | .lookup ..=>true
 | .call cl=>(match cl.callee with
   | .builtin .len=>true
   | _=>false)
 | _=>false
def VY{P:Program}{G:Bc}{fr:List AV}{s:AS}{o:Oper}{r:AR}(hq:quiet o.op=true)(h:QK P G fr s o=some r):∃v,r=.val v s:=by
 unfold QK at h;split at h<;>rename_i ho<;>(try (rw[ho] at hq;simp[quiet] at hq;done))
 all_goals first
   | (obtain⟨v,_,rfl⟩:=map_some h;exact⟨_,rfl⟩)
   | (split at h
      all_goals first
        | (obtain⟨v,_,rfl⟩:=map_some h;exact⟨_,rfl⟩)
        | (cases h;done)
        | (cases h;exact⟨_,rfl⟩)
        | (split at h
           all_goals first
             | (cases h;done)
             | (cases h;exact⟨_,rfl⟩)))
   | (obtain⟨_,_,h2⟩:=bind_some h;obtain⟨v,_,rfl⟩:=map_some h2;exact⟨_,rfl⟩)
   | (rw[ho] at hq
      unfold Tq at h;split at h
      all_goals first
        | (obtain⟨_,_,h2⟩:=bind_some h;obtain⟨v,_,rfl⟩:=map_some h2;exact⟨_,rfl⟩)
        | (rename_i IF;simp[quiet,IF] at hq;done)
        | (split at h
           all_goals first
             | (obtain⟨v,_,rfl⟩:=map_some h;exact⟨_,rfl⟩)
             | (cases h;done))
        | (cases h;done))
   | (cases h;done)
def Ud{P:Program}{G:Bc}{fr:List AV}{s:AS}{o:Oper}{v:AV}{s':AS}(hq:quiet o.op=true)(hr:reads o.op=false)(h:QK P G fr s o=some (.val v s'))(s2:AS):QK P G fr s2 o=some (.val v s2):=by
 have e:=VY hq h;obtain⟨v',e⟩:=e;injection e with e1 e2
 subst e1 e2;obtain⟨dst,op,ty,pos,after,guard⟩:=o;cases op<;>simp only[quiet,reads,Bool.false_eq_true] at hq hr<;>simp only[QK] at h ⊢
 all_goals first
   | (obtain⟨v',h1,h2⟩:=map_some h;injection h2 with h2;subst h2;rw[h1];rfl)
   | (obtain⟨q,h0,h2⟩:=bind_some h;obtain⟨v',h1,h3⟩:=map_some h2;injection h3 with h3;subst h3;rw[h0,Option.bind_some,h1];rfl)
   | (split at h
      all_goals first
        | (obtain⟨v',h1,h2⟩:=map_some h;injection h2 with h2;subst h2;simp only[*,Option.map_some];done)
        | (cases h;done)
        | (cases h;simp only[*];done)
        | (split at h
           all_goals first
             | (cases h;done)
             | (cases h;simp[*];done)))
   | (cases hr;done)
   | (rename_i cl
      unfold Tq at h ⊢;split at h
      all_goals first
        | (rename_i IF;simp[IF] at hr;done)
        | (rename_i IF;simp[IF] at hq;done)
        | (simp only;obtain⟨q,h0,h2⟩:=bind_some h;obtain⟨v',h1,h3⟩:=map_some h2;injection h3 with h3;subst h3;rw[h0,Option.bind_some,h1];rfl)
        | (cases h;done))
end AI
namespace AI
open Go Go.RowKit
inductive Tk where
 | code (c:Code) (fr:List AV) (s:AS)
 | loop (c:Code) (fr:List AV) (s:AS)
 | ops (ops:Array Oper) (l:List Oper) (fr:List AV) (s:AS)
 | draw (ops:Array Oper) (l:List Oper) (fr:List AV) (s:AS) (q:Nat)
 | op (ops:Array Oper) (o:Oper) (fr:List AV) (s:AS)
 | call (f:FuncId) (args:List AV) (s:AS)
inductive Rs where
 | code (e:AX) (fr:List AV) (s:AS)
 | call (r:CR) (s:AS)
 | tr (l:List (List AV×AS×AV)) (fr:List AV) (s:AS)
abbrev ahL:=FuncId->List AV->AS->Option (CR×AS)
def NG:List Oper->Nat->List Nat
 | [],_=>[]
 | o::os,i=>if calm o.op then NG os (i+1) else i::NG os (i+1)
def ad1(ms:List Nat)(ls:List Nat)(i k:Nat):Bool:=ls.all λl=>(!SN ms i l||decide (l < k))&&(!SN ms l i||decide (k<=l))
def uC(P:Program)(G:Bc)(ms ls:List Nat)(i:Nat)(o:Oper)(fr:List AV)(v:AV):List AS->Nat->Bool
 | [],_=>true
 | s::ss,k=>(!ad1 ms ls i k||(match QK P G fr s o with
     | some (.val u _)=>TM u v
     | _=>false))&&uC P G ms ls i o fr v ss (k+1)
def uG(P:Program)(G:Bc)(ops:Array Oper)(ms ls:List Nat)(Nt:List AS):List Oper->List (List AV×AS×AV)->Nat->Bool
 | o::os,t::ts,i=>(!(quiet o.op&&reads o.op)||!CG ops t.1 o||uC P G ms ls i o t.1 t.2.2 Nt 0)&&uG P G ops ms ls Nt os ts (i+1)
 | _,_,_=>true
def X9(ms ls:List Nat)(i id:Nat)(cs:List AV):List AS->Nat->Bool
 | [],_=>true
 | s::ss,k=>(!ad1 ms ls i k||(match s.get id with
     | some (.cells ds)=>X8 ds cs
     | _=>false))&&X9 ms ls i id cs ss (k+1)
def TL(P:Program)(ops:Array Oper)(ms ls:List Nat)(Nt:List AS):List Oper->List (List AV×AS×AV)->Nat->Nat->Bool
 | o::os,t::ts,i,q=>(match o.op with
   | .alloc e=>(!CG ops t.1 o||(match MH P e with
     | some z=>X9 ms ls i q (cellsOf z) Nt 0
     | none=>false))&&TL P ops ms ls Nt os ts (i+1) (q+1)
   | _=>TL P ops ms ls Nt os ts (i+1) q)
 | _,_,_,_=>true
def rsv(P:Program):List Oper->Option (List Bo)
 | []=>some []
 | o::l=>(match o.op with
   | .alloc e=>(match MH P e,rsv P l with
     | some z,some r=>some (.cells (cellsOf z)::r)
     | _,_=>none)
   | _=>rsv P l)
def agM(P:Program)(G:Bc)(ops:Array Oper)(tr:List (List AV×AS×AV))(sf:AS):Bool :=
 match NG ops.toList 0 with
 | []=>true
 | ls=>uG P G ops (Ir ops.toList []) ls (tr.map (·.2.1)++[sf]) ops.toList tr 0
def XI(P:Program)(ops:Array Oper)(tr:List (List AV×AS×AV))(sf:AS)(q:Nat):List Bo->Bool
 | []=>true
 | _=>TL P ops (Ir ops.toList []) (NG ops.toList 0) (tr.map (·.2.1)++[sf]) ops.toList tr 0 q
def ala(P:Program)(G:Bc)(ops:Array Oper)(tr:List (List AV×AS×AV))(sf:AS)(q:Nat)(r:List Bo):Bool :=
 match agM P G ops tr sf with
 | true=>XI P ops tr sf q r
 | false=>false
def alP:AV->Bool
 | .ptr _ _ | .Og _ _ _ | .mp _ | .fn _ _ _=>true
 | _=>false
def ajl:List AV->Bool
 | []=>false
 | a::l=>match alP a with
   | true=>true
   | false=>ajl l
def esc:AV->Bool
 | .agg l=>ajl l
 | .C6 l=>ajl l
 | a=>alP a
def fin(v:AV)(s:AS)(n:Nat):AS:=match esc v with
 | true=>s
 | false=>s.cut n
def Pv(ops:Array Oper)(fr:List AV)(o:Oper)(q:Nat):AV:=match CG ops fr o with
 | true=>.ptr q 0
 | false=>.sc undef
inductive S6(P:Program)(G:Bc)(X:WQ)(H:TH)(ops:Array Oper):Nat->List Oper->List AV->AS->List (List AV×AS×AV)->List AV->AS->Prop where
 | nil {q:Nat} {fr:List AV} {s:AS}:S6 P G X H ops q [] fr s [] fr s
 | cons {q:Nat} {o:Oper} {l:List Oper} {fr Ct:List AV} {s s1 s':AS} {v:AV} {t:List (List AV×AS×AV)} (ha:B1 o.op=false) (h:J P G X H (.op ops o fr s (.ret v) s1)) (k:S6 P G X H ops q l (JE fr o.dst v) s1 t Ct s'):S6 P G X H ops q (o::l) fr s ((fr,s,v)::t) Ct s'
 | alloc {q:Nat} {o:Oper} {l:List Oper} {fr Ct:List AV} {s s':AS} {t:List (List AV×AS×AV)} (ha:B1 o.op=true) (k:S6 P G X H ops (q+1) l (JE fr o.dst (Pv ops fr o q)) s t Ct s'):S6 P G X H ops q (o::l) fr s ((fr,s,Pv ops fr o q)::t) Ct s'
section
variable {P:Program} {G:Bc} {X:WQ} {H:TH} {ops:Array Oper}
def S6.len{q:Nat}{l:List Oper}{fr Ct:List AV}{s s':AS}{t:List (List AV×AS×AV)}(h:S6 P G X H ops q l fr s t Ct s'):t.length=l.length:=by
 induction h with
 | nil=>rfl
 | cons _ _ _ ih=>simp[ih]
 | alloc _ _ ih=>simp[ih]
def FY(t:List (List AV×AS×AV))(sf:AS)(i:Nat):AS:=match t[i]? with
 | some x=>x.2.1
 | none=>sf
def KP(t:List (List AV×AS×AV))(i:Nat):AV:=match t[i]? with
 | some x=>x.2.2
 | none=>.sc undef
def S6.at{q:Nat}{l:List Oper}{fr Ct:List AV}{s s':AS}{t:List (List AV×AS×AV)}(h:S6 P G X H ops q l fr s t Ct s'):FY t s' 0=s/\∀i o,l[i]?=some o->∃fi,t[i]?=some (fi,FY t s' i,KP t i) /\
   ((B1 o.op=false/\J P G X H (.op ops o fi (FY t s' i) (.ret (KP t i)) (FY t s' (i+1))))\/(B1 o.op=true/\FY t s' (i+1)=FY t s' i/\KP t i=Pv ops fi o (q+nI l i))):=by
 induction h with
 | nil=>exact⟨rfl,λi o ho=>by simp at ho⟩
 | @cons q o l fr Ct s s1 s' v t ha h k ih =>
   refine⟨rfl,λi o' ho=>?_⟩;cases i with
   | zero =>
     simp at ho;subst ho;refine⟨fr,rfl,.inl ⟨ha,?_⟩⟩
     have:FY ((fr,s,v)::t) s' 1=s1:=by
       have:=ih.1;unfold FY at this ⊢;simpa using this
     rw[this];exact h
   | succ i =>
     obtain⟨fi,h1,h2⟩:=ih.2 i o' (by simpa using ho)
     refine⟨fi,?_,?_⟩;have:((fr,s,v)::t)[i+1]?=t[i]?:=by simp
     rw[this,h1];simp[FY,KP];simp only[nI,ha,Nat.zero_add];simpa[FY,KP] using h2
 | @alloc q o l fr Ct s s' t ha k ih =>
   refine⟨rfl,λi o' ho=>?_⟩;cases i with
   | zero =>
     simp at ho;subst ho;refine⟨fr,rfl,.inr ⟨ha,?_,?_⟩⟩;have:=ih.1;unfold FY at this ⊢;simpa using this
     simp[KP,nI]
   | succ i =>
     obtain⟨fi,h1,h2⟩:=ih.2 i o' (by simpa using ho)
     refine⟨fi,?_,?_⟩;have:((fr,s,Pv ops fr o q)::t)[i+1]?=t[i]?:=by simp
     rw[this,h1];simp[FY,KP];simp only[nI,ha];rw[<- Nat.add_assoc];simpa[FY,KP] using h2
def S6.dT{q:Nat}{l:List Oper}{fr Ct:List AV}{s s':AS}{t:List (List AV×AS×AV)}(h:S6 P G X H ops q l fr s t Ct s')(dst:Nat->Option Tmp)(vals:Nat->AV)(f0:List AV)(k:Nat)(QV:fr=IG f0 dst vals (λ_=>true) k)(hd:∀i o,l[i]?=some o->dst (k+i)=o.dst)(hv:∀i,vals (k+i)=KP t i\/l.length<=i) :
   Ct=IG f0 dst vals (λ_=>true) (k+l.length)/\∀i x,t[i]?=some x->x.1=IG f0 dst vals (λ_=>true) (k+i):=by
 have key:∀{q:Nat} {o:Oper} {l:List Oper} {fr Ct:List AV} {s:AS} {v:AV} {t:List (List AV×AS×AV)}
     (_:∀(k:Nat),JE fr o.dst v=IG f0 dst vals (λ_=>true) k->(∀i o,l[i]?=some o->dst (k+i)=o.dst)->(∀i,vals (k+i)=KP t i\/l.length<=i)->Ct=IG f0 dst vals (λ_=>true) (k+l.length)/\∀i x,t[i]?=some x->x.1=IG f0 dst vals (λ_=>true) (k+i))
     (k:Nat),fr=IG f0 dst vals (λ_=>true) k->(∀i o',(o::l)[i]?=some o'->dst (k+i)=o'.dst)->(∀i,vals (k+i)=KP ((fr,s,v)::t) i\/(o::l).length<=i) ->
     Ct=IG f0 dst vals (λ_=>true) (k+(o::l).length)/\∀i x,((fr,s,v)::t)[i]?=some x->x.1=IG f0 dst vals (λ_=>true) (k+i):=by
   intro q o l fr Ct s v t ih k QV hd hv;have hd0:=hd 0 o rfl
   have hv0:vals k=v:=by
     rcases hv 0 with h0 | h0
     simpa[KP] using h0
     simp at h0
   have:=ih (k+1) (by simp only[IG,if_true];rw[QV,<- hd0,hv0];rfl) (λi o' Wv=>by have:=hd (i+1) o' (by simpa using Wv);rwa[show k+1+i=k+(i+1) from by omega]) (λi=>by
     rcases hv (i+1) with h1 | h1
     left;rw[show k+1+i=k+(i+1) from by omega,h1];simp[KP];right;simp at h1;omega)
   refine⟨by rw[this.1];congr 1;simp;omega,λi x hx=>?_⟩;cases i with
   | zero=>simp at hx;subst hx;exact QV
   | succ i =>
     have h2:=this.2 i x (by simpa using hx)
     rw[h2];congr 1;omega
 induction h generalizing k with
 | nil=>exact⟨QV,λi x hx=>by simp at hx⟩
 | @cons q o l fr Ct s s1 s' v t ha h _ ih=>exact key (q:=q) (λk h1 h2 h3=>ih k h1 h2 h3) k QV hd hv
 | @alloc q o l fr Ct s s' t ha _ ih=>exact key (q:=q) (λk h1 h2 h3=>ih k h1 h2 h3) k QV hd hv
def ahG{i k:Nat}{ls:List Nat}(hls:∀l,l∈ls->YU ops l)(h:Win ops i k):ad1 (Ir ops.toList []) ls i k=true:=by
 unfold ad1;rw[List.all_eq_true];intro l hl;have h1:=h.1 l (hls l hl);have h2:=h.2 l (hls l hl);cases ZV:SN (Ir ops.toList []) i l<;>cases oO:SN (Ir ops.toList []) l i<;>simp_all
def fB{os:List Oper}{i l:Nat}(h:l∈NG os i):∃j o,l=i+j/\os[j]?=some o/\calm o.op=false:=by
 induction os generalizing i with
 | nil=>simp[NG] at h
 | cons x os ih =>
   simp only[NG] at h;split at h;obtain⟨j,o,h1,h2,h3⟩:=ih h;exact⟨j+1,o,by omega,by simpa using h2,h3⟩
   rename_i hq;rcases List.mem_cons.1 h with h | h
   exact⟨0,x,by omega,rfl,by simpa using hq⟩
   obtain⟨j,o,h1,h2,h3⟩:=ih h;exact⟨j+1,o,by omega,by simpa using h2,h3⟩
def Ki{o:Oper}{fr:List AV}{s s':AS}{v:AV}(hq:quiet o.op=true)(h:J P G X H (.op ops o fr s (.ret v) s')):s'=s/\((CG ops fr o=false/\v=.sc undef)\/(CG ops fr o=true/\QK P G fr s o=some (.val v s))):=by
 cases h with
 | Oi hw h =>
   obtain⟨v',e⟩:=VY hq h;injection e with e1 e2
   subst e2;exact⟨rfl,.inr ⟨hw,h⟩⟩
 | pY hw=>exact⟨rfl,.inl ⟨hw,rfl⟩⟩
 | Sy hw h hc =>
   obtain⟨v',e⟩:=VY hq h;cases e
 | p4 ZL=>rw[hq] at ZL;cases ZL
 | fE ZL=>rw[hq] at ZL;cases ZL
 | acu _ ho IF=>simp[quiet,ho,IF] at hq
def vN{ms ls:List Nat}{i id:Nat}{cs:List AV}{ss:List AS}{k0:Nat}(h:X9 ms ls i id cs ss k0=true){k:Nat}{s:AS}(hs:ss[k]?=some s)(hw:ad1 ms ls i (k0+k)=true):s.get id=some (.cells cs):=by
 induction ss generalizing k0 k with
 | nil=>simp at hs
 | cons x ss ih =>
   simp only[X9,Bool.and_eq_true] at h;cases k with
   | zero =>
     simp at hs;subst hs;rw[Nat.add_zero] at hw;have h1:=h.1;rw[hw] at h1;simp only[Bool.not_true,Bool.false_or] at h1;split at h1;rename_i ds hu;rw[hu,O9 h1];cases h1
   | succ k=>exact ih h.2 (by simpa using hs) (by rwa[show k0+1+k=k0+(k+1) from by omega])
def vC{ms ls:List Nat}{Nt:List AS}{os:List Oper}{ts:List (List AV×AS×AV)}{i0 q:Nat}(h:TL P ops ms ls Nt os ts i0 q=true){i:Nat}{o:Oper}{e:TypeId}{x:List AV×AS×AV}(ho:os[i]?=some o)(hx:ts[i]?=some x)(he:o.op=.alloc e)(hw:CG ops x.1 o=true):∃z,MH P e=some z/\X9 ms ls (i0+i) (q+nI os i) (cellsOf z) Nt 0=true:=by
 induction os generalizing ts i0 i q with
 | nil=>simp at ho
 | cons y os ih =>
   cases ts with
   | nil=>simp at hx
   | cons t ts =>
     cases i with
     | zero =>
       simp at ho hx;subst ho hx;simp only[TL,he,hw,Bool.not_true,Bool.false_or,Bool.and_eq_true] at h;have h1:=h.1;split at h1;rename_i z hz;exact⟨z,hz,h1⟩;cases h1
     | succ i =>
       simp only[TL] at h;split at h;rename_i e' he';rw[Bool.and_eq_true] at h;have:=ih h.2 (by simpa using ho) (by simpa using hx)
       simp only[nI,he',B1];rwa[show i0+1+i=i0+(i+1) from by omega,Nat.add_assoc q] at this;rename_i Kw;have:=ih h (by simpa using ho) (by simpa using hx)
       have nD:B1 y.op=false:=by
         cases eR:B1 y.op with
         | false=>rfl
         | true=>obtain⟨e',he'⟩:=K1 eR;exact absurd he' (Kw e')
       simp only[nI,nD,Nat.zero_add];rwa[show i0+1+i=i0+(i+1) from by omega] at this
def agA{l:List Oper}{r:List Bo}(h:rsv P l=some r):r.length=nI l l.length:=by
 induction l generalizing r with
 | nil=>simp[rsv] at h;subst h;rfl
 | cons o l ih =>
   simp only[rsv] at h;split at h;rename_i e he;split at h;rename_i z r' hz hr;cases h;simp only[List.length_cons,nI,he,B1,ih hr];omega;cases h;rename_i Kw
   have nD:B1 o.op=false:=by
     cases eR:B1 o.op with
     | false=>rfl
     | true=>obtain⟨e',he'⟩:=K1 eR;exact absurd he' (Kw e')
   simp only[List.length_cons,nI,nD,ih h];omega
def Ry{o:Oper}{e:TypeId}(h:o.op=.alloc e):quiet o.op=false:=by rw[h];rfl
end
end AI
namespace AI
open Go Go.RowKit
def inI:Int->Bool
 | .ofNat m=>Nat.ble m 9223372036854775807
 | .negSucc m=>Nat.ble m 9223372036854775807
def Nu(k:IntKind)(n:Int):Int:=match k with
 | .i64=>(match inI n with | true=>n | false=>IntKind.i64.wrap n)
 | k=>k.wrap n
def akd{n:Int}(h:inI n=true):IntKind.i64.wrap n=n:=by
 refine IntWalk.i64_in n ?_;cases n with
 | ofNat m =>
   have:=Nat.le_of_ble_eq_true h;have e:Int.ofNat m=(m:Int):=rfl;rw[e];have h2:(m:Int)<=9223372036854775807:=Int.ofNat_le.2 this;have h3:(0:Int)<=m:=Int.natCast_nonneg m;omega
 | negSucc m =>
   have:=Nat.le_of_ble_eq_true h;rw[Int.negSucc_eq];constructor;have e:(-9223372036854775808:Int)=-(9223372036854775807+1):=rfl;rw[e];have h2:(m:Int)<=9223372036854775807:=Int.ofNat_le.2 this;omega;have h2:(0:Int)<=m:=Int.natCast_nonneg m;omega
def Vu(k:IntKind)(n:Int):Nu k n=k.wrap n:=by
 cases k<;>try rfl
 simp only[Nu];cases h:inI n with
 | true=>exact(akd h).symm
 | false=>rfl
def aaf:Int->Int->Int
 | .ofNat a,.ofNat b=>.ofNat (Nat.add a b)
 | a,b=>a+b
def dA(a b:Int):aaf a b=a+b:=by cases a<;>cases b<;>rfl
def anj(a b:Nat):Int:=match Nat.ble b a with
 | true=>.ofNat (Nat.sub a b)
 | false=>(a:Int) - (b:Int)
def fX:Int->Int->Int
 | .ofNat a,.ofNat b=>anj a b
 | a,b=>a - b
def fY(a b:Int):fX a b=a - b:=by
 cases a<;>cases b<;>try rfl
 rename_i a b;simp only[fX,anj];cases h:Nat.ble b a with
 | true =>
   have:=Nat.le_of_ble_eq_true h;show Int.ofNat (a - b)=(a:Int) - (b:Int);exact Int.ofNat_sub this
 | false=>rfl
def CV:Int->Int->Bool
 | .ofNat a,.ofNat b=>Nat.beq a b
 | .negSucc a,.negSucc b=>Nat.beq a b
 | _,_=>false
def QT(a b:Int):CV a b=(a == b):=by
 cases a<;>cases b<;>simp only[CV]
 rename_i a b;rw[Bool.eq_iff_iff,beq_iff_eq,Int.ofNat.injEq];exact⟨λh=>Nat.eq_of_beq_eq_true h,λh=>by subst h;exact Nat.beq_refl a⟩;rw[Bool.eq_iff_iff,beq_iff_eq];exact⟨λh=>by simp at h,λh=>by cases h⟩;rw[Bool.eq_iff_iff,beq_iff_eq];exact⟨λh=>by simp at h,λh=>by cases h⟩;rename_i a b;rw[Bool.eq_iff_iff,beq_iff_eq,Int.negSucc.injEq];exact⟨λh=>Nat.eq_of_beq_eq_true h,λh=>by subst h;exact Nat.beq_refl a⟩
def Oe:Int->Int->Bool
 | .ofNat a,.ofNat b=>Nat.ble a b
 | a,b=>decide (a<=b)
def YP(a b:Int):Oe a b=decide (a<=b):=by
 cases a<;>cases b<;>try rfl
 rename_i a b;simp only[Oe];rw[Bool.eq_iff_iff,decide_eq_true_iff];show _↔(a:Int)<=(b:Int);rw[Int.ofNat_le];exact⟨Nat.le_of_ble_eq_true,Nat.ble_eq_true_of_le⟩
def DS:Int->Int->Bool
 | .ofNat a,.ofNat b=>Nat.ble (Nat.succ a) b
 | a,b=>decide (a < b)
def Sw(a b:Int):DS a b=decide (a < b):=by
 cases a<;>cases b<;>try rfl
 rename_i a b;simp only[DS];rw[Bool.eq_iff_iff,decide_eq_true_iff];show _↔(a:Int) < (b:Int);rw[Int.ofNat_lt];exact⟨Nat.le_of_ble_eq_true,Nat.ble_eq_true_of_le⟩
def sameKind:IntKind->IntKind->Bool
 | .i64,.i64=>true
 | .u8,.u8=>true
 | _,_=>false
def WM{a b:IntKind}(h:sameKind a b=true):a=b:=by cases a<;>cases b<;>first | rfl | cases h
def afw(k:IntKind)(a b:Int):BinOp->Option Value
 | .add=>some (.int k (Nu k (aaf a b)))
 | .sub=>some (.int k (Nu k (fX a b)))
 | .mul=>some (.int k (Nu k (a*b)))
 | .eql=>some (.bool (CV a b))
 | .neq=>some (.bool (!CV a b))
 | .lss=>some (.bool (DS a b))
 | .leq=>some (.bool (Oe a b))
 | .gtr=>some (.bool (DS b a))
 | .geq=>some (.bool (Oe b a))
 | _=>none
def afx{P:Program}{op:BinOp}{k:IntKind}{a b:Int}{t:TypeId}{xo yo:Operand}{v:Value}(h:afw k a b op=some v):pv P (do eqGuard op t xo yo (.int k a) (.int k b);binOp op t (.int k a) (.int k b))=some v/\scalar v=true:=by
 cases op<;>simp only[afw,Option.some.injEq,reduceCtorEq] at h<;>subst h<;>refine⟨?_,rfl⟩<;>simp[eqGuard,binOp,Op.intArith,Op.intCmp,pv,Vu,dA,fY,QT,Sw,YP,bne,Bind.bind,Sem.bind,Pure.pure]
def B2:List UInt8->List UInt8->Bool
 | [],[]=>true
 | a::l,b::m=>(match Nat.beq a.toNat b.toNat with
   | true=>B2 l m
   | false=>false)
 | _,_=>false
def TO(l m:List UInt8):B2 l m=(l == m):=by
 induction l generalizing m with
 | nil=>cases m<;>rfl
 | cons a l ih =>
   cases m with
   | nil=>rfl
   | cons b m =>
     simp only[B2];cases h:Nat.beq a.toNat b.toNat with
     | true =>
       have:a=b:=UInt8.toNat_inj.1 (Nat.eq_of_beq_eq_true h);subst this;simp only[ih];simp
     | false =>
       have:a≠b:=λe=>by subst e;have:=Nat.ne_of_beq_eq_false h;exact this rfl
       simp[this]
def alc(x y:ByteArray):BinOp->Option Value
 | .eql=>some (.bool (B2 x.data.toList y.data.toList))
 | .neq=>some (.bool (!B2 x.data.toList y.data.toList))
 | op=>vH op x y
def agO(x y:ByteArray)(op:BinOp):alc x y op=vH op x y:=by cases op<;>simp only[alc,vH,TO]
def acY(v:Option Value):Option AV:=match v with
 | some v=>(match scalar v with | true=>some (.sc v) | false=>none)
 | none=>none
def acZ(v:Option Value):acY v=v.bind Z6:=by
 cases v with
 | none=>rfl
 | some v=>simp only[acY,Option.bind_some,Z6];cases scalar v<;>rfl
def scF(P:Program)(op:BinOp)(t:TypeId)(xo yo:Operand)(x y:Value):Option AV :=
 match x with
 | .int k a=>(match y with
   | .int k' b=>(match sameKind k k' with
     | true=>(match afw k a b op with
       | some v=>some (.sc v)
       | none=>Ly P op t xo yo (.sc (.int k a)) (.sc (.int k' b)))
     | false=>Ly P op t xo yo (.sc (.int k a)) (.sc (.int k' b)))
   | y=>Ly P op t xo yo (.sc (.int k a)) (.sc y))
 | .string a=>(match y with
   | .string b=>acY (alc a b op)
   | y=>Ly P op t xo yo (.sc (.string a)) (.sc y))
 | x=>Ly P op t xo yo (.sc x) (.sc y)
def XU(P:Program)(op:BinOp)(t:TypeId)(xo yo:Operand)(a b:AV):Option AV :=
 match a with
 | .sc x=>(match b with
   | .sc y=>scF P op t xo yo x y
   | b=>Ly P op t xo yo (.sc x) b)
 | a=>Ly P op t xo yo a b
def N2(P:Program)(op:BinOp)(t:TypeId)(xo yo:Operand)(a b:AV):XU P op t xo yo a b=Ly P op t xo yo a b:=by
 unfold XU;cases a with
 | sc x =>
   cases b with
   | sc y =>
     simp only[scF];cases x with
     | int k a =>
       cases y with
       | int k' b =>
         simp only;cases hk:sameKind k k' with
         | false=>rfl
         | true =>
           have:=WM hk;subst this;simp only;cases hf:afw k a b op with
           | none=>rfl
           | some v =>
             obtain⟨h1,h2⟩:=afx (P:=P) (t:=t) (xo:=xo) (yo:=yo) hf;simp[Ly,Tp,Vm,h1,Z6,h2]
       | _=>rfl
     | string a =>
       cases y with
       | string b=>simp only[acZ,agO];rfl
       | _=>rfl
     | _=>rfl
   | _=>rfl
 | _=>rfl
def aco:List UInt8->Nat->Option UInt8
 | [],_=>none
 | a::_,0=>some a
 | _::l,n+1=>aco l n
def afV(l:List UInt8)(n:Nat):aco l n=l[n]?:=by
 induction l generalizing n with
 | nil=>simp[aco]
 | cons a l ih=>cases n<;>simp[aco,ih]
def alH:Option UInt8->Option AV
 | some b=>some (.sc (.int .u8 (.ofNat b.toNat)))
 | none=>none
def Xf(P:Program)(t:TypeId)(x ix:AV):Option AV :=
 match x with
 | .sc (.string s)=>(match P.underlying t with
   | some .string=>(match S7 ix with
     | some i=>alH (aco s.data.toList i)
     | none=>none)
   | _=>Lz P t (.sc (.string s)) ix)
 | x=>Lz P t x ix
def nM(P:Program)(t:TypeId)(x ix:AV):Xf P t x ix=Lz P t x ix:=by
 unfold Xf;cases x with
 | sc v =>
   cases v with
   | string s =>
     simp only;split;rename_i hu;unfold Lz;rw[hu];cases S7 ix with
     | none=>rfl
     | some i =>
       simp only[afV];cases s.data.toList[i]?<;>rfl
     rfl
   | _=>rfl
 | _=>rfl
end AI
namespace AI
open Go Go.RowKit
def nth:List AV->Nat->AV
 | [],_=>.sc undef
 | a::_,0=>a
 | _::l,n+1=>nth l n
def akA(l:List AV)(n:Nat):nth l n=l.getD n (.sc undef):=by
 induction l generalizing n with
 | nil=>simp[nth]
 | cons a l ih=>cases n<;>simp[nth,ih]
def evG:Option (List AV)->Option AV
 | some cs=>some (.el cs)
 | none=>none
def AZ(G:Bc)(fr:List AV):Operand->Option AV
 | .tmp t=>some (nth fr t)
 | .const v=>WG v
 | .global g=>evG (G g)
 | .func f=>some (.fn (.func f) [] [])
def Cy(G:Bc)(fr:List AV)(x:Operand):AZ G fr x=Bg G fr x:=by
 cases x with
 | tmp t=>simp only[AZ,Bg,akA]
 | const v=>rfl
 | global g=>simp only[AZ,Bg];cases G g<;>rfl
 | func f=>rfl
def M6(s:AS):Option AV->Option AR
 | some v=>some (.val v s)
 | none=>none
def S5(s:AS)(o:Option AV):M6 s o=o.map (λv=>.val v s):=by cases o<;>rfl
def mE:Option AS->Option AR
 | some s=>some (.val (.sc undef) s)
 | none=>none
def aho(o:Option AS):mE o=o.map (λs=>.val (.sc undef) s):=by cases o<;>rfl
def yO:Option (AV×AS)->Option AR
 | some r=>some (.val r.1 r.2)
 | none=>none
def uW(o:Option (AV×AS)):yO o=o.map (λr=>.val r.1 r.2):=by cases o<;>rfl
def gX{α β:Type}(o:Option α)(f:α->Option β):Option β:=match o with
 | some a=>f a
 | none=>none
def dI{α β:Type}(o:Option α)(f:α->Option β):gX o f=o.bind f:=by cases o<;>rfl
def two{β:Type}(a b:Option AV)(f:AV->AV->Option β):Option β:=match a with
 | some x=>(match b with
   | some y=>f x y
   | none=>none)
 | none=>none
def three{β:Type}(a b d:Option AV)(f:AV->AV->AV->Option β):Option β:=match a with
 | some x=>(match b with
   | some y=>(match d with
     | some z=>f x y z
     | none=>none)
   | none=>none)
 | none=>none
def aiu(x y:Option AV):Option AV->Option AV
 | some (.sc (.bool t))=>(match t with | true=>x | false=>y)
 | _=>none
def acn(s:AS):Option AV->Option AR
 | some z=>some (.val (.ptr s.nx 0) (s.new (.cells (cellsOf z))))
 | none=>none
def tG(s:AS):Option AV->Option AR
 | some z=>(match Sl z with | true=>none | false=>some (.val (.ptr s.nx 0) (s.new (.cells (cellsOf z)))))
 | none=>none
def nW(s:AS):Option AV->Option AR
 | some v=>(match notNil v with | true=>some (.val v s) | false=>none)
 | none=>none
def pA(t:TypeId)(s:AS)(v:Option AV):Option TypeDesc->Option AR
 | some d=>(match v with
   | some v=>(match isIface d with | true=>none | false=>some (.val (.Fu t v) s))
   | none=>none)
 | none=>none
def func1(f:Fn)(s:AS)(b:Option (List AV)):Option (List AV)->Option AR
 | some a=>(match b with
   | some b=>some (.val (.fn f a b) s)
   | none=>none)
 | none=>none
def adf(P:Program)(s:AS)(t:TypeId)(l h m:Option (Option AV)):Option AV->Option AR
 | some a=>(match l with
   | some l=>(match h with
     | some h=>(match m with
       | some m=>M6 s (KX P t a l h m)
       | none=>none)
     | none=>none)
   | none=>none)
 | none=>none
def amZ:Option AV->Option AR
 | some (.Fu t v)=>some (.JI (.Fu t v))
 | _=>none
def alO(P:Program)(as:Option (List AV)):Option AV->Option AR
 | some (.fn (.func g) first M8)=>(match as with
   | some as=>(match MI P g with | true=>some (.ent g (first++as++M8)) | false=>none)
   | none=>none)
 | _=>none
def amN(P:Program)(G:Bc)(fr:List AV)(s:AS):List Operand->List TypeId->Option AR
 | [x],[t]=>M6 s (gX (AZ G fr x) (WR P s t))
 | _,_=>none
def aly(P:Program)(G:Bc)(fr:List AV)(s:AS):List Operand->List TypeId->Option AR
 | [x,y],[t,tx]=>yO (two (AZ G fr x) (AZ G fr y) (Mp P s t tx))
 | _,_=>none
def aiw(P:Program)(s:AS)(f:List Value->Sem Value):Option (List Value)->Option AR
 | some vs=>M6 s (Wj P (f vs))
 | none=>none
def aix(P:Program)(s:AS)(f:Value->Sem Value):Option Value->Option AR
 | some v=>M6 s (Wj P (f v))
 | none=>none
def Se(P:Program)(G:Bc)(fr:List AV)(s:AS)(o:Oper)(cl:Call):Builtin->Option AR
 | .len=>amN P G fr s cl.args.toList cl.argTypes.toList
 | .append=>aly P G fr s cl.args.toList cl.argTypes.toList
 | .max=>aiw P s (λvs=>Builtin.max_ cl.argTypes o.type vs.toArray) (gX (ZS G fr cl.args.toList) Pm)
 | .min=>aiw P s (λvs=>Builtin.min_ cl.argTypes o.type vs.toArray) (gX (ZS G fr cl.args.toList) Pm)
 | _=>none
def cZ(P:Program)(G:Bc)(fr:List AV)(s:AS)(o:Oper)(cl:Call):Option AR :=
 match cl.callee with
 | .builtin b=>Se P G fr s o cl b
 | .value f=>alO P (ZS G fr cl.args.toList) (AZ G fr f)
 | _=>none
def kA(s:AS):Option Operand->Option AR
 | none=>some (.val (.mp s.nx) (s.new (.map [] 0)))
 | some _=>none
def UE(P:Program)(G:Bc)(fr:List AV)(s:AS)(o:Oper):Option AR :=
 match o.op with
 | .move x=>M6 s (AZ G fr x)
 | .assign x=>M6 s (AZ G fr x)
 | .pick c a b=>M6 s (aiu (AZ G fr a) (AZ G fr b) (AZ G fr c))
 | .alloc e=>acn s (MH P e)
 | .box _ x=>tG s (AZ G fr x)
 | .build t ps=>M6 s (gX (Ms G fr ps.toList) (XV P t))
 | .buildSlice t n ps=>M6 s (gX (Ms G fr ps.toList) (MF P t n))
 | .load t a=>M6 s (gX (AZ G fr a) (K8 P s t))
 | .store t a x=>mE (two (AZ G fr a) (AZ G fr x) (Md P s t))
 | .nilCheck x=>nW s (AZ G fr x)
 | .binOp op t x y _=>M6 s (two (AZ G fr x) (AZ G fr y) (XU P op t x y))
 | .unOp op _ x=>aix P s (Op.unary op) (gX (AZ G fr x) Zp)
 | .convert src dst x=>M6 s (gX (AZ G fr x) (Wi P src dst))
 | .makeInterface t x=>pA t s (AZ G fr x) (P.underlying t)
 | .makeFunc f first M8=>func1 f s (ZS G fr M8.toList) (ZS G fr first.toList)
 | .makeMap _ r=>kA s r
 | .makeSlice t l c=>yO (two (AZ G fr l) (AZ G fr c) (JN P s t))
 | .slice t x lo hi mx=>adf P s t (gY G fr lo) (gY G fr hi) (gY G fr mx) (AZ G fr x)
 | .fieldAddr t x k=>M6 s (gX (AZ G fr x) λa=>R6 P t a k)
 | .field t x k=>M6 s (gX (AZ G fr x) λa=>XY P t a k)
 | .indexAddr t x i=>M6 s (two (AZ G fr x) (AZ G fr i) (DE P t))
 | .index t x i=>M6 s (two (AZ G fr x) (AZ G fr i) (Xf P t))
 | .lookup t x k ok=>M6 s (two (AZ G fr x) (AZ G fr k) λa b=>Jp P s t a b ok)
 | .mapUpdate t m k x=>mE (three (AZ G fr m) (AZ G fr k) (AZ G fr x) (KR P s t))
 | .insert t m k x=>mE (three (AZ G fr m) (AZ G fr k) (AZ G fr x) (KR P s t))
 | .mapEntry t m k=>yO (two (AZ G fr m) (AZ G fr k) (P0 P s t))
 | .entryStore _ m st x=>mE (three (AZ G fr m) (AZ G fr st) (AZ G fr x) (MG s))
 | .extract x k=>M6 s (gX (AZ G fr x) λa=>R5 a k)
 | .call cl=>cZ P G fr s o cl
 | .panic x=>amZ (AZ G fr x)
 | _=>none
def u9(P:Program)(G:Bc)(fr:List AV)(s:AS)(o:Oper)(cl:Call):cZ P G fr s o cl=Tq P G fr s o cl:=by
 unfold cZ Tq;cases hc:cl.callee with
 | value f =>
   simp only[Cy];cases Bg G fr f with
   | none=>rfl
   | some v =>
     cases v with
     | fn g a b =>
       cases g with
       | func g =>
         cases ZS G fr cl.args.toList with
         | none=>rfl
         | some as =>
           simp only[alO];cases MI P g<;>rfl
       | _=>rfl
     | _=>rfl
 | invoke r m=>rfl
 | builtin b =>
   cases b<;>try rfl
   simp only[Se];cases hx:cl.args.toList with
   | nil=>rfl
   | cons x xs =>
     cases xs with
     | nil=>rfl
     | cons y ys =>
       cases ys with
       | cons z zs=>rfl
       | nil =>
         cases ht:cl.argTypes.toList with
         | nil=>rfl
         | cons t ts =>
           cases ts with
           | nil=>rfl
           | cons u us =>
             cases us with
             | cons v vs=>rfl
             | nil =>
               simp only[aly,Cy];cases Bg G fr x<;>cases Bg G fr y<;>first | rfl | exact uW _
   simp only[Se];cases hx:cl.args.toList with
   | nil=>rfl
   | cons x xs =>
     cases xs with
     | cons y ys=>rfl
     | nil =>
       cases ht:cl.argTypes.toList with
       | nil=>rfl
       | cons t ts =>
         cases ts with
         | cons u us=>rfl
         | nil=>simp only[amN,Cy,dI];exact S5 _ _
   simp only[Se,dI];cases (ZS G fr cl.args.toList).bind Pm with
   | none=>rfl
   | some vs=>exact S5 _ _
   simp only[Se,dI];cases (ZS G fr cl.args.toList).bind Pm with
   | none=>rfl
   | some vs=>exact S5 _ _
def Nz(P:Program)(G:Bc)(fr:List AV)(s:AS)(o:Oper):UE P G fr s o=QK P G fr s o:=by
 unfold UE QK;cases ho:o.op<;>simp only[Cy,S5,aho,uW,dI,u9]
 case pick c a b =>
   cases Bg G fr c with
   | none=>rfl
   | some v =>
     cases v with
     | sc u=>cases u<;>first | rfl | (rename_i t;cases t<;>rfl)
     | _=>rfl
 case alloc e=>cases MH P e<;>rfl
 case box e x =>
   cases Bg G fr x with
   | none=>rfl
   | some v=>cases v<;>rfl
 case store t a x=>cases Bg G fr a<;>cases Bg G fr x<;>rfl
 case nilCheck x =>
   cases Bg G fr x with
   | none=>rfl
   | some v=>simp only[nW];cases notNil v<;>rfl
 case binOp op t x y z=>cases Bg G fr x<;>cases Bg G fr y<;>first | rfl | (simp only[two,N2])
 case unOp op t x=>cases (Bg G fr x).bind Zp with
   | none=>rfl
   | some v=>exact S5 _ _
 case makeInterface t x =>
   cases Bg G fr x with
   | none=>cases P.underlying t<;>rfl
   | some v =>
     cases P.underlying t with
     | none=>rfl
     | some d=>simp only[pA];cases isIface d<;>rfl
 case makeFunc f a b=>cases ZS G fr a.toList<;>cases ZS G fr b.toList<;>rfl
 case makeMap t r=>cases r<;>rfl
 case makeSlice t l c=>cases Bg G fr l<;>cases Bg G fr c<;>rfl
 case slice t x lo hi mx =>
   cases Bg G fr x<;>cases gY G fr lo<;>cases gY G fr hi<;>cases gY G fr mx<;>first | rfl | exact S5 _ _
 case indexAddr t x i=>cases Bg G fr x<;>cases Bg G fr i<;>rfl
 case index t x i=>cases Bg G fr x<;>cases Bg G fr i<;>first | rfl | (simp only[two,nM])
 case lookup t x k ok=>cases Bg G fr x<;>cases Bg G fr k<;>rfl
 case mapUpdate t m k x=>cases Bg G fr m<;>cases Bg G fr k<;>cases Bg G fr x<;>rfl
 case insert t m k x=>cases Bg G fr m<;>cases Bg G fr k<;>cases Bg G fr x<;>rfl
 case mapEntry t m k=>cases Bg G fr m<;>cases Bg G fr k<;>rfl
 case entryStore t m k x=>cases Bg G fr m<;>cases Bg G fr k<;>cases Bg G fr x<;>rfl
 case panic x =>
   cases Bg G fr x with
   | none=>rfl
   | some v=>cases v<;>rfl
end AI
namespace AI
open Go Go.RowKit
abbrev Rec:=Tk->Option Rs
def anf(r:Rec)(y:Code):Option Rs->Option Rs
 | some (.code e fr s)=>(match e with
   | .normal=>r (.code y fr s)
   | e=>some (.code e fr s))
 | _=>none
def ahZ(r:Rec)(x y:Code)(fr:List AV)(s:AS):Option AV->Option Rs
 | some (.sc (.bool t))=>(match t with
   | true=>r (.code x fr s)
   | false=>r (.code y fr s))
 | _=>none
def aam(id:Nat):Option Rs->Option Rs
 | some (.code e fr s)=>some (.code (Fa id e) fr s)
 | _=>none
def aaA:Option Rs->Option Rs
 | some (.code e fr s)=>some (.code e fr s)
 | _=>none
def alN(P:Program)(G:Bc)(ops:Array Oper)(q:Nat)(rs:List Bo):Option Rs->Option Rs
 | some (.tr t fr s)=>(match ala P G ops t s q rs with
   | true=>some (.code .normal fr s)
   | false=>none)
 | _=>none
def amn(P:Program)(G:Bc)(r:Rec)(ops:Array Oper)(fr:List AV)(s:AS):Option (List Bo)->Option Rs
 | some rs=>alN P G ops s.nx rs (r (.draw ops ops.toList fr (s.hold rs) s.nx))
 | none=>none
def alM(P:Program)(G:Bc)(r:Rec)(ops:Array Oper)(fr:List AV)(s:AS):Bool->Option Rs
 | true=>amn P G r ops fr s (rsv P ops.toList)
 | false=>none
def tT(P:Program)(G:Bc)(r:Rec)(ops:Array Oper)(fr:List AV)(s:AS):Bool->Option Rs
 | false=>aaA (r (.ops ops ops.toList fr s))
 | true=>alM P G r ops fr s (MP ops)
def adj(P:Program)(G:Bc)(r:Rec)(fr:List AV)(s:AS):Code->Option Rs
 | .skip=>some (.code .normal fr s)
 | .exit id=>some (.code (.exit id) fr s)
 | .ret=>some (.code .ret fr s)
 | .seq x y=>anf r y (r (.code x fr s))
 | .cond q x y=>ahZ r x y fr s (AZ G fr q)
 | .block id c=>aam id (r (.code c fr s))
 | .loop c=>aaA (r (.loop c fr s))
 | .region _ ops d=>tT P G r ops fr s d
 | _=>none
def ain(r:Rec)(c:Code):Option Rs->Option Rs
 | some (.code e fr s)=>(match e with
   | .normal=>r (.loop c fr s)
   | e=>some (.code e fr s))
 | _=>none
def aqF(r:Rec)(ops:Array Oper)(dst:Option Tmp)(l:List Oper)(fr:List AV):Option Rs->Option Rs
 | some (.call c s)=>(match c with
   | .ret v=>r (.ops ops l (JE fr dst v) s)
   | .JI v=>some (.code (.JI v) fr s))
 | _=>none
def agN(r:Rec)(ops:Array Oper)(fr:List AV)(s:AS):List Oper->Option Rs
 | []=>some (.code .normal fr s)
 | o::l=>aqF r ops o.dst l fr (r (.op ops o fr s))
def trK(fr:List AV)(s:AS)(v:AV):Option Rs->Option Rs
 | some (.tr t Wr s2)=>some (.tr ((fr,s,v)::t) Wr s2)
 | _=>none
def alj(r:Rec)(ops:Array Oper)(dst:Option Tmp)(l:List Oper)(fr:List AV)(s:AS)(q:Nat):Option Rs->Option Rs
 | some (.call (.ret v) s1)=>trK fr s v (r (.draw ops l (JE fr dst v) s1 q))
 | _=>none
def ai3(r:Rec)(ops:Array Oper)(o:Oper)(l:List Oper)(fr:List AV)(s:AS)(q:Nat)(v:AV):Option Rs:=trK fr s v (r (.draw ops l (JE fr o.dst v) s (q+1)))
def ali(r:Rec)(ops:Array Oper)(o:Oper)(l:List Oper)(fr:List AV)(s:AS)(q:Nat):Bool->Option Rs
 | true=>ai3 r ops o l fr s q (Pv ops fr o q)
 | false=>alj r ops o.dst l fr s q (r (.op ops o fr s))
def lR(r:Rec)(ops:Array Oper)(fr:List AV)(s:AS)(q:Nat):List Oper->Option Rs
 | []=>some (.tr [] fr s)
 | o::l=>ali r ops o l fr s q (B1 o.op)
def alI:Option Rs->Option Rs
 | some (.call c s)=>some (.call c s)
 | _=>none
def opK(r:Rec)(s:AS):Option AR->Option Rs
 | some (.val v s1)=>some (.call (.ret v) s1)
 | some (.JI v)=>some (.call (.JI v) s)
 | some (.ent f args)=>alI (r (.call f args s))
 | none=>none
def aba(ops:Array Oper)(fr:List AV):Option (Nat×Bool)->Bool
 | none=>true
 | some p=>(match (ops[p.1]?).bind (·.dst) with
   | some d=>(match nth fr d with
     | .sc (.bool b)=>b == p.2
     | _=>false)
   | none=>false)
def alb(P:Program)(G:Bc)(r:Rec)(fr:List AV)(s:AS)(o:Oper):Bool->Option Rs
 | true=>opK r s (UE P G fr s o)
 | false=>some (.call (.ret (.sc undef)) s)
def amp(k:CR->Option CR):Option Rs->Option Rs
 | some (.call c s)=>(match k c with
   | some c1=>some (.call c1 s)
   | none=>none)
 | _=>none
def am3(s:AS)(n:Nat):Option AV->Option Rs
 | some v=>some (.call (.ret v) (fin v s n))
 | none=>none
def alG(P:Program)(fn:Func)(n:Nat):Option Rs->Option Rs
 | some (.code e fr s)=>(match e with
   | .normal=>am3 s n (JO P s fn fr)
   | .ret=>am3 s n (JO P s fn fr)
   | .JI v=>some (.call (.JI v) (s.cut n))
   | .exit _=>none)
 | _=>none
def alF(P:Program)(r:Rec)(fn:Func)(args:List AV)(s:AS):Option Code->Option Rs
 | some c=>alG P fn s.nx (r (.code c (args++List.replicate (fn.ntmps - args.length) (.sc undef)) s))
 | none=>none
def rW(P:Program)(r:Rec)(args:List AV)(s:AS):Option Func->Option Rs
 | some fn=>alF P r fn args s fn.body
 | none=>none
def amo(P:Program)(r:Rec)(f:FuncId)(args:List AV)(s:AS):Option (FuncId×List AV×(CR->Option CR))->Option Rs
 | some (g,Ys,k)=>amp k (r (.call g Ys s))
 | none=>rW P r args s P.funcs[f]?
def alQ(P:Program)(H:TH)(r:Rec)(f:FuncId)(args:List AV)(s:AS):Option (CR×AS)->Option Rs
 | some (c,s1)=>some (.call c s1)
 | none=>amo P r f args s (H f args)
def step(P:Program)(G:Bc)(X:ahL)(H:TH)(r:Rec):Tk->Option Rs
 | .code c fr s=>adj P G r fr s c
 | .loop c fr s=>ain r c (r (.code c fr s))
 | .ops ops l fr s=>agN r ops fr s l
 | .draw ops l fr s q=>lR r ops fr s q l
 | .op ops o fr s=>alb P G r fr s o (aba ops fr o.guard)
 | .call f args s=>alQ P H r f args s (X f args s)
end AI
namespace AI
open Go Go.RowKit
def aqC(l:List AV):Nat->AV:=List.rec (motive:=λ_=>Nat->AV) (λ_=>.sc undef) (λa _ ih n=>Nat.rec (motive:=λ_=>AV) a (λk _=>ih k) n) l
def aqK(v:AV)(l:List AV):Nat->List AV:=List.rec (motive:=λ_=>Nat->List AV) (λ_=>[]) (λa t ih n=>Nat.rec (motive:=λ_=>List AV) (v::t) (λk _=>a::ih k) n) l
def alz(fr:List AV)(dst:Option Tmp)(v:AV):List AV:=Option.rec (motive:=λ_=>List AV) fr (λd=>aqK v fr d) dst
abbrev Sm:=Program->Bc->List AV->AS->Oper->Option AR
def ajn(t:Tmp)(_:Bc)(fr:List AV):Option AV:=some (aqC fr t)
def ae2(v:Value)(_:Bc)(_:List AV):Option AV:=WG v
def ajm(g:Nat)(G:Bc)(_:List AV):Option AV:=evG (G g)
def apj(f:FuncId)(_:Bc)(_:List AV):Option AV:=some (.fn (.func f) [] [])
def evR(x:Operand):Bc->List AV->Option AV:=Operand.rec (motive:=λ_=>Bc->List AV->Option AV) ajn ae2 ajm apj x
def fG{α β:Type}(o:Option α)(f:α->Option β):Option β:=Option.rec (motive:=λ_=>Option β) none f o
def amQ(s:AS)(v:AV):Option AR:=some (.val v s)
def yP(s:AS)(o:Option AV):Option AR:=fG o (amQ s)
def uD(x:Operand):Sm:=λ_ G fr s _=>yP s (evR x G fr)
def agG(c a b:Operand):Sm:=λ_ G fr s _=>M6 s (aiu (AZ G fr a) (AZ G fr b) (AZ G fr c))
def ac0(e:TypeId):Sm:=λP _ _ s _=>acn s (MH P e)
def ak1(_:TypeId)(x:Operand):Sm:=λ_ G fr s _=>tG s (AZ G fr x)
def ac1(t:TypeId)(ps:Array (Nat×Operand)):Sm:=λP G fr s _=>M6 s (gX (Ms G fr ps.toList) (XV P t))
def Z7(t:TypeId)(n:Nat)(ps:Array (Nat×Operand)):Sm:=λP G fr s _=>M6 s (gX (Ms G fr ps.toList) (MF P t n))
def agE(t:TypeId)(a:Operand):Sm:=λP G fr s _=>yP s (fG (evR a G fr) (K8 P s t))
def ac9(t:TypeId)(a x:Operand):Sm:=λP G fr s _=>mE (two (AZ G fr a) (AZ G fr x) (Md P s t))
def ak3(x:Operand):Sm:=λ_ G fr s _=>nW s (AZ G fr x)
def ak0(op:BinOp)(t:TypeId)(x y:Operand)(_:TypeId):Sm:=λP G fr s _=>yP s (fG (evR x G fr) (λa=>fG (evR y G fr) (λb=>XU P op t x y a b)))
def anc(op:UnOp)(_:TypeId)(x:Operand):Sm:=λP G fr s _=>aix P s (Op.unary op) (gX (AZ G fr x) Zp)
def agC(src dst:TypeId)(x:Operand):Sm:=λP G fr s _=>M6 s (gX (AZ G fr x) (Wi P src dst))
def ac4(t:TypeId)(x:Operand):Sm:=λP G fr s _=>pA t s (AZ G fr x) (P.underlying t)
def agD(f:Fn)(first M8:Array Operand):Sm:=λ_ G fr s _=>func1 f s (ZS G fr M8.toList) (ZS G fr first.toList)
def ak2(_:TypeId)(r:Option Operand):Sm:=λ_ _ _ s _=>kA s r
def agF(t:TypeId)(l c:Operand):Sm:=λP G fr s _=>yO (two (AZ G fr l) (AZ G fr c) (JN P s t))
def ac8(t:TypeId)(x:Operand)(lo hi mx:Option Operand):Sm:=λP G fr s _=>adf P s t (gY G fr lo) (gY G fr hi) (gY G fr mx) (AZ G fr x)
def xR(t:TypeId)(x:Operand)(k:Nat):Sm:=λP G fr s _=>yP s (fG (evR x G fr) λa=>R6 P t a k)
def ac3(t:TypeId)(x:Operand)(k:Nat):Sm:=λP G fr s _=>M6 s (gX (AZ G fr x) λa=>XY P t a k)
def xS(t:TypeId)(x i:Operand):Sm:=λP G fr s _=>yP s (fG (evR x G fr) (λa=>fG (evR i G fr) (λb=>DE P t a b)))
def ac5(t:TypeId)(x i:Operand):Sm:=λP G fr s _=>yP s (fG (evR x G fr) (λa=>fG (evR i G fr) (λb=>Xf P t a b)))
def xT(t:TypeId)(x k:Operand)(ok:Bool):Sm:=λP G fr s _=>M6 s (two (AZ G fr x) (AZ G fr k) λa b=>Jp P s t a b ok)
def ac7(t:TypeId)(m k x:Operand):Sm:=λP G fr s _=>mE (three (AZ G fr m) (AZ G fr k) (AZ G fr x) (KR P s t))
def ac2(t:TypeId)(m k:Operand):Sm:=λP G fr s _=>yO (two (AZ G fr m) (AZ G fr k) (P0 P s t))
def xQ(_:TypeId)(m st x:Operand):Sm:=λ_ G fr s _=>mE (three (AZ G fr m) (AZ G fr st) (AZ G fr x) (MG s))
def qM(x:Operand)(k:Nat):Sm:=λ_ G fr s _=>M6 s (gX (AZ G fr x) λa=>R5 a k)
def agB(cl:Call):Sm:=λP G fr s o=>cZ P G fr s o cl
def ac6(x:Operand):Sm:=λ_ G fr _ _=>amZ (AZ G fr x)
def anb:Sm:=λ_ _ _ _ _=>none
def amX(op:Op):Sm:=match op with
 | .move x=>uD x
 | .assign x=>uD x
 | .pick c a b=>agG c a b
 | .alloc e=>ac0 e
 | .box e x=>ak1 e x
 | .build t ps=>ac1 t ps
 | .buildSlice t n ps=>Z7 t n ps
 | .load t a=>agE t a
 | .store t a x=>ac9 t a x
 | .nilCheck x=>ak3 x
 | .binOp op t x y z=>ak0 op t x y z
 | .unOp op t x=>anc op t x
 | .convert a b x=>agC a b x
 | .makeInterface t x=>ac4 t x
 | .makeFunc f a b=>agD f a b
 | .makeMap t r=>ak2 t r
 | .makeSlice t l c=>agF t l c
 | .slice t x lo hi mx=>ac8 t x lo hi mx
 | .fieldAddr t x k=>xR t x k
 | .field t x k=>ac3 t x k
 | .indexAddr t x i=>xS t x i
 | .index t x i=>ac5 t x i
 | .lookup t x k ok=>xT t x k ok
 | .mapUpdate t m k x=>ac7 t m k x
 | .insert t m k x=>ac7 t m k x
 | .mapEntry t m k=>ac2 t m k
 | .entryStore t m st x=>xQ t m st x
 | .extract x k=>qM x k
 | .call cl=>agB cl
 | .panic x=>ac6 x
 | _=>anb
def abb(ops:Array Oper)(fr:List AV)(g:Option (Nat×Bool)):Bool:=Option.rec (motive:=λ_=>Bool) true (λp=>aba ops fr (some p)) g
def amY(r:Rec)(ops:Array Oper)(dst:Option Tmp)(l:List Oper)(fr:List AV):Option Rs->Option Rs
 | some (.call c s)=>(match c with
   | .ret v=>r (.ops ops l (alz fr dst v) s)
   | .JI v=>some (.code (.JI v) fr s))
 | _=>none
def uH(P:Program)(G:Bc)(r:Rec)(fr:List AV)(s:AS)(o:Oper)(b:Bool):Option Rs:=Bool.rec (motive:=λ_=>Option Rs) (some (.call (.ret (.sc undef)) s)) (opK r s (amX o.op P G fr s o)) b
def adk(P:Program)(G:Bc)(r:Rec)(ops:Array Oper)(fr:List AV)(s:AS)(l:List Oper):Option Rs:=List.rec (motive:=λ_=>Option Rs) (some (.code .normal fr s)) (λo l _=>amY r ops o.dst l fr (uH P G r fr s o (abb ops fr o.guard))) l
abbrev Ss:=Program->Bc->Rec->List AV->AS->Option Rs
def ak9:Ss:=λ_ _ _ fr s=>some (.code .normal fr s)
def ak7(id:Nat):Ss:=λ_ _ _ fr s=>some (.code (.exit id) fr s)
def ang:Ss:=λ_ _ _ fr s=>some (.code .ret fr s)
def anh(x y:Code):Ss:=λ_ _ r fr s=>anf r y (r (.code x fr s))
def ak6(q:Operand)(x y:Code):Ss:=λ_ G r fr s=>ahZ r x y fr s (AZ G fr q)
def agL(id:Nat)(c:Code):Ss:=λ_ _ r fr s=>aam id (r (.code c fr s))
def ak8(c:Code):Ss:=λ_ _ r fr s=>aaA (r (.loop c fr s))
def adi(_:Nat)(ops:Array Oper)(d:Bool):Ss:=λP G r fr s=>tT P G r ops fr s d
def aqL:Ss:=λ_ _ _ _ _=>none
def aeW(c:Code):Ss:=match c with
 | .skip=>ak9
 | .exit id=>ak7 id
 | .ret=>ang
 | .seq x y=>anh x y
 | .cond q x y=>ak6 q x y
 | .block id c=>agL id c
 | .loop c=>ak8 c
 | .region id ops d=>adi id ops d
 | _=>aqL
def OI(P:Program)(G:Bc)(X:ahL)(H:TH)(r:Rec):Tk->Option Rs
 | .code c fr s=>aeW c P G r fr s
 | .loop c fr s=>ain r c (r (.code c fr s))
 | .ops ops l fr s=>adk P G r ops fr s l
 | .draw ops l fr s q=>lR r ops fr s q l
 | .op ops o fr s=>uH P G r fr s o (abb ops fr o.guard)
 | .call f args s=>alQ P H r f args s (X f args s)
end AI
namespace AI
open Go Go.RowKit
mutual
def plain:AV->Bool
 | .sc _=>true
 | .agg cs=>BS cs
 | .C6 cs=>BS cs
 | .sl o _ cs=>(match o with | .row _ _=>false | _=>true)&&BS cs
 | .Fu _ v=>plain v
 | .el cs=>BS cs
 | .fn _ a b=>BS a&&BS b
 | .any=>true
 | _=>false
def BS:List AV->Bool
 | []=>true
 | a::l=>plain a&&BS l
end
mutual
def TZ:AV->AV
 | .agg cs=>.agg (YT cs)
 | .C6 cs=>.C6 (YT cs)
 | .sl o n cs=>.sl (match o with | .row _ _=>.lost | o=>o) n (YT cs)
 | .Fu t v=>.Fu t (TZ v)
 | .el cs=>.el (YT cs)
 | a=>a
def YT:List AV->List AV
 | []=>[]
 | a::l=>TZ a::YT l
end
mutual
def dJ:AV->Bool
 | .sc _=>true
 | .agg cs=>LD cs
 | .C6 cs=>LD cs
 | .sl _ _ cs=>LD cs
 | .Fu _ v=>dJ v
 | .el cs=>LD cs
 | .any=>true
 | _=>false
def LD:List AV->Bool
 | []=>true
 | a::l=>dJ a&&LD l
end
section
variable {c c':Cx} {w w':World}
mutual
def Rp.plain(hv:∀g i v,PW c w g i v->PW c' w' g i v):∀{a:AV} {v:Value},AI.plain a=true->Rp c w a v->Rp c' w' a v:=by
 intro a v hp h;cases h with
 | sc h1=>exact .sc h1
 | agg h1=>exact .agg (CX.plain hv hp h1)
 | C6 h1=>exact .C6 (CX.plain hv hp h1)
 | @KB own A cap h1 =>
   simp only[AI.plain,Bool.and_eq_true] at hp;cases own with
   | full=>exact .KB h1
   | nil=>exact .KB h1
   | nn=>exact .KB h1
   | lost=>exact .KB h1
   | row r sz=>cases hp.1
 | @Ni own n cap g o cs hn h1 ho =>
   simp only[AI.plain,Bool.and_eq_true] at hp;refine .Ni hn (Bk.plain hv hp.2 h1) ?_;cases own with
   | full=>exact ho
   | nil=>exact ho
   | nn=>exact ho
   | lost=>trivial
   | row r sz=>cases hp.1
 | Og hn h1=>cases hp
 | el h1=>exact .el (Bk.plain hv hp h1)
 | ptr h1=>cases hp
 | fn h1 h2 =>
   simp only[AI.plain,Bool.and_eq_true] at hp;exact .fn (CX.plain hv hp.1 h1) (CX.plain hv hp.2 h2)
 | Fu h1=>exact .Fu (Rp.plain hv hp h1)
 | mp h1=>cases hp
 | any h1=>exact .any h1
 | raw=>first | (cases hp;done) | exact .raw
def CX.plain(hv:∀g i v,PW c w g i v->PW c' w' g i v):∀{a:List AV} {v:List Value},AI.BS a=true->CX c w a v->CX c' w' a v:=by
 intro a v hp h;cases h with
 | nil=>exact .nil
 | cons h1 t =>
   simp only[AI.BS,Bool.and_eq_true] at hp;exact .cons (Rp.plain hv hp.1 h1) (CX.plain hv hp.2 t)
def Bk.plain(hv:∀g i v,PW c w g i v->PW c' w' g i v):∀{a:List AV} {g o:Nat},AI.BS a=true->Bk c w g o a->Bk c' w' g o a:=by
 intro a g o hp h;cases h with
 | nil=>exact .nil
 | cons hvv h1 t =>
   simp only[AI.BS,Bool.and_eq_true] at hp;exact .cons (hv _ _ _ hvv) (Rp.plain hv hp.1 h1) (Bk.plain hv hp.2 t)
end
mutual
def Rp.TZ(hv:∀g i v,PW c w g i v->PW c' w' g i v):∀{a:AV} {v:Value},dJ a=true->Rp c w a v->Rp c' w' (AI.TZ a) v:=by
 intro a v hp h;cases h with
 | sc h1=>exact .sc h1
 | agg h1=>exact .agg (CX.TZ hv hp h1)
 | C6 h1=>exact .C6 (CX.TZ hv hp h1)
 | @KB own A cap h1 =>
   cases own with
   | full=>exact .KB h1
   | nil=>exact .KB h1
   | nn=>exact .KB h1
   | lost=>exact .KB h1
   | row r sz=>exact .KB trivial
 | @Ni own n cap g o cs hn h1 ho =>
   have h2:=Bk.TZ hv hp h1;refine .Ni hn h2 ?_;cases own with
   | full=>exact ho
   | nil=>exact ho
   | nn=>exact ho
   | lost=>trivial
   | row r sz=>trivial
 | Og hn h1=>cases hp
 | el h1=>exact .el (Bk.TZ hv hp h1)
 | ptr h1=>cases hp
 | fn h1 h2=>cases hp
 | Fu h1=>exact .Fu (Rp.TZ hv hp h1)
 | mp h1=>cases hp
 | any h1=>exact .any h1
 | raw=>first | (cases hp;done) | exact .raw
def CX.TZ(hv:∀g i v,PW c w g i v->PW c' w' g i v):∀{a:List AV} {v:List Value},LD a=true->CX c w a v->CX c' w' (AI.YT a) v:=by
 intro a v hp h;cases h with
 | nil=>exact .nil
 | cons h1 t =>
   simp only[AI.LD,Bool.and_eq_true] at hp;exact .cons (Rp.TZ hv hp.1 h1) (CX.TZ hv hp.2 t)
def Bk.TZ(hv:∀g i v,PW c w g i v->PW c' w' g i v):∀{a:List AV} {g o:Nat},LD a=true->Bk c w g o a->Bk c' w' g o (AI.YT a):=by
 intro a g o hp h;cases h with
 | nil=>exact .nil
 | cons hvv h1 t =>
   simp only[AI.LD,Bool.and_eq_true] at hp;exact .cons (hv _ _ _ hvv) (Rp.TZ hv hp.1 h1) (Bk.TZ hv hp.2 t)
end
end
def s0:AS:=⟨[],0,[],0⟩
end AI
namespace AI
open Go Go.RowKit
mutual
def under(n m:Nat):AV->Bool
 | .sc _=>true
 | .agg cs=>FI n m cs
 | .C6 cs=>FI n m cs
 | .sl o _ cs=>(match o with | .row r _=>decide (r < m) | _=>true)&&FI n m cs
 | .Og id _ _=>decide (id < n)
 | .el cs=>FI n m cs
 | .ptr id _=>decide (id < n)
 | .fn _ a b=>FI n m a&&FI n m b
 | .Fu _ v=>under n m v
 | .mp id=>decide (id < n)
 | .any=>true
 | .raw _ _ _=>true
def FI(n m:Nat):List AV->Bool
 | []=>true
 | a::l=>under n m a&&FI n m l
end
mutual
def HU(n m:Nat):∀{a:AV},plain a=true->under n m a=true
 | .sc _,_=>rfl
 | .agg cs,h=>by simp only[plain] at h;simp only[under];exact BN n m h
 | .C6 cs,h=>by simp only[plain] at h;simp only[under];exact BN n m h
 | .sl o k cs,h=>by
   simp only[plain,Bool.and_eq_true] at h;simp only[under,Bool.and_eq_true];refine⟨?_,BN n m h.2⟩;cases o with
   | row r sz=>cases h.1
   | _=>rfl
 | .Og _ _ _,h=>by cases h
 | .el cs,h=>by simp only[plain] at h;simp only[under];exact BN n m h
 | .ptr _ _,h=>by cases h
 | .fn _ a b,h=>by
   simp only[plain,Bool.and_eq_true] at h;simp only[under,Bool.and_eq_true];exact⟨BN n m h.1,BN n m h.2⟩
 | .Fu _ v,h=>by simp only[plain] at h;simp only[under];exact HU n m h
 | .mp _,h=>by cases h
 | .any,_=>rfl
 | .raw _ _ _,_=>rfl
def BN(n m:Nat):∀{l:List AV},BS l=true->FI n m l=true
 | [],_=>rfl
 | a::l,h=>by
   simp only[BS,Bool.and_eq_true] at h;simp only[FI,Bool.and_eq_true];exact⟨HU n m h.1,BN n m h.2⟩
end
def Cx.upto(c:Cx)(n m:Nat):Cx:=⟨c.base,c.DD.take n,c.rows.take m,c.bad⟩
def J5{α:Type}{l:List α}{n i:Nat}{x:α}(h:(l.take n)[i]?=some x):l[i]?=some x/\i < n:=by
 rw[List.getElem?_take] at h;split at h;rename_i hi;exact⟨h,hi⟩;cases h
def Vj{α:Type}{l:List α}{n i:Nat}{x:α}(h:l[i]?=some x)(hi:i < n):(l.take n)[i]?=some x:=by
 rw[List.getElem?_take,if_pos hi];exact h
section
variable {c:Cx} {w:World} {n m:Nat}
def ada{g i:Nat}(h:(c.upto n m).xW g i):c.xW g i:=by
 rcases h with h | ⟨r,n,cap,sz,hr,h⟩ | h
 exact .inl (List.mem_of_mem_take h);exact .inr (.inl ⟨r,n,cap,sz,(J5 hr).1,h⟩);exact .inr (.inr h)
def ZB{g i:Nat}{v:Value}(h:PW c w g i v):PW (c.upto n m) w g i v:=⟨h.1,λhs=>h.2.1 (ada hs),h.2.2⟩
mutual
def Rp.upto:∀{a:AV} {v:Value},under n m a=true->Rp c w a v->Rp (c.upto n m) w a v:=by
 intro a v hp h;cases h with
 | sc h1=>exact .sc h1
 | agg h1=>exact .agg (CX.upto hp h1)
 | C6 h1=>exact .C6 (CX.upto hp h1)
 | @KB own A cap h1 =>
   simp only[AI.under,Bool.and_eq_true] at hp;cases own with
   | full=>exact .KB h1
   | nil=>exact .KB h1
   | nn=>exact .KB h1
   | lost=>exact .KB trivial
   | row r sz =>
     have hr:r < m:=of_decide_eq_true hp.1;refine .KB ⟨h1.1,?_⟩;have:=h1.2;simp only[Cx.upto,List.length_take];omega
 | @Ni own k cap g o cs hn h1 ho =>
   simp only[AI.under,Bool.and_eq_true] at hp;refine .Ni hn (Bk.upto hp.2 h1) ?_;cases own with
   | full=>exact ho
   | nil=>exact ho
   | nn=>exact ho
   | lost=>trivial
   | row r sz =>
     have hr:r < m:=of_decide_eq_true hp.1;refine⟨ho.1,ho.2.1,?_,λe=>ho.2.2.2.1 (J5 e).1,λg' n' c' s' e=>ho.2.2.2.2 g' n' c' s' (J5 e).1⟩;have:=ho.2.2.1;simp only[Cx.upto,List.length_take];omega
 | Og hn h1=>exact .Og hn (Vj h1 (of_decide_eq_true hp))
 | el h1=>exact .el (Bk.upto hp h1)
 | ptr h1=>exact .ptr (Vj h1 (of_decide_eq_true hp))
 | fn h1 h2 =>
   simp only[AI.under,Bool.and_eq_true] at hp;exact .fn (CX.upto hp.1 h1) (CX.upto hp.2 h2)
 | Fu h1=>exact .Fu (Rp.upto hp h1)
 | mp h1=>exact .mp (Vj h1 (of_decide_eq_true hp))
 | any h1=>exact .any h1
 | raw=>exact .raw
def CX.upto:∀{a:List AV} {v:List Value},FI n m a=true->CX c w a v->CX (c.upto n m) w a v:=by
 intro a v hp h;cases h with
 | nil=>exact .nil
 | cons h1 t =>
   simp only[AI.FI,Bool.and_eq_true] at hp;exact .cons (Rp.upto hp.1 h1) (CX.upto hp.2 t)
def Bk.upto:∀{a:List AV} {g o:Nat},FI n m a=true->Bk c w g o a->Bk (c.upto n m) w g o a:=by
 intro a g o hp h;cases h with
 | nil=>exact .nil
 | cons hvv h1 t =>
   simp only[AI.FI,Bool.and_eq_true] at hp;exact .cons (ZB hvv) (Rp.upto hp.1 h1) (Bk.upto hp.2 t)
end
end
def UN:AV->Bool
 | .sc v=>Xg v
 | _=>true
def TN{c:Cx}{w:World}{a:AV}{v:Value}(h:Rp c w a v)(hd:UN a=true):Xg v=true:=by
 cases h<;>first | rfl | exact hd | assumption | (cases hd;done)
def qW:AV->AV
 | .sl _ n cs=>.sl .lost n cs
 | a=>a
inductive Fg(n m:Nat):List AV->List AV->Prop where
 | nil:Fg n m [] []
 | U3 {a:AV} {l k:List AV} (h:under n m a=true) (t:Fg n m l k):Fg n m (a::l) (a::k)
 | drop {a:AV} {l k:List AV} (h:UN a=true) (t:Fg n m l k):Fg n m (a::l) (.any::k)
 | lost {o:Own} {j:Nat} {cs l k:List AV} (h:FI n m cs=true) (t:Fg n m l k):Fg n m (.sl o j cs::l) (.sl .lost j cs::k)
def Fg.ok{n m:Nat}{l k:List AV}(h:Fg n m l k){c:Cx}{w:World}{vs:List Value}(hr:CX c w l vs):CX (c.upto n m) w k vs:=by
 induction h generalizing vs with
 | nil=>cases hr;exact .nil
 | U3 h _ ih=>cases hr with | cons h1 t=>exact .cons (h1.upto h) (ih t)
 | drop h _ ih=>cases hr with | cons h1 t=>exact .cons (.any (TN h1 h)) (ih t)
 | @lost o j cs l k h _ ih =>
   cases hr with
   | cons h1 t =>
     refine .cons ?_ (ih t);cases h1 with
     | KB _=>exact .KB trivial
     | Ni hn hc ho=>exact .Ni hn (hc.upto h) trivial
def XK(n m:Nat):List (Value×AV×Nat)->Bool
 | []=>true
 | e::l=>under n m e.2.1&&XK n m l
def adP(n m:Nat):Bo->Bool
 | .cells cs=>FI n m cs
 | .map es _=>XK n m es
def KV.upto{c:Cx}{w:World}{n m:Nat}:∀{es:List (Value×AV×Nat)} {fs:List MapEntry},XK n m es=true->KV c w es fs->KV (c.upto n m) w es fs:=by
 intro es
 induction es with
 | nil=>intro fs _ h;cases h;exact .nil
 | cons e es ih =>
   intro fs hu h;obtain⟨x,a,b⟩:=e;simp only[XK,Bool.and_eq_true] at hu;cases h with | cons h1 t=>exact .cons (h1.upto hu.1) (ih hu.2 t)
def FJ.upto{c:Cx}{w:World}{n m:Nat}{b:Bo}{o:Obj}(hb:adP n m b=true)(h:FJ c w b o):FJ (c.upto n m) w b o:=by
 cases h with
 | Ja ext h1=>exact .Ja ext (h1.upto hb)
 | map h1=>exact .map (h1.upto hb)
def Fits(n m:Nat)(a b:AV):Prop:=∀(c:Cx) (w:World) (v:Value),Rp c w a v->Rp (c.upto n m) w b v
def K7(n m:Nat)(a b:List AV):Prop:=∀(c:Cx) (w:World) (v:List Value),CX c w a v->CX (c.upto n m) w b v
def To(n m:Nat)(a b:List AV):Prop:=∀(c:Cx) (w:World) (g o:Nat),Bk c w g o a->Bk (c.upto n m) w g o b
def Tn(n m:Nat)(a b:Bo):Prop:=∀(c:Cx) (w:World) (o:Obj),FJ c w a o->FJ (c.upto n m) w b o
def Fg.fits{n m:Nat}{l k:List AV}(h:Fg n m l k):K7 n m l k:=λ_ _ _ hr=>h.ok hr
def Fits.under{n m:Nat}{a:AV}(h:AI.under n m a=true):Fits n m a a:=λ_ _ _ hr=>hr.upto h
def K7.under{n m:Nat}{a:List AV}(h:AI.FI n m a=true):K7 n m a a:=λ_ _ _ hr=>hr.upto h
def To.under{n m:Nat}{a:List AV}(h:AI.FI n m a=true):To n m a a:=λ_ _ _ _ hr=>hr.upto h
def Tn.under{n m:Nat}{b:Bo}(h:adP n m b=true):Tn n m b b:=λ_ _ _ hr=>hr.upto h
def Fits.plain{n m:Nat}{a:AV}(h:AI.plain a=true):Fits n m a a:=.under (HU n m h)
def K7.plain{n m:Nat}{a:List AV}(h:BS a=true):K7 n m a a:=.under (BN n m h)
def To.plain{n m:Nat}{a:List AV}(h:BS a=true):To n m a a:=.under (BN n m h)
def Fits.sc{n m:Nat}{v:Value}:Fits n m (.sc v) (.sc v):=.under rfl
def Fits.drop{n m:Nat}{a:AV}(h:UN a=true):Fits n m a .any:=λ_ _ _ hr=>.any (TN hr h)
def Fits.agg{n m:Nat}{a b:List AV}(h:K7 n m a b):Fits n m (.agg a) (.agg b):=λ_ _ _ hr=>by cases hr with | agg h1=>exact .agg (h _ _ _ h1)
def Fits.C6{n m:Nat}{a b:List AV}(h:K7 n m a b):Fits n m (.C6 a) (.C6 b):=λ_ _ _ hr=>by cases hr with | C6 h1=>exact .C6 (h _ _ _ h1)
def Fits.lost{n m:Nat}{o:Own}{k:Nat}{a b:List AV}(h:To n m a b)(e:a=[]->b=[]):Fits n m (.sl o k a) (.sl .lost k b):=λ_ _ _ hr=>by
 cases hr with
 | KB _=>rw[e rfl];exact .KB trivial
 | Ni hn hc ho=>exact .Ni hn (h _ _ _ _ hc) trivial
def K7.nil{n m:Nat}:K7 n m [] []:=λ_ _ _ hr=>by cases hr;exact .nil
def K7.cons{n m:Nat}{a b:AV}{l k:List AV}(h:Fits n m a b)(t:K7 n m l k):K7 n m (a::l) (b::k):=λ_ _ _ hr=>by cases hr with | cons h1 t1=>exact .cons (h _ _ _ h1) (t _ _ _ t1)
def To.nil{n m:Nat}:To n m [] []:=λ_ _ _ _ hr=>by cases hr;exact .nil
def To.cons{n m:Nat}{a b:AV}{l k:List AV}(h:Fits n m a b)(t:To n m l k):To n m (a::l) (b::k):=λ_ _ _ _ hr=>by cases hr with | cons hv h1 t1=>exact .cons (ZB hv) (h _ _ _ h1) (t _ _ _ _ t1)
def Tn.cells{n m:Nat}{a b:List AV}(h:K7 n m a b):Tn n m (.cells a) (.cells b):=λ_ _ _ hr=>by cases hr with | Ja ext h1=>exact .Ja ext (h _ _ _ h1)
def afa{G:Bc}(hG:∀g cs,G g=some cs->BS cs=true){s s' s2:AS}{Ct fr2:List AV}(hn:s2.nx=s.nx)(hr:s2.nr=s.nr)
   (hd:KD s2.h s2.nx) (apz:∀id b,look id s2.h=some b->∃b',look id s'.h=some b'/\Tn s.nx s.nr b' b) (hF:∀r n,Fv r s2.F=some n->Fv r s'.F=some n/\r < s.nr)
   (hf:K7 s.nx s.nr Ct fr2) (cx:Cx) (w:World) (c':Cx) (w':World) (vs:List Value) (hx:Ext cx w c' w') (hs:St G cx w s) (CW:St G c' w' s') (QV:CX c' w' Ct vs) :
   ∃c2,Ext cx w c2 w'/\St G c2 w' s2/\CX c2 w' fr2 vs:=by
 have TV:c'.DD.take s.nx=cx.DD:=by
   obtain⟨t,ht⟩:=hx.DD;rw[<- ht,hs.len,List.take_left]
 have hrl:(c'.rows.take s.nr).length=cx.rows.length:=by
   have:=hx.J2;rw[List.length_take,hs.J2];omega
 refine⟨c'.upto s.nx s.nr,⟨?_,?_,λr x ZM h=>?_,λg i v hv=>ZB (hx.gI g i v hv),hx.below,hx.base,hx.bad,λg hg=>hx.kQ g (List.mem_of_mem_take hg),λr g n cap sz h=>hx.lB r g n cap sz (J5 h).1,hx.U3⟩,?_,hf _ _ _ QV⟩;show cx.DD <+: c'.DD.take s.nx;rw[TV];exact List.prefix_refl _;show cx.rows.length<=(c'.rows.take s.nr).length;omega;exact hx.rows r x ZM (J5 h).1;refine⟨?_,hd,λi j g h1 h2=>CW.nodup i j g (J5 h1).1 (J5 h2).1,λg hg=>CW.low g (List.mem_of_mem_take hg),λid g b h1 h2=>?_,?_,λr g n cap sz h=>?_,λr n h=>?_,λg hg=>CW.O5 g (List.mem_of_mem_take hg),CW.OW,λr r' g n cap sz n' CC PX h h'=>CW.JZ r r' g n cap sz n' CC PX (J5 h).1 (J5 h').1,λg cs hg=>(CW.PB g cs hg).upto (BN _ _ (hG g cs hg)),CW.Sd⟩;show s2.nx=(c'.DD.take s.nx).length;rw[TV,hn,hs.len];obtain⟨b',h3,h4⟩:=apz id b h2;obtain⟨o,ho,hb⟩:=CW.box id g b' (J5 h1).1 h3;exact⟨o,ho,h4 _ _ _ hb⟩;show s2.nr=(c'.rows.take s.nr).length;rw[hrl,hr,hs.J2];obtain⟨a1,a2,a3,a4⟩:=CW.row r g n cap sz (J5 h).1;exact⟨a1,a2,λhm=>a3 (List.mem_of_mem_take hm),a4⟩;obtain⟨h1,h2⟩:=hF r n h;rcases CW.Kv r n h1 with ⟨h3,h4⟩ | ⟨g,cap,sz,h3⟩
 exact .inl ⟨Vj h3 h2,h4⟩;exact .inr ⟨g,cap,sz,Vj h3 h2⟩
end AI
namespace AI
open Go Go.RowKit
section
variable {P:Program} {G:Bc} {X:WQ} {H:TH}
def W(P:Program)(G:Bc)(X:WQ)(H:TH)(c:Code)(fr:List AV)(s:AS)(Q:AX->List AV->AS->Prop):Prop:=∃e Ct s',J P G X H (.code c fr s e Ct s')/\Q e Ct s'
def WL(P:Program)(G:Bc)(X:WQ)(H:TH)(c:Code)(fr:List AV)(s:AS)(Q:AX->List AV->AS->Prop):Prop:=∃e Ct s',J P G X H (.loop c fr s e Ct s')/\Q e Ct s'
def WC(P:Program)(G:Bc)(X:WQ)(H:TH)(f:FuncId)(args:List AV)(s:AS)(Q:CR->AS->Prop):Prop:=∃r s',J P G X H (.call f args s r s')/\Q r s'
def aiI(P:Program)(G:Bc)(X:WQ)(H:TH)(y:Code)(Q:AX->List AV->AS->Prop):AX->List AV->AS->Prop
 | .normal,fr,s=>W P G X H y fr s Q
 | e,fr,s=>Q e fr s
def EV(id:Nat)(Q:AX->List AV->AS->Prop):AX->List AV->AS->Prop:=λe fr s=>Q (Fa id e) fr s
def UJ(P:Program)(fn:Func)(n:Nat)(Q:CR->AS->Prop):AX->List AV->AS->Prop
 | .normal,fr,s=>∃v,JO P s fn fr=some v/\Q (.ret v) (s.cut n)
 | .ret,fr,s=>∃v,JO P s fn fr=some v/\Q (.ret v) (s.cut n)
 | .JI v,_,s=>Q (.JI v) (s.cut n)
 | _,_,_=>False
def W.mono{c:Code}{fr:List AV}{s:AS}{Q R:AX->List AV->AS->Prop}(h:W P G X H c fr s Q)(k:∀e fr s,Q e fr s->R e fr s):W P G X H c fr s R:=by
 obtain⟨e,Ct,s',h1,h2⟩:=h;exact⟨e,Ct,s',h1,k _ _ _ h2⟩
def WC.mono{f:FuncId}{args:List AV}{s:AS}{Q R:CR->AS->Prop}(h:WC P G X H f args s Q)(k:∀r s,Q r s->R r s):WC P G X H f args s R:=by
 obtain⟨r,s',h1,h2⟩:=h;exact⟨r,s',h1,k _ _ h2⟩
def alw{x y:Code}{fr:List AV}{s:AS}{Q:AX->List AV->AS->Prop}(h:W P G X H x fr s (aiI P G X H y Q)):W P G X H (.seq x y) fr s Q:=by
 obtain⟨e,Wr,s1,h1,h2⟩:=h;cases e with
 | normal =>
   obtain⟨e2,fr2,s2,h3,h4⟩:=h2;exact⟨e2,fr2,s2,.seq h1 h3,h4⟩
 | exit id=>exact⟨_,_,_,.qN h1 (by simp),h2⟩
 | ret=>exact⟨_,_,_,.qN h1 (by simp),h2⟩
 | JI v=>exact⟨_,_,_,.qN h1 (by simp),h2⟩
def aeI{q:Operand}{x y:Code}{fr:List AV}{s:AS}{Q:AX->List AV->AS->Prop}(hq:Bg G fr q=some (.sc (.bool true)))(h:W P G X H x fr s Q):W P G X H (.cond q x y) fr s Q:=by
 obtain⟨e,Wr,s1,h1,h2⟩:=h;exact⟨e,Wr,s1,.cond hq h1,h2⟩
def aeH{q:Operand}{x y:Code}{fr:List AV}{s:AS}{Q:AX->List AV->AS->Prop}(hq:Bg G fr q=some (.sc (.bool false)))(h:W P G X H y fr s Q):W P G X H (.cond q x y) fr s Q:=by
 obtain⟨e,Wr,s1,h1,h2⟩:=h;exact⟨e,Wr,s1,.cond hq h1,h2⟩
def rD{id:Nat}{c:Code}{fr:List AV}{s:AS}{Q:AX->List AV->AS->Prop}(h:W P G X H c fr s (EV id Q)):W P G X H (.block id c) fr s Q:=by
 obtain⟨e,Wr,s1,h1,h2⟩:=h;exact⟨_,Wr,s1,.block h1,h2⟩
def ai0{c:Code}{fr:List AV}{s:AS}{Q:AX->List AV->AS->Prop}(h:WL P G X H c fr s Q):W P G X H (.loop c) fr s Q:=by
 obtain⟨e,Wr,s1,h1,h2⟩:=h;exact⟨_,Wr,s1,.loop h1,h2⟩
def drop_cons{α:Type}{o:α}{l m:List α}{k:Nat}(h:o::l=m.drop k):m[k]?=some o/\l=m.drop (k+1):=by
 constructor;have:=congrArg (λx=>x[0]?) h;simpa using this.symm
 have:=congrArg List.tail h;rw[List.tail_drop] at this;exact this
def Ay{f:FuncId}{fn:Func}{c:Code}{args:List AV}{s:AS}{Q:CR->AS->Prop}(hf:P.funcs[f]?=some fn)(hb:fn.body=some c)(h:W P G X H c (args++List.replicate (fn.ntmps - args.length) (.sc undef)) s (UJ P fn s.nx Q)):WC P G X H f args s Q:=by
 obtain⟨e,Wr,s1,h1,h2⟩:=h;cases e with
 | normal=>obtain⟨v,h3,h4⟩:=h2;exact⟨_,_,.body hf hb h1 (.inl rfl) h3 (.inl rfl),h4⟩
 | ret=>obtain⟨v,h3,h4⟩:=h2;exact⟨_,_,.body hf hb h1 (.inr rfl) h3 (.inl rfl),h4⟩
 | JI v=>exact⟨_,_,.ahU hf hb h1,h2⟩
 | exit id=>exact h2.elim
end
end AI
namespace AI
open Go Go.RowKit
abbrev XS(P:Program)(G:Bc):WQ:=λf args s r s'=>Sound P G (.call f args s r s')
def H0:TH:=λ_ _=>none
def TQ{P:Program}{G:Bc}(h:P.follows .mixedOrders=true):ahN P G (XS P G) H0:=⟨h,λ_ _ _ _ _ h=>h,λ_ _ _ _ _ h=>by cases h⟩
def Pure(P:Program)(G:Bc)(f:FuncId)(args:List AV)(v:AV):Prop:=∀s,Sound P G (.call f args s (.ret v) s)
def rows{α:Type}(f:α->List AV)(l:List α):List AV:=l.flatMap f
def bQ{α:Type}{f:α->List AV}{k:Nat}(hf:∀x,(f x).length=k){l:List α}{i:Nat}{x:α}(h:l[i]?=some x):(rows f l).drop (i*k)=f x++rows f (l.drop (i+1)):=by
 induction l generalizing i with
 | nil=>simp at h
 | cons y l ih =>
   cases i with
   | zero=>simp at h;subst h;simp[rows]
   | succ i =>
     have:=ih (i:=i) (by simpa using h)
     have e:rows f (y::l)=f y++rows f l:=by simp[rows]
     rw[e,List.drop_append,hf y,show(i+1)*k - k=i*k by rw[Nat.add_mul];omega,List.drop_eq_nil_of_le (by rw[hf y,Nat.add_mul];omega),List.nil_append,this];simp
def SC{α:Type}{f:α->List AV}{k:Nat}(hf:∀x,(f x).length=k)(l:List α):(rows f l).length=l.length*k:=by
 induction l with
 | nil=>simp[rows]
 | cons y l ih =>
   have e:rows f (y::l)=f y++rows f l:=by simp[rows]
   rw[e,List.length_append,hf y,ih,List.length_cons,Nat.add_mul];omega
def WI{α:Type}(f:α->List AV)(l m:List α):rows f (l++m)=rows f l++rows f m:=by simp[rows]
def I8{α:Type}(f:α->List AV)(x:α)(m:List α):rows f (x::m)=f x++rows f m:=by simp[rows]
def qI{α:Type}{f:α->List AV}{l:List α}(h:∀x∈l,BS (f x)=true):BS (rows f l)=true:=by
 have WT:∀a b:List AV,BS a=true->BS b=true->BS (a++b)=true:=by
   intro a b ha hb
   induction a with
   | nil=>exact hb
   | cons x a ih =>
     simp only[BS,Bool.and_eq_true,List.cons_append] at ha ⊢;exact⟨ha.1,ih ha.2⟩
 induction l with
 | nil=>rfl
 | cons y l ih=>rw[I8];exact WT _ _ (h y List.mem_cons_self) (ih λx hx=>h x (List.mem_cons_of_mem _ hx))
def pD{P:Program}{α:Type}{f:α->List AV}{k:Nat}{t elem:TypeId}{e:TypeInfo}(hu:P.underlying t=some (.slice elem))(he:P.info? elem=some e)(hk:e.size=k)(hf:∀x,(f x).length=k){own:Own}{l:List α}{i:Nat}{x:α}(h:l[i]?=some x) :
   DE P t (.sl own l.length (rows f l)) (.sc (.int .i64 (i:Int)))=some (.el (f x++rows f (l.drop (i+1)))):=by
 have hi:=(List.getElem?_eq_some_iff.1 h).1
 have hn:S7 (.sc (.int .i64 (i:Int)))=some i:=by
   unfold S7;simp
 unfold DE;rw[hu,hn];simp only[he,hk,if_pos hi,bQ hf h]
def ad3{i:Nat}(h:i<=9223372036854775807):IntKind.i64.wrap (i:Int)=(i:Int):=by
 refine IntWalk.i64_in _ ?_;omega
end AI
namespace AI
open Go Go.RowKit
section
variable {G:Bc}
inductive NZ where
 | t (tmp sz:Nat)
 | b (id i sz:Nat)
 | l (tmp:Nat)
 | lb (id i:Nat)
def afU:AV->Bool
 | .sl .full n cs=>(match n with | 0=>(match cs with | []=>true | _=>false) | _=>false)
 | _=>false
def nz1(fr:List AV)(s:AS):NZ->Option (List AV×AS)
 | .t k sz=>(match fr[k]? with
   | some a=>(match afU a with
     | true=>some (fr.set k (.sl (.row s.nr sz) 0 []),s.tok)
     | false=>none)
   | none=>none)
 | .b id i sz=>(match look id s.h with
   | some (.cells cs)=>(match cs[i]? with
     | some a=>(match afU a with
       | true=>some (fr,⟨uO id (.cells (cs.set i (.sl (.row s.nr sz) 0 []))) s.h,s.nx,(s.nr,0)::s.F,s.nr+1⟩)
       | false=>none)
     | none=>none)
   | _=>none)
 | .l k=>(match fr[k]? with
   | some a=>some (fr.set k (qW a),s)
   | none=>none)
 | .lb id i=>(match look id s.h with
   | some (.cells cs)=>(match cs[i]? with
     | some a=>some (fr,⟨uO id (.cells (cs.set i (qW a))) s.h,s.nx,s.F,s.nr⟩)
     | none=>none)
   | _=>none)
def nzs:List NZ->List AV->AS->Option (List AV×AS)
 | [],fr,s=>some (fr,s)
 | z::l,fr,s=>(match nz1 fr s z with
   | some (fr,s)=>nzs l fr s
   | none=>none)
def Wkn(G:Bc)(fr:List AV)(s:AS)(fr2:List AV)(s2:AS):Prop:=∀(cx:Cx) (w:World) (vs:List Value),St G cx w s->CX cx w fr vs->∃cx2,Ext cx w cx2 w/\St G cx2 w s2/\CX cx2 w fr2 vs
def Wkn.refl{fr:List AV}{s:AS}:Wkn G fr s fr s:=λcx w vs h1 h2=>⟨cx,Ext.refl _ _,h1,h2⟩
def Wkn.trans{fr fr2 fr3:List AV}{s s2 s3:AS}(h:Wkn G fr s fr2 s2)(k:Wkn G fr2 s2 fr3 s3):Wkn G fr s fr3 s3:=λcx w vs h1 h2=>by
 obtain⟨c2,x2,s2,r2⟩:=h cx w vs h1 h2;obtain⟨c3,x3,s3,r3⟩:=k c2 w vs s2 r2;exact⟨c3,x2.trans x3,s3,r3⟩
def tH{a:AV}(h:afU a=true){c:Cx}{w:World}{v:Value}(hr:Rp c w a v){r sz:Nat}(hl:r < c.rows.length):Rp c w (.sl (.row r sz) 0 []) v:=by
 unfold afU at h;split at h;split at h;split at h;cases hr with
 | KB h0=>exact .KB ⟨h0,hl⟩
 | Ni hn hc ho =>
   have:_=0:=ho;subst this;exact .KB ⟨rfl,hl⟩
 cases h;cases h;cases h
def cF{a:AV}{c:Cx}{w:World}{v:Value}(hr:Rp c w a v):Rp c w (qW a) v:=by
 cases hr with
 | KB _=>exact .KB trivial
 | Ni hn hc ho=>exact .Ni hn hc trivial
 | sc h=>exact .sc h
 | agg h=>exact .agg h
 | C6 h=>exact .C6 h
 | Og h1 h2=>exact .Og h1 h2
 | el h=>exact .el h
 | ptr h=>exact .ptr h
 | fn h1 h2=>exact .fn h1 h2
 | Fu h=>exact .Fu h
 | mp h=>exact .mp h
 | any h=>exact .any h
 | raw=>exact .raw
def CX.agI{c:Cx}{w:World}{as:List AV}{vs:List Value}(h:CX c w as vs){i:Nat}{a b:AV}(ha:as[i]?=some a)(hb:∀v,Rp c w a v->Rp c w b v):CX c w (as.set i b) vs:=by
 induction as generalizing vs i with
 | nil=>simp at ha
 | cons x as ih =>
   cases h with
   | cons h1 t =>
     cases i with
     | zero=>simp at ha;subst ha;exact .cons (hb _ h1) t
     | succ i=>exact .cons h1 (ih t (by simpa using ha))
def St.xI{c:Cx}{w:World}{s:AS}(h:St G c w s){id:Nat}{b b2:Bo}(hb:look id s.h=some b)(hk:∀o,FJ c w b o->FJ c w b2 o):St G c w ⟨uO id b2 s.h,s.nx,s.F,s.nr⟩ :=
 ⟨h.len,Zw h.desc,h.nodup,h.low,λRC g b' h1 h2=>by
   rcases Zx h2 with ⟨rfl,rfl⟩ | ⟨_,h3⟩
   obtain⟨o,ho,hbo⟩:=h.box _ g b h1 hb;exact⟨o,ho,hk o hbo⟩;exact h.box RC g b' h1 h3,h.J2,h.row,h.Kv,h.O5,h.OW,h.JZ,h.PB,h.Sd⟩
def akC{fr fr2:List AV}{s s2:AS}{z:NZ}(h:nz1 fr s z=some (fr2,s2)):Wkn G fr s fr2 s2:=by
 intro cx w vs hs hr;cases z with
 | t k sz =>
   simp only[nz1] at h;split at h;rename_i a ha;split at h;rename_i hn;cases h;obtain⟨x,st⟩:=hs.tok;refine⟨_,x,st,(hr.mono x).agI ha (λv hv=>tH hn hv ?_)⟩;simp[hs.J2];cases h;cases h
 | b id i sz =>
   simp only[nz1] at h;split at h;rename_i cs hb;split at h;rename_i a ha;split at h;rename_i hn;cases h;obtain⟨x,st⟩:=hs.tok;refine⟨_,x,st.xI (b:=.cells cs) hb (λo ho=>?_),hr.mono x⟩;cases ho with
   | Ja ext h1=>exact .Ja ext (h1.agI ha (λv hv=>tH hn hv (by simp[hs.J2])))
   cases h;cases h;cases h
 | l k =>
   simp only[nz1] at h;split at h;rename_i a ha;cases h;exact⟨cx,Ext.refl _ _,hs,hr.agI ha (λv hv=>cF hv)⟩;cases h
 | lb id i =>
   simp only[nz1] at h;split at h;rename_i cs hb;split at h;rename_i a ha;cases h;refine⟨cx,Ext.refl _ _,hs.xI (b:=.cells cs) hb (λo ho=>?_),hr⟩;cases ho with
   | Ja ext h1=>exact .Ja ext (h1.agI ha (λv hv=>cF hv))
   cases h;cases h
def pT:∀{l:List NZ} {fr fr2:List AV} {s s2:AS},nzs l fr s=some (fr2,s2)->Wkn G fr s fr2 s2:=by
 intro l
 induction l with
 | nil=>intro fr fr2 s s2 h;simp only[nzs] at h;cases h;exact .refl
 | cons z l ih =>
   intro fr fr2 s s2 h;simp only[nzs] at h;split at h;rename_i f1 s1 h1;exact(akC h1).trans (ih h);cases h
end
end AI
namespace AI
open Go Go.RowKit
def eqV:Value->Value->Bool
 | .string a,.string b=>B2 a.data.toList b.data.toList
 | .int k a,.int k' b=>(match sameKind k k' with | true=>CV a b | false=>false)
 | a,b=>aeN a b
def ajk{a b:Value}(h:eqV a b=true):a=b:=by
 unfold eqV at h;split at h;rename_i x y;rw[TO,beq_iff_eq] at h;have:x=y:=ByteArray.ext (Array.ext' h);rw[this];split at h;rename_i hk;rw[QT,beq_iff_eq] at h;rw[WM hk,h];cases h;exact rI h
def ah1:Own->Own->Bool
 | .full,.full=>true
 | .lost,.lost=>true
 | .nil,.nil=>true
 | .nn,.nn=>true
 | _,_=>false
def aaR{a b:Own}(h:ah1 a b=true):a=b:=by cases a<;>cases b<;>first | rfl | cases h
mutual
def dQ:AV->AV->Bool
 | .sc a,.sc b=>eqV a b
 | .agg a,.agg b=>eqL a b
 | .C6 a,.C6 b=>eqL a b
 | .sl o n a,.sl p m b=>(match ah1 o p with
   | true=>(match Nat.beq n m with | true=>eqL a b | false=>false)
   | false=>false)
 | .Fu t a,.Fu u b=>(match Nat.beq t u with | true=>dQ a b | false=>false)
 | _,_=>false
def eqL:List AV->List AV->Bool
 | [],[]=>true
 | a::as,b::bs=>(match dQ a b with | true=>eqL as bs | false=>false)
 | _,_=>false
end
mutual
def aaO:∀{a b:AV},dQ a b=true->a=b
 | .sc a,b,h=>by
   cases b<;>first
     | (simp only[dQ] at h;rw[ajk h])
     | (simp[dQ] at h;done)
 | .agg a,b,h=>by
   cases b<;>first
     | (simp only[dQ] at h;rw[dR h])
     | (simp[dQ] at h;done)
 | .C6 a,b,h=>by
   cases b<;>first
     | (simp only[dQ] at h;rw[dR h])
     | (simp[dQ] at h;done)
 | .sl o n a,b,h=>by
   cases b<;>first
     | (simp only[dQ] at h
        split at h;rename_i h1;split at h;rename_i h2;rw[aaR h1,beq_true h2,dR h];cases h;cases h)
     | (simp[dQ] at h;done)
 | .Fu t a,b,h=>by
   cases b<;>first
     | (simp only[dQ] at h
        split at h;rename_i h1;rw[beq_true h1,aaO h];cases h)
     | (simp[dQ] at h;done)
 | .Og _ _ _,b,h=>by simp[dQ] at h
 | .el _,b,h=>by simp[dQ] at h
 | .ptr _ _,b,h=>by simp[dQ] at h
 | .fn _ _ _,b,h=>by simp[dQ] at h
 | .mp _,b,h=>by simp[dQ] at h
 | .any,b,h=>by simp[dQ] at h
def dR:∀{a b:List AV},eqL a b=true->a=b
 | [],b,h=>by cases b<;>first | rfl | (simp[eqL] at h;done)
 | a::as,b,h=>by
   cases b<;>first
     | (simp[eqL] at h;done)
     | (simp only[eqL] at h
        split at h;rename_i h1;rw[aaO h1,dR h];cases h)
end
structure Ent where
 f:Nat
 args:List AV
 box:Option (List AV×List AV)
 v:AV
def zX(P:Program)(G:Bc)(e:Ent):Prop:=match e.box with
 | none=>∀s,Sound P G (.call e.f e.args s (.ret e.v) s)
 | some (cs,cs')=>∀s id,s.get id=some (.cells cs)->Sound P G (.call e.f (.ptr id 0::e.args) s (.ret e.v) (s.put id (.cells cs')))
def aq5.cons{P:Program}{G:Bc}{e:Ent}{l:List Ent}(he:zX P G e)(hl:∀e∈l,zX P G e):∀e'∈e::l,zX P G e':=λe' h=>by
 rcases List.mem_cons.1 h with h | h
 rw[h];exact he;exact hl e' h
end AI
namespace AI
open Go Go.RowKit
inductive Hn where
 | k
 | b (b:Bool)
 | i (z:Int)
 | w (v:AV)
 | a (v:AV) (s:AS)
 | ae (v:AV)
 | af (v:AV)
 | m (s:AS)
 | l (v:AV)
 | s (s:AS)
 | c (v:AV) (s:AS)
 | o (v:AV)
 | z (c:Nat)
 | p (v:AV) (s:AS)
 | g (sz k:Nat) (cs:List AV)
 | u (v:AV) (pre:List (Nat×Bo)) (tp:List (Nat×Nat)) (Ro:List (Nat×Bo)) (tu:List (Nat×Nat))
 | q (v:AV) (pre:List (Nat×Bo)) (tp:List (Nat×Nat)) (Ro:List (Nat×Bo)) (tu:List (Nat×Nat))
 | n (l:List NZ)
 | x (b:Bo) (v:AV)
 | y (b b2:Bo)
 | lb (m:Bo) (v:AV)
 | sb (m m2:Bo)
 | mb (n:Nat) (m:Bo)
 | za
 | zq (c:Nat)
 | cn (v:AV) (h:List (Nat×Bo)) (dn:Nat) (F:List (Nat×Nat)) (dr:Nat)
 | f (id:Nat) (b b2:Bo)
inductive Cd where
 | eqb (B b:Bool)
 | eqi (X z:Int)
 | idx (t:TypeId) (a b v:AV)
 | bin (op:BinOp) (t:TypeId) (x y:Operand) (a b v:AV)
 | call (f:FuncId) (args:List AV) (s:AS) (v:AV)
 | WT (s:AS) (t tx:TypeId) (a b v:AV) (s1:AS)
 | ix (t:TypeId) (a b v:AV)
 | lk (s:AS) (t:TypeId) (a b:AV) (ok:Bool) (v:AV)
 | ms (s:AS) (t:TypeId) (a b v:AV) (s1:AS)
 | ahY (f:FuncId) (args:List AV) (s:AS) (v:AV) (s1:AS)
 | ld (s:AS) (t:TypeId) (a v:AV)
 | st (s:AS) (t:TypeId) (a x:AV) (s1:AS)
 | mk (s:AS) (t:TypeId) (a b v:AV) (s1:AS)
 | sli (t:TypeId) (a:AV) (l h m:Option AV) (v:AV)
 | ahX (f:FuncId) (args:List AV) (s:AS) (v:AV) (s1:AS)
 | pur (f:FuncId) (args:List AV) (v:AV)
 | ZT (t tx:TypeId) (own:Own) (n:Nat) (cs:List AV) (b:AV) (sz k:Nat) (rN:List AV)
 | eqn (k n:Nat)
 | Ff (f:FuncId) (args:List AV) (r:CR) (pre:List (Nat×Bo)) (tp:List (Nat×Nat)) (Ro:List (Nat×Bo)) (tu:List (Nat×Nat))
 | yZ (a b:List (Option Bo)) (c d:List (Option Nat))
 | lkB (b:Bo) (t:TypeId) (k:AV) (ok:Bool) (v:AV)
 | msB (b:Bo) (t:TypeId) (k v:AV) (b2:Bo)
 | ldB (b:Bo) (t:TypeId) (off:Nat) (v:AV)
 | stB (b:Bo) (t:TypeId) (off:Nat) (x:AV) (b2:Bo)
 | mkB (t:TypeId) (a x:AV) (n:Nat) (m:Bo)
 | apB (t tx:TypeId) (a b:AV) (n:Nat) (m:Bo)
 | ahW (f:FuncId) (args:List AV) (nx nr:Nat) (v:AV) (h:List (Nat×Bo)) (dn:Nat) (F:List (Nat×Nat)) (dr:Nat)
 | rd (nr:Nat) (b b2:Bo)
 | cv (t t2:TypeId) (a v:AV)
 | apf (t tx:TypeId) (a b v:AV)
def AS.V8(s:AS):List (Nat×Bo)->AS
 | []=>s
 | e::l=>(s.put e.1 e.2).V8 l
def AS.Tw(s:AS):List (Nat×Nat)->AS
 | []=>s
 | e::l=>(AS.mk s.h s.nx (xU e.1 e.2 s.F) s.nr).Tw l
def Yt(s:AS):List (Nat×Bo)->List (Option Bo)
 | []=>[]
 | e::l=>s.get e.1::Yt s l
def OQ:List (Nat×Bo)->List (Option Bo)
 | []=>[]
 | e::l=>some e.2::OQ l
def aJ(F:List (Nat×Nat)):List (Nat×Nat)->List (Option Nat)
 | []=>[]
 | e::l=>Fv e.1 F::aJ F l
def Pn:List (Nat×Nat)->List (Option Nat)
 | []=>[]
 | e::l=>some e.2::Pn l
def Cd.ok(P:Program)(G:Bc):Cd->Prop
 | .eqb B b=>B=b
 | .eqi X z=>X=z
 | .idx t a b v=>DE P t a b=some v
 | .bin op t x y a b v=>Ly P op t x y a b=some v
 | .call f args s v=>Sound P G (.call f args s (.ret v) s)
 | .WT s t tx a b v s1=>∃v0,Mp P s t tx a b=some (v0,s1)/\∀c w u,Rp c w v0 u->Rp c w v u
 | .ix t a b v=>Lz P t a b=some v
 | .lk s t a b ok v=>Jp P s t a b ok=some v
 | .ms s t a b v s1=>KR P s t a b v=some s1
 | .ahY f args s v s1=>Sound P G (.call f args s (.ret v) s1)
 | .ld s t a v=>K8 P s t a=some v
 | .st s t a x s1=>Md P s t a x=some s1
 | .mk s t a b v s1=>JN P s t a b=some (v,s1)
 | .sli t a l h m v=>KX P t a l h m=some v
 | .ahX f args s v s1=>Sound P G (.call f args s (.JI v) s1)
 | .pur f args v=>∀s,Sound P G (.call f args s (.ret v) s)
 | .ZT t tx own n cs b sz k rN=>∀s:AS,Oh sz s.F n own=true->∃cs0,Mp P s t tx (.sl own n cs) b=some (.sl (ait s sz own) k cs0,s.to k own)/\∀c w u o,Rp c w (.sl o k cs0) u->Rp c w (.sl o k rN) u
 | .eqn k n=>k=n
 | .Ff f args r pre tp Ro tu=>∀s:AS,Yt s pre=OQ pre->aJ s.F tp=Pn tp->Sound P G (.call f args s r ((s.V8 Ro).Tw tu))
 | .yZ a b c d=>a=b/\c=d
 | .lkB b t k ok v=>∀(s:AS) (id:Nat),s.get id=some b->Jp P s t (.mp id) k ok=some v
 | .msB b t k v b2=>∀(s:AS) (id:Nat),s.get id=some b->KR P s t (.mp id) k v=some (s.put id b2)
 | .ldB b t off v=>∀(s:AS) (id:Nat),s.get id=some b->K8 P s t (.ptr id off)=some v
 | .stB b t off x b2=>∀(s:AS) (id:Nat),s.get id=some b->Md P s t (.ptr id off) x=some (s.put id b2)
 | .mkB t a x n m=>∀s:AS,∃m0,JN P s t a x=some (.Og s.nx 0 n,s.new m0)/\∀(cx:Cx) (w:World) (o:Obj),FJ cx w m0 o->FJ cx w m o
 | .apB t tx a b n m=>∀s:AS,alt P G t tx a b s (.Og s.nx 0 n) (s.new m)
 | .ahW f args nx nr v h dn F dr=>∀s:AS,s.nx=nx->s.nr=nr->Sound P G (.call f args s (.ret v) ⟨h++s.h,s.nx+dn,F++s.F,s.nr+dr⟩)
 | .apf t tx a b v=>∀s:AS,∃v0,Mp P s t tx a b=some (v0,s)/\∀c w u,Rp c w v0 u->Rp c w v u
 | .cv t t2 a v=>Wi P t t2 a=some v
 | .rd nr b b2=>∀(cx:Cx) (w:World) (o:Obj),nr < cx.rows.length->FJ cx w b o->FJ cx w b2 o
def RN(P:Program)(G:Bc):List Cd->Prop
 | []=>True
 | c::l=>c.ok P G/\RN P G l
def RN.WT{P:Program}{G:Bc}{l m:List Cd}(h:RN P G (l++m)):RN P G l/\RN P G m:=by
 induction l with
 | nil=>exact⟨trivial,h⟩
 | cons c l ih=>exact⟨⟨h.1,(ih h.2).1⟩,(ih h.2).2⟩
abbrev HO:=Option (AV×AS×List Hn×List Cd)
def LH(s1:Option AR)(hs:List Hn):HO:=match s1 with
 | some (.val v s)=>some (v,s,hs,[])
 | _=>none
def alY(P:Program)(op:BinOp)(t:TypeId)(x y:Operand)(a b:AV)(s:AS):List Hn->HO
 | .k::hs=>(match XU P op t x y a b with
   | some v=>some (v,s,hs,[])
   | none=>none)
 | .b c::hs=>(match XU P op t x y a b with
   | some (.sc (.bool B))=>some (.sc (.bool c),s,hs,[.eqb B c])
   | _=>none)
 | .i z::hs=>(match XU P op t x y a b with
   | some (.sc (.int k X))=>some (.sc (.int k z),s,hs,[.eqi X z])
   | _=>none)
 | .w v::hs=>some (v,s,hs,[.bin op t x y a b v])
 | _=>none
def al1(P:Program)(t:TypeId)(a b:AV)(s:AS):List Hn->HO
 | .k::hs=>(match DE P t a b with
   | some v=>some (v,s,hs,[])
   | none=>none)
 | .w v::hs=>some (v,s,hs,[.idx t a b v])
 | _=>none
def Yw(s:AS)(r:Option AR):List Hn->HO
 | .w v::hs=>(match r with
   | some (.ent f args)=>some (v,s,hs,[.pur f args v])
   | _=>none)
 | .a v s1::hs=>(match r with
   | some (.ent f args)=>some (v,s1,hs,[.ahY f args s v s1])
   | _=>none)
 | .u v pre tp Ro tu::hs=>(match r with
   | some (.ent f args)=>some (v,(s.V8 Ro).Tw tu,hs,[.Ff f args (.ret v) pre tp Ro tu,.yZ (Yt s pre) (OQ pre) (aJ s.F tp) (Pn tp)])
   | _=>none)
 | .cn v h dn F dr::hs=>(match r with
   | some (.ent f args)=>some (v,⟨h++s.h,s.nx+dn,F++s.F,s.nr+dr⟩,hs,[.ahW f args s.nx s.nr v h dn F dr])
   | _=>none)
 | _=>none
def abc(s:AS)(t tx:TypeId)(a b:AV):List Hn->HO
 | .mb n m::hs=>some (.Og s.nx 0 n,s.new m,hs,[.apB t tx a b n m])
 | .a v s1::hs=>some (v,s1,hs,[.WT s t tx a b v s1])
 | .ae v::hs=>some (v,s,hs,[.WT s t tx a b v s])
 | .af v::hs=>some (v,s,hs,[.apf t tx a b v])
 | .g sz k rN::hs=>(match a with
   | .sl .full n cs=>some (.sl (.row s.nr sz) k rN,s.add k,hs,[.ZT t tx .full n cs b sz k rN])
   | .sl (.row r z) n cs=>(match Fv r s.F with
     | some m=>(match Nat.beq z sz with
       | true=>some (.sl (.row r sz) k rN,s.grow r k,hs,[.ZT t tx (.row r z) n cs b sz k rN,.eqn m n])
       | false=>none)
     | none=>none)
   | _=>none)
 | _=>none
def al2(P:Program)(t:TypeId)(a b:AV)(s:AS):List Hn->HO
 | .k::hs=>(match Lz P t a b with
   | some v=>some (v,s,hs,[])
   | none=>none)
 | .w v::hs=>some (v,s,hs,[.ix t a b v])
 | _=>none
def ah7(t:TypeId)(a b:AV)(ok:Bool)(s:AS):List Hn->HO
 | .w v::hs=>some (v,s,hs,[.lk s t a b ok v])
 | .x m v::hs=>(match a with
   | .mp id=>some (v,s,hs,[.lkB m t b ok v,.yZ [s.get id] [some m] [] []])
   | _=>none)
 | _=>none
def ajx(t:TypeId)(a b v:AV)(s:AS):List Hn->HO
 | .m s1::hs=>some (.sc undef,s1,hs,[.ms s t a b v s1])
 | .y m m2::hs=>(match a with
   | .mp id=>some (.sc undef,s.put id m2,hs,[.msB m t b v m2,.yZ [s.get id] [some m] [] []])
   | _=>none)
 | _=>none
def abf(t:TypeId)(a:Option AV)(s:AS)(r:Option AR):List Hn->HO
 | .l v::hs=>(match a with
   | some a=>some (v,s,hs,[.ld s t a v])
   | none=>none)
 | .lb m v::hs=>(match a with
   | some (.ptr id off)=>some (v,s,hs,[.ldB m t off v,.yZ [s.get id] [some m] [] []])
   | _=>none)
 | hs=>LH r hs
def oG(t:TypeId)(a x:Option AV)(s:AS)(r:Option AR):List Hn->HO
 | .s s1::hs=>(match a,x with
   | some a,some x=>some (.sc undef,s1,hs,[.st s t a x s1])
   | _,_=>none)
 | .sb m m2::hs=>(match a,x with
   | some (.ptr id off),some x=>some (.sc undef,s.put id m2,hs,[.stB m t off x m2,.yZ [s.get id] [some m] [] []])
   | _,_=>none)
 | hs=>LH r hs
def abh(t:TypeId)(a x:Option AV)(s:AS)(r:Option AR):List Hn->HO
 | .c v s1::hs=>(match a,x with
   | some a,some x=>some (v,s1,hs,[.mk s t a x v s1])
   | _,_=>none)
 | .mb n m::hs=>(match a,x with
   | some a,some x=>some (.Og s.nx 0 n,s.new m,hs,[.mkB t a x n m])
   | _,_=>none)
 | hs=>LH r hs
def ajy(t:TypeId)(a:Option AV)(l h m:Option (Option AV))(s:AS)(r:Option AR):List Hn->HO
 | .o v::hs=>(match a,l,h,m with
   | some a,some l,some h,some m=>some (v,s,hs,[.sli t a l h m v])
   | _,_,_,_=>none)
 | hs=>LH r hs
def ah5(P:Program)(t t2:TypeId)(a:AV)(s:AS):List Hn->HO
 | .w v::hs=>some (v,s,hs,[.cv t t2 a v])
 | hs=>(match Wi P t t2 a with
   | some v=>some (v,s,hs,[])
   | none=>none)
def v7(P:Program)(G:Bc)(fr:List AV)(s:AS)(o:Oper)(hs:List Hn):HO :=
 match o.op with
 | .binOp op t x y _=>(match AZ G fr x with
   | some a=>(match AZ G fr y with
     | some b=>alY P op t x y a b s hs
     | none=>none)
   | none=>none)
 | .indexAddr t x i=>(match AZ G fr x with
   | some a=>(match AZ G fr i with
     | some b=>al1 P t a b s hs
     | none=>none)
   | none=>none)
 | .index t x i=>(match AZ G fr x with
   | some a=>(match AZ G fr i with
     | some b=>al2 P t a b s hs
     | none=>none)
   | none=>none)
 | .convert t t2 x=>(match AZ G fr x with
   | some (.sl o n cs)=>ah5 P t t2 (.sl o n cs) s hs
   | _=>LH (UE P G fr s o) hs)
 | .lookup t x k ok=>(match AZ G fr x with
   | some a=>(match AZ G fr k with
     | some b=>ah7 t a b ok s hs
     | none=>none)
   | none=>none)
 | .mapUpdate t m k x=>(match AZ G fr m with
   | some a=>(match AZ G fr k with
     | some b=>(match AZ G fr x with
       | some v=>ajx t a b v s hs
       | none=>none)
     | none=>none)
   | none=>none)
 | .load t x=>abf t (Bg G fr x) s (UE P G fr s o) hs
 | .store t x y=>oG t (Bg G fr x) (Bg G fr y) s (UE P G fr s o) hs
 | .makeSlice t x y=>abh t (Bg G fr x) (Bg G fr y) s (UE P G fr s o) hs
 | .slice t x lo hi mx=>ajy t (Bg G fr x) (gY G fr lo) (gY G fr hi) (gY G fr mx) s (UE P G fr s o) hs
 | .call cl=>(match cl.callee with
   | .value _=>Yw s (UE P G fr s o) hs
   | .builtin .append=>(match cl.args.toList,cl.argTypes.toList with
     | [x,y],[t,tx]=>(match AZ G fr x with
       | some a=>(match AZ G fr y with
         | some b=>abc s t tx a b hs
         | none=>none)
       | none=>none)
     | _,_=>none)
   | _=>LH (UE P G fr s o) hs)
 | _=>LH (UE P G fr s o) hs
def aM(P:Program)(G:Bc)(ops:Array Oper)(fr:List AV)(s:AS)(o:Oper)(hs:List Hn):HO :=
 match CG ops fr o with
 | true=>v7 P G fr s o hs
 | false=>some (.sc undef,s,hs,[])
section
variable {P:Program} {G:Bc} {ops:Array Oper}
def VJ{r:Option AR}{hs CW:List Hn}{v:AV}{s:AS}{cd:List Cd}(h:LH r hs=some (v,s,CW,cd)):r=some (.val v s):=by
 unfold LH at h;split at h;cases h;rfl;cases h
def abg{t:TypeId}{a:Option AV}{r:Option AR}{hs CW:List Hn}{v:AV}{s s1:AS}{cd:List Cd}(h:abf t a s r hs=some (v,s1,CW,cd))(hc:RN P G cd):(∃a',a=some a'/\K8 P s t a'=some v/\s1=s)\/LH r hs=some (v,s1,CW,cd):=by
 unfold abf at h;split at h;split at h;cases h;exact .inl ⟨_,rfl,hc.1,rfl⟩;cases h;split at h;cases h;exact .inl ⟨_,rfl,hc.1 _ _ (List.cons.inj hc.2.1.1).1,rfl⟩;cases h;exact .inr h
def VK{t:TypeId}{a x:Option AV}{r:Option AR}{hs CW:List Hn}{v:AV}{s s1:AS}{cd:List Cd}(h:oG t a x s r hs=some (v,s1,CW,cd))(hc:RN P G cd):(∃a' x',a=some a'/\x=some x'/\Md P s t a' x'=some s1/\v=.sc undef)\/LH r hs=some (v,s1,CW,cd):=by
 unfold oG at h;split at h;split at h;cases h;exact .inl ⟨_,_,rfl,rfl,hc.1,rfl⟩;cases h;split at h;cases h;exact .inl ⟨_,_,rfl,rfl,hc.1 _ _ (List.cons.inj hc.2.1.1).1,rfl⟩;cases h;exact .inr h
def abi{t:TypeId}{a x:Option AV}{r:Option AR}{hs CW:List Hn}{v:AV}{s s1:AS}{cd:List Cd}(h:abh t a x s r hs=some (v,s1,CW,cd))(hc:RN P G cd):(∃a' x',a=some a'/\x=some x'/\∃s0,JN P s t a' x'=some (v,s0)/\∀cx w,St G cx w s0->St G cx w s1)\/LH r hs=some (v,s1,CW,cd):=by
 unfold abh at h;split at h;split at h;cases h;exact .inl ⟨_,_,rfl,rfl,_,hc.1,λ_ _ h=>h⟩;cases h;split at h;cases h;obtain⟨m0,h1,h2⟩:=hc.1 s;refine .inl ⟨_,_,rfl,rfl,_,h1,λcx w hs=>?_⟩;have:=hs.xI (id:=s.nx) (b:=m0) (b2:=_) (by simp[AS.new,look]) (λo ho=>h2 cx w o ho);simpa[AS.new,uO] using this
 cases h;exact .inr h
def afh{t:TypeId}{a:Option AV}{l k m:Option (Option AV)}{r:Option AR}{hs CW:List Hn}{v:AV}{s s1:AS}{cd:List Cd}(h:ajy t a l k m s r hs=some (v,s1,CW,cd))(hc:RN P G cd):(∃a' l' k' m',a=some a'/\l=some l'/\k=some k'/\m=some m'/\KX P t a' l' k' m'=some v/\s1=s)\/LH r hs=some (v,s1,CW,cd):=by
 unfold ajy at h;split at h;split at h;cases h;exact .inl ⟨_,_,_,_,rfl,rfl,rfl,rfl,hc.1,rfl⟩;cases h;exact .inr h
def ajv{fr:List AV}{s s1:AS}{o:Oper}{hs CW:List Hn}{v:AV}{cd:List Cd}(hw:CG ops fr o=true)(h:v7 P G fr s o hs=some (v,s1,CW,cd))(hc:RN P G cd):J P G (XS P G) H0 (.op ops o fr s (.ret v) s1):=by
 have T9:LH (UE P G fr s o) hs=some (v,s1,CW,cd)->J P G (XS P G) H0 (.op ops o fr s (.ret v) s1):=λh=>by
   have:=VJ h;rw[Nz] at this;exact .Oi hw this
 unfold v7 at h;split at h;rename_i op t x y z ho;rw[Cy,Cy] at h;split at h;rename_i a ha;split at h;rename_i b hb
 have fin:∀v',Ly P op t x y a b=some v'->s1=s->v=v'->J P G (XS P G) H0 (.op ops o fr s (.ret v) s1):=by
   intro v' h1 h2 h3;subst h2 h3;refine .Oi hw ?_;unfold QK;rw[ho];simp only[ha,hb,h1,Option.map_some]
 unfold alY at h;rw[N2] at h;split at h;split at h;rename_i h1;cases h;exact fin _ h1 rfl rfl;cases h;split at h;rename_i h1;cases h;have e:_=_:=hc.1;subst e;exact fin _ h1 rfl rfl;cases h;split at h;rename_i h1;cases h;have e:_=_:=hc.1;subst e;exact fin _ h1 rfl rfl;cases h;cases h;exact fin _ hc.1 rfl rfl;cases h;cases h;cases h;rename_i t x i ho;rw[Cy,Cy] at h;split at h;rename_i a ha;split at h;rename_i b hb
 have fin:∀v',DE P t a b=some v'->s1=s->v=v'->J P G (XS P G) H0 (.op ops o fr s (.ret v) s1):=by
   intro v' h1 h2 h3;subst h2 h3;refine .Oi hw ?_;unfold QK;rw[ho];simp only[ha,hb,h1,Option.map_some]
 unfold al1 at h;split at h;split at h;rename_i h1;cases h;exact fin _ h1 rfl rfl;cases h;cases h;exact fin _ hc.1 rfl rfl;cases h;cases h;cases h;rename_i t x i ho;rw[Cy,Cy] at h;split at h;rename_i a ha;split at h;rename_i b hb
 have fin:∀v',Lz P t a b=some v'->s1=s->v=v'->J P G (XS P G) H0 (.op ops o fr s (.ret v) s1):=by
   intro v' h1 h2 h3;subst h2 h3;refine .Oi hw ?_;unfold QK;rw[ho];simp only[ha,hb,h1,Option.map_some]
 unfold al2 at h;split at h;split at h;rename_i h1;cases h;exact fin _ h1 rfl rfl;cases h;cases h;exact fin _ hc.1 rfl rfl;cases h;cases h;cases h;rename_i t t2 x ho;rw[Cy] at h;split at h;rename_i ow n cs ha
 have fin:∀v',Wi P t t2 (.sl ow n cs)=some v'->s1=s->v=v'->J P G (XS P G) H0 (.op ops o fr s (.ret v) s1):=by
   intro v' h1 h2 h3;subst h2 h3;refine .Oi hw ?_;unfold QK;rw[ho];simp only[ha,Option.bind_some,h1,Option.map_some]
 unfold ah5 at h;split at h;cases h;exact fin _ hc.1 rfl rfl;split at h;rename_i h1;cases h;exact fin _ h1 rfl rfl;cases h;exact T9 h;rename_i t x k ok ho;rw[Cy,Cy] at h;split at h;rename_i a ha;split at h;rename_i b hb
 have h1:Jp P s t a b ok=some v/\s1=s:=by
   unfold ah7 at h;split at h;cases h;exact⟨hc.1,rfl⟩;split at h;cases h;refine⟨hc.1 _ _ ?_,rfl⟩;have h2:=hc.2.1.1;simpa using h2
   cases h;cases h
 obtain⟨h1,rfl⟩:=h1;refine .Oi hw ?_;unfold QK;rw[ho];simp only[ha,hb,h1,Option.map_some];cases h;cases h;rename_i t m k x ho;rw[Cy,Cy,Cy] at h;split at h;rename_i a ha;split at h;rename_i b hb;split at h;rename_i x' hx
 have h1:KR P s t a b x'=some s1/\v=.sc undef:=by
   unfold ajx at h;split at h;cases h;exact⟨hc.1,rfl⟩;split at h;cases h;refine⟨hc.1 _ _ ?_,rfl⟩;have h2:=hc.2.1.1;simpa using h2
   cases h;cases h
 obtain⟨h1,rfl⟩:=h1;refine .Oi hw ?_;unfold QK;rw[ho];simp only[ha,hb,hx,h1,Option.map_some];cases h;cases h;cases h;rename_i t x ho;rcases abg h hc with ⟨a,ha,h1,rfl⟩ | h1
 refine .Oi hw ?_;unfold QK;rw[ho];simp only[ha,Option.bind_some,h1,Option.map_some];exact T9 h1;rename_i t x y ho;rcases VK h hc with ⟨a,b,ha,hb,h1,rfl⟩ | h1
 refine .Oi hw ?_;unfold QK;rw[ho];simp only[ha,hb,h1,Option.map_some];exact T9 h1;rename_i t x y ho;rcases abi h hc with ⟨a,b,ha,hb,s0,h1,h2⟩ | h1
 refine .fE ?_ (.Oi (s':=s0) hw ?_) h2;simp only[quiet,ho];unfold QK;rw[ho];simp only[ha,hb,h1,Option.map_some];exact T9 h1;rename_i t x lo hi mx ho;rcases afh h hc with ⟨a,l,k,m,ha,hl,hk,hm,h1,rfl⟩ | h1
 refine .Oi hw ?_;unfold QK;rw[ho];simp only[ha,hl,hk,hm,h1,Option.map_some];exact T9 h1;rename_i cl ho;split at h;unfold Yw at h;split at h;split at h;rename_i h1;cases h;rw[Nz] at h1;exact .Sy hw h1 (.ext (hc.1 s));cases h;split at h;rename_i h1;cases h;rw[Nz] at h1;exact .Sy hw h1 (.ext hc.1);cases h;split at h;rename_i h1;cases h;rw[Nz] at h1;exact .Sy hw h1 (.ext (hc.1 s hc.2.1.1 hc.2.1.2));cases h;split at h;rename_i h1;cases h;rw[Nz] at h1;exact .Sy hw h1 (.ext (hc.1 s rfl rfl));cases h;cases h;rename_i IF;split at h;rename_i x y t tx hxs D9;rw[Cy,Cy] at h;split at h;rename_i a ha;split at h;rename_i b hb
 have fin:∀v0,Mp P s t tx a b=some (v0,s1)->(∀c w u,Rp c w v0 u->Rp c w v u)->J P G (XS P G) H0 (.op ops o fr s (.ret v) s1):=by
   intro v0 h1 h2;refine .p4 (v:=v0) ?_ (.Oi hw ?_) h2;simp only[quiet,ho,IF];unfold QK;rw[ho];simp only[Tq,IF,hxs,D9,ha,hb,h1,Option.map_some]
 unfold abc at h;split at h;cases h;exact .acu hw ho IF hxs D9 ha hb (hc.1 s);cases h;obtain⟨v0,h1,h2⟩:=hc.1;exact fin v0 h1 h2;cases h;obtain⟨v0,h1,h2⟩:=hc.1;exact fin v0 h1 h2;cases h;obtain⟨v0,h1,h2⟩:=hc.1 s;exact fin v0 h1 h2;split at h;cases h;obtain⟨cs0,h1,h2⟩:=hc.1 s rfl;exact fin _ h1 (λc w u=>h2 c w u _);rename_i r z n cs;split at h;rename_i m hm;split at h;rename_i hz;have hz:=beq_true hz;subst hz;cases h;have e:m=n:=hc.2.1;subst e;obtain⟨cs0,h1,h2⟩:=hc.1 s (by simp[Oh,hm]);exact fin _ h1 (λc w u=>h2 c w u _);cases h;cases h;cases h;cases h;cases h;cases h;cases h;exact T9 h;exact T9 h
def PD{fr:List AV}{s s1:AS}{o:Oper}{hs CW:List Hn}{v:AV}{cd:List Cd}(h:aM P G ops fr s o hs=some (v,s1,CW,cd))(hc:RN P G cd):J P G (XS P G) H0 (.op ops o fr s (.ret v) s1):=by
 unfold aM at h;split at h;rename_i hw;exact ajv hw h hc;rename_i hw;cases h;exact .pY hw
end
end AI
