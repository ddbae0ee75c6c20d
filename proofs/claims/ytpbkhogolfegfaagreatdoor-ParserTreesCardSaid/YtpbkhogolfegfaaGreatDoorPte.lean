/- Part of a proof: see the last text. -/
import Derived.Test.YtpbkhogolfegfaaGreatDoorPtd
import Derived.LoopN
set_option linter.unusedVariables false
set_option linter.unusedSimpArgs false
set_option linter.defProp false
noncomputable section
namespace AI
open Go Go.RowKit
inductive AX where
 | normal
 | exit (id:Nat)
 | ret
 | IL (v:AV)
inductive CR where
 | ret (v:AV)
 | IL (v:AV)
def Cv(ops:Array Oper)(fr:List AV)(o:Oper):Bool:=match o.guard with
 | none=>true
 | some (j,want)=>match (ops[j]?).bind (·.dst) with
   | some d=>match fr[d]? with
     | some (.sc (.bool b))=>b == want
     | _=>false
   | none=>false
def EL(id:Nat):AX->AX
 | .exit QO=>if QO=id then .normal else .exit QO
 | e=>e
def Rh(P:Program)(s:AS)(fr:List AV):ResultVar->Option AV
 | .tmp t=>some (fr.getD t (.sc undef))
 | .cell t ty=>Jg P s ty (fr.getD t (.sc undef))
def Nj(P:Program)(s:AS)(fr:List AV):List ResultVar->Option (List AV)
 | []=>some []
 | r::rs=>match Rh P s fr r,Nj P s fr rs with
   | some a,some as=>some (a::as)
   | _,_=>none
def Gn(P:Program)(s:AS)(fn:Func)(fr:List AV):Option AV:=match Nj P s fr fn.results.toList with
 | some [a]=>some a
 | some as=>some (.Dk as)
 | none=>none
inductive Jd where
 | code (c:Code) (fr:List AV) (s:AS) (e:AX) (B8:List AV) (s':AS)
 | loop (c:Code) (fr:List AV) (s:AS) (e:AX) (B8:List AV) (s':AS)
 | ops (ops:Array Oper) (l:List Nat) (fr:List AV) (s:AS) (e:AX) (B8:List AV) (s':AS)
 | op (ops:Array Oper) (o:Oper) (fr:List AV) (s:AS) (r:CR) (s':AS)
 | call (f:FuncId) (args:List AV) (s:AS) (r:CR) (s':AS)
def Ch(ops:Array Oper)(i:Nat):Option Tmp:=(ops[i]?).bind (·.dst)
def Ya(ops:Array Oper)(i:Nat):Prop:=∃o,ops[i]?=some o/\calm o.op=false
def Win(ops:Array Oper)(i k:Nat):Prop:=(∀l,Ya ops l->RZ (Hz ops.toList []) i l=true->l < k)/\(∀l,Ya ops l->RZ (Hz ops.toList []) l i=true->k<=l)
abbrev Wb:=FuncId->List AV->AS->CR->AS->Prop
abbrev S0:=FuncId->List AV->Option (FuncId×List AV×(CR->Option CR))
def aia(P:Program)(G:A6)(t tx:TypeId)(a b:AV)(s:AS)(v:AV)(s':AS):Prop:=∀(c:Cx) (w:World) (va vb:Value) (ty:TypeId),St G c w s->Rp c w a va->Rp c w b vb ->
 ∃u w' c',(Builtin.append_ #[t,tx] ty #[va,vb]).run P w=.ok u w'/\Ext c w c' w'/\St G c' w' s'/\Rp c' w' v u
def akM(G:A6)(c:Cx)(w:World)(r:CR)(s':AS)(e:Ending)(w':World):Prop :=
 ∃c',Ext c w c' w'/\St G c' w' s'/\match r with
   | .ret v=>∃u,e=.returned u/\Rp c' w' v u
   | .IL v=>∃u,e=.panicked [{ v:=u,recovered:=false }]/\Rp c' w' v u
def SB(G:A6)(c:Cx)(w:World)(e:AX)(B8:List AV)(s':AS)(e':Exit)(a':Act)(w':World):Prop :=
 ∃c',Ext c w c' w'/\St G c' w' s'/\a'.defers=[]/\match e with
   | .normal=>e'=.normal/\CG c' w' B8 a'.tmps.toList
   | .exit id=>e'=.exit id/\CG c' w' B8 a'.tmps.toList
   | .ret=>e'=.ret/\CG c' w' B8 a'.tmps.toList
   | .IL v=>∃u,e'=.panic [{ v:=u,recovered:=false }]/\Rp c' w' v u
def SB.ext{G:A6}{c c1:Cx}{w w1:World}{e:AX}{B8:List AV}{s':AS}{e':Exit}{a':Act}{w':World}(x:Ext c w c1 w1)(h:SB G c1 w1 e B8 s' e' a' w'):SB G c w e B8 s' e' a' w':=by
 obtain⟨c',h1,h2⟩:=h;exact⟨c',x.trans h1,h2⟩
def Mj(P:Program)(ops:Array Oper)(o:Oper)(K:Act->World->Prop)(Q:Exit->Act->World->Prop)(a:Act)(w:World):Prop :=
 if Region.wanted o (yielded ops a.tmps) then o.wp P a w K Q else K (a.put o.dst undef) w
def Sound(P:Program)(G:A6):Jd->Prop
 | .code c fr s e B8 s'=>∀(cx:Cx) (w:World) (a:Act) (Q:Exit->Act->World->Prop),St G cx w s->CG cx w fr a.tmps.toList->a.defers=[]->(∀e' a' w',SB G cx w e B8 s' e' a' w'->Q e' a' w')->c.wp P Q a w
 | .loop c fr s e B8 s'=>∃n,∀(cx:Cx) (w:World) (a:Act) (Q:Exit->Act->World->Prop),St G cx w s->CG cx w fr a.tmps.toList->a.defers=[]->(∀e' a' w',SB G cx w e B8 s' e' a' w'->Q e' a' w')->Code.rounds P c Q n a w
 | .ops ops l fr s e B8 s'=>∀(cx:Cx) (w:World) (a:Act) (Q:Exit->Act->World->Prop),St G cx w s->CG cx w fr a.tmps.toList->a.defers=[]->(∀e' a' w',SB G cx w e B8 s' e' a' w'->Q e' a' w')->wpOps P ops Q l a w
 | .op ops o fr s r s'=>∀(cx:Cx) (w:World) (a:Act) (K:Act->World->Prop) (Q:Exit->Act->World->Prop),St G cx w s->(∀x∈o.op.operands,Y4 G cx w fr a.eval x)->Cv ops fr o=Region.wanted o (yielded ops a.tmps) ->
     (match r with
       | .ret v=>∀u w' c',Ext cx w c' w'->St G c' w' s'->Rp c' w' v u->K (a.put o.dst u) w'
       | .IL v=>∀u w' c',Ext cx w c' w'->St G c' w' s'->Rp c' w' v u->Q (.panic [{ v:=u,recovered:=false }]) a w')->Mj P ops o K Q a w
 | .call f args s r s'=>∀(cx:Cx) (w:World) (vs:List Value),St G cx w s->CG cx w args vs->Calls P f vs.toArray w (akM G cx w r s')
inductive J(P:Program)(G:A6)(X:Wb)(H:S0):Jd->Prop where
 | skip {fr:List AV} {s:AS}:J P G X H (.code .skip fr s .normal fr s)
 | exit {id:Nat} {fr:List AV} {s:AS}:J P G X H (.code (.exit id) fr s (.exit id) fr s)
 | ret {fr:List AV} {s:AS}:J P G X H (.code .ret fr s .ret fr s)
 | seq {x y:Code} {fr U9 B8:List AV} {s s1 s':AS} {e:AX} (h1:J P G X H (.code x fr s .normal U9 s1)) (h2:J P G X H (.code y U9 s1 e B8 s')):J P G X H (.code (.seq x y) fr s e B8 s')
 | oU {x y:Code} {fr B8:List AV} {s s':AS} {e:AX} (h1:J P G X H (.code x fr s e B8 s')) (he:e≠.normal):J P G X H (.code (.seq x y) fr s e B8 s')
 | cond {q:Operand} {x y:Code} {t:Bool} {fr B8:List AV} {s s':AS} {e:AX} (hq:A8 G fr q=some (.sc (.bool t))) (h:J P G X H (.code (if t then x else y) fr s e B8 s')):J P G X H (.code (.cond q x y) fr s e B8 s')
 | block {id:Nat} {c:Code} {fr B8:List AV} {s s':AS} {e:AX} (h:J P G X H (.code c fr s e B8 s')):J P G X H (.code (.block id c) fr s (EL id e) B8 s')
 | loop {c:Code} {fr B8:List AV} {s s':AS} {e:AX} (h:J P G X H (.loop c fr s e B8 s')):J P G X H (.code (.loop c) fr s e B8 s')
 | ahJ {c:Code} {fr U9 B8:List AV} {s s1 s':AS} {e:AX} (h1:J P G X H (.code c fr s .normal U9 s1)) (h2:J P G X H (.loop c U9 s1 e B8 s')):J P G X H (.loop c fr s e B8 s')
 | rF {c:Code} {fr B8:List AV} {s s':AS} {e:AX} (h1:J P G X H (.code c fr s e B8 s')) (he:e≠.normal):J P G X H (.loop c fr s e B8 s')
 | region {id:Nat} {ops:Array Oper} {fr B8:List AV} {s s':AS} {e:AX} (h:J P G X H (.ops ops (List.range ops.size) fr s e B8 s')):J P G X H (.code (.region id ops false) fr s e B8 s')
 | abQ {ops:Array Oper} {fr:List AV} {s:AS}:J P G X H (.ops ops [] fr s .normal fr s)
 | rV {ops:Array Oper} {i:Nat} {l:List Nat} {o:Oper} {v:AV} {fr B8:List AV} {s s1 s':AS} {e:AX} (ho:ops[i]?=some o) (h:J P G X H (.op ops o fr s (.ret v) s1)) (t:J P G X H (.ops ops l (Ir fr o.dst v) s1 e B8 s')):J P G X H (.ops ops (i::l) fr s e B8 s')
 | abR {ops:Array Oper} {i:Nat} {l:List Nat} {o:Oper} {v:AV} {fr:List AV} {s s1:AS} (ho:ops[i]?=some o) (h:J P G X H (.op ops o fr s (.IL v) s1)):J P G X H (.ops ops (i::l) fr s (.IL v) fr s1)
 | ND {ops:Array Oper} {o:Oper} {fr:List AV} {s s':AS} {v:AV} (hw:Cv ops fr o=true) (h:PX P G fr s o=some (.val v s')):J P G X H (.op ops o fr s (.ret v) s')
 | oE {ops:Array Oper} {o:Oper} {fr:List AV} {s s':AS} {v v2:AV} (hq:quiet o.op=false) (h:J P G X H (.op ops o fr s (.ret v) s')) (hv:∀cx w u,Rp cx w v u->Rp cx w v2 u):J P G X H (.op ops o fr s (.ret v2) s')
 | dA {ops:Array Oper} {o:Oper} {fr:List AV} {s s1 s2:AS} {v:AV} (hq:quiet o.op=false) (h:J P G X H (.op ops o fr s (.ret v) s1)) (hs:∀cx w,St G cx w s1->St G cx w s2):J P G X H (.op ops o fr s (.ret v) s2)
 | abP {ops:Array Oper} {o:Oper} {fr:List AV} {s s':AS} {cl:Call} {x y:Operand} {t tx:TypeId} {a b v:AV} (hw:Cv ops fr o=true) (ho:o.op=.call cl) (Ih:cl.callee=.builtin .append) (hx:cl.args.toList=[x,y]) (ht:cl.argTypes.toList=[t,tx]) (ha:A8 G fr x=some a) (hb:A8 G fr y=some b) (h:aia P G t tx a b s v s'):J P G X H (.op ops o fr s (.ret v) s')
 | oD {ops:Array Oper} {o:Oper} {fr:List AV} {s:AS} (hw:Cv ops fr o=false):J P G X H (.op ops o fr s (.ret (.sc undef)) s)
 | RG {ops:Array Oper} {o:Oper} {fr:List AV} {s s':AS} {f:FuncId} {args:List AV} {r:CR} (hw:Cv ops fr o=true) (h:PX P G fr s o=some (.ent f args)) (hc:J P G X H (.call f args s r s')):J P G X H (.op ops o fr s r s')
 | ahN {ops:Array Oper} {o:Oper} {fr:List AV} {s:AS} {v:AV} (hw:Cv ops fr o=true) (h:PX P G fr s o=some (.IL v)):J P G X H (.op ops o fr s (.IL v) s)
 | draw {id:Nat} {ops:Array Oper} {f0:List AV} {s0:AS} (rs:List AL) (vals:Nat->AV) (MF:Nat->AS) (h0:MF 0=s0.hold rs) (Hh:L2 ops=true)
     (hl:∀i o,ops[i]?=some o->calm o.op=false->J P G X H (.op ops o (Ii f0 (Ch ops) vals (λ_=>true) i) (MF i) (.ret (vals i)) (MF (i+1))))
     (hq:∀i o,ops[i]?=some o->quiet o.op=true->MF (i+1)=MF i/\((Cv ops (Ii f0 (Ch ops) vals (λ_=>true) i) o=false/\vals i=.sc undef)\/(Cv ops (Ii f0 (Ch ops) vals (λ_=>true) i) o=true/\∀k,k<=ops.size->Win ops i k->PX P G (Ii f0 (Ch ops) vals (λ_=>true) i) (MF k) o=some (.val (vals i) (MF k)))))
     (ha:∀i o e,ops[i]?=some o->o.op=.alloc e->MF (i+1)=MF i/\((Cv ops (Ii f0 (Ch ops) vals (λ_=>true) i) o=false/\vals i=.sc undef)\/(Cv ops (Ii f0 (Ch ops) vals (λ_=>true) i) o=true/\∃z,LY P e=some z/\rk ops i < rs.length/\vals i=.ptr (s0.nx+rk ops i) 0/\∀k,k<=ops.size->Win ops i k->(MF k).get (s0.nx+rk ops i)=some (.cells (cellsOf z))))) :
     J P G X H (.code (.region id ops true) f0 s0 .normal (Ii f0 (Ch ops) vals (λ_=>true) ops.size) (MF ops.size))
 | body {f:FuncId} {fn:Func} {c:Code} {args B8:List AV} {s s' s2:AS} {e:AX} {v:AV} (hf:P.funcs[f]?=some fn) (hb:fn.body=some c) (h:J P G X H (.code c (args++List.replicate (fn.ntmps - args.length) (.sc undef)) s e B8 s')) (he:e=.normal\/e=.ret) (hr:Gn P s' fn B8=some v) (hk:s2=s'.cut s.nx\/s2=s'):J P G X H (.call f args s (.ret v) s2)
 | ahg {f:FuncId} {fn:Func} {c:Code} {args B8:List AV} {s s':AS} {v:AV} (hf:P.funcs[f]?=some fn) (hb:fn.body=some c) (h:J P G X H (.code c (args++List.replicate (fn.ntmps - args.length) (.sc undef)) s (.IL v) B8 s')):J P G X H (.call f args s (.IL v) (s'.cut s.nx))
 | ext {f:FuncId} {args:List AV} {s s':AS} {r:CR} (h:X f args s r s'):J P G X H (.call f args s r s')
 | YR {c:Code} {fr fr2 B8:List AV} {s s2 s':AS} {e:AX} (hw:∀cx w vs,St G cx w s->CG cx w fr vs->∃zQ,Ext cx w zQ w/\St G zQ w s2/\CG zQ w fr2 vs) (h:J P G X H (.code c fr2 s2 e B8 s')):J P G X H (.code c fr s e B8 s')
 | ah8 {c:Code} {fr fr2 B8:List AV} {s s2 s':AS} {e:AX} (hw:∀cx w vs,St G cx w s->CG cx w fr vs->∃zQ,Ext cx w zQ w/\St G zQ w s2/\CG zQ w fr2 vs) (h:J P G X H (.loop c fr2 s2 e B8 s')):J P G X H (.loop c fr s e B8 s')
 | scope {c:Code} {fr fr2 B8:List AV} {s s2 s':AS} {e:AX} (h:J P G X H (.code c fr s e B8 s')) (he:∀v,e≠.IL v) (hs:∀cx w c' w' vs,Ext cx w c' w'->St G cx w s->St G c' w' s'->CG c' w' B8 vs->∃c2,Ext cx w c2 w'/\St G c2 w' s2/\CG c2 w' fr2 vs):J P G X H (.code c fr s e fr2 s2)
 | ai4 {f g:FuncId} {args XG:List AV} {k:CR->Option CR} {s s':AS} {r r':CR} (hh:H f args=some (g,XG,k)) (h:J P G X H (.call g XG s r s')) (hk:k r=some r'):J P G X H (.call f args s r' s')
 | sem {c:Code} {fr B8:List AV} {s s':AS} {e:AX} (h:P.follows .mixedOrders=true->Sound P G (.code c fr s e B8 s')):J P G X H (.code c fr s e B8 s')
def Nl{ops:Array Oper}{fr:List AV}{o:Oper}{c:Cx}{w:World}{tmps:Array Value}(h:∀j want,o.guard=some (j,want)->∀d,(ops[j]?).bind (·.dst)=some d->∃M,CG c w M tmps.toList/\M[d]?=fr[d]?):Cv ops fr o=Region.wanted o (yielded ops tmps):=by
 unfold Cv Region.wanted;cases hg:o.guard with
 | none=>rfl
 | some p =>
   obtain⟨j,want⟩:=p;simp only;unfold yielded;cases hd:(ops[j]?).bind (·.dst) with
   | none=>simp
   | some d =>
     obtain⟨M,hM,he⟩:=h j want hg d hd;simp only[Option.bind_some];rw[<- he];cases hm:M[d]? with
     | none =>
       have hl:=hM.len;have h1:=List.getElem?_eq_none_iff.1 hm;have h2:tmps[d]?=none:=Array.getElem?_eq_none (by rw[<- Array.length_toList];omega);simp[h2]
     | some b =>
       obtain⟨u,hu,hr⟩:=hM.get hm;rw[Array.getElem?_toList] at hu;rw[hu];cases hr with
       | sc hs=>cases u<;>simp
       | any hs=>cases u<;>first | (simp[Wy] at hs;done) | simp
       | _=>simp
def v8(tmps:Array Value):ResultVar->Sem Value
 | .tmp t=>pure (tmps.getD t undef)
 | .cell a t=>do loadVar t (<- asAddr (tmps.getD a undef))
def Tz(fn:Func)(tmps:Array Value):results fn tmps=(do
 let vs <- fn.results.mapM (v8 tmps)
 pure (if h:vs.size=1 then vs[0] else .tuple vs)):=by
 unfold results;congr 2
def fQ{P:Program}{G:A6}{c:Cx}{w:World}{s:AS}{fr:List AV}{tmps:Array Value}(hs:St G c w s)(hf:CG c w fr tmps.toList){r:ResultVar}{v:AV}(h:Rh P s fr r=some v) :
   ∃u,(v8 tmps r).run P w=.ok u w/\Rp c w v u:=by
 have ht:∀t,Rp c w (fr.getD t (.sc undef)) (tmps.getD t undef):=λt=>Er (G:=G) (s:=s) (a:=⟨tmps,[]⟩) (x:=.tmp t) hs hf rfl;cases r with
 | tmp t=>simp only[Rh,Option.some.injEq] at h;subst h;exact⟨_,rfl,ht t⟩
 | cell t ty =>
   obtain⟨u,h1,h2⟩:=fM hs h (ht t);refine⟨u,?_,h2⟩;have hr:=ht t;simp only[Instr.loadAt,Sem.run_bind] at h1;simp only[v8,Sem.run_bind];generalize tmps.getD t undef=x at hr h1;simp only[Rh] at h;unfold Jg at h;split at h;rename_i Pd;rw[Pd] at hr;cases hr;simpa[asAddr,Instr.sureAddr] using h1
   rename_i Pd;rw[Pd] at hr;cases hr;simpa[asAddr,Instr.sureAddr] using h1
   cases h
def fR{P:Program}{G:A6}{c:Cx}{w:World}{s:AS}{fr:List AV}{tmps:Array Value}(hs:St G c w s)(hf:CG c w fr tmps.toList)(rs:List ResultVar){vs:List AV}(h:Nj P s fr rs=some vs) :
   ∃us,(rs.mapM (v8 tmps)).run P w=.ok us w/\CG c w vs us:=by
 induction rs generalizing vs with
 | nil=>simp[Nj] at h;subst h;exact⟨[],rfl,.nil⟩
 | cons r rs ih =>
   simp only[Nj] at h;split at h;rename_i a as h1 h2;cases h;obtain⟨u,hu,hr⟩:=fQ hs hf h1;obtain⟨us,hus,hrs⟩:=ih h2;refine⟨u::us,?_,.cons hr hrs⟩;rw[List.mapM_cons];simp only[Sem.run_bind,hu,Result.andThen_ok,hus,Sem.run_pure];cases h
def Ri{P:Program}{G:A6}{c:Cx}{w:World}{s:AS}{fr:List AV}{tmps:Array Value}{fn:Func}{v:AV}(hs:St G c w s)(hf:CG c w fr tmps.toList)(h:Gn P s fn fr=some v):∃u,(results fn tmps).run P w=.ok u w/\Rp c w v u:=by
 unfold Gn at h;cases hl:Nj P s fr fn.results.toList with
 | none=>rw[hl] at h;cases h
 | some as =>
   rw[hl] at h;obtain⟨us,hus,hrs⟩:=fR hs hf _ hl;have hlen:=hrs.len
   have Q5:(results fn tmps).run P w=.ok (if h:us.toArray.size=1 then us.toArray[0] else .tuple us.toArray) w:=by
     rw[Tz,Array.mapM_eq_mapM_toList];simp only[Sem.run_bind,Sem.run_map,hus,Result.andThen_ok,Sem.run_pure]
   rw[Q5];split at h;rename_i a Pd;cases Pd;cases h;cases hrs with
   | cons h1 t=>cases t;exact⟨_,rfl,h1⟩
   rename_i as' Is Pd;cases Pd;cases h
   have:¬us.toArray.size=1:=by
     intro h1;simp at h1;obtain⟨a,ha⟩:=List.length_eq_one_iff.1 (hlen.symm.trans h1);exact Is a ha
   rw[dif_neg this];exact⟨_,rfl,.Dk hrs⟩;rename_i Pd;cases Pd
end AI
namespace AI
open Go Go.RowKit
def fZ(L:Nat->Bool):Nat->Nat
 | 0=>0
 | n+1=>fZ L n+if L n then 0 else 1
def gE{L:Nat->Bool}:∀(n:Nat),fZ L n=0->∀i,i < n->L i=true:=by
 intro n
 induction n with
 | zero=>intro _ i hi;omega
 | succ n ih =>
   intro h i hi;simp only[fZ] at h;by_cases hn:i=n;subst hn;by_cases hL:L i=true;exact hL;simp[hL] at h;exact ih (by omega) i (by omega)
def pV{L M:Nat->Bool}{i:Nat}(h0:L i=false)(h1:M i=true)(Is:∀j,j≠i->M j=L j):∀(n:Nat),(i < n->fZ L n=fZ M n+1)/\(n<=i->fZ L n=fZ M n):=by
 intro n
 induction n with
 | zero=>exact⟨λh=>by omega,λ_=>rfl⟩
 | succ n ih =>
   refine⟨λh=>?_,λh=>?_⟩;simp only[fZ];by_cases hn:n=i;subst hn;rw[ih.2 (Nat.le_refl _),h0,h1];simp;rw[ih.1 (by omega),Is n hn];omega;simp only[fZ];rw[ih.2 (by omega),Is n (by omega)]
def oY{ops:Array Oper}{MF:Nat->AS}(hq:∀i o,ops[i]?=some o->calm o.op=true->MF (i+1)=MF i){x:Nat}:∀(y:Nat),x<=y->y<=ops.size->(∀m,x<=m->m < y->¬Ya ops m)->MF x=MF y:=by
 intro y
 induction y with
 | zero=>intro h _ _;have:x=0:=by omega
         subst this;rfl
 | succ y ih =>
   intro h hn hl;by_cases e:x=y+1;subst e;rfl;rw[ih (by omega) (by omega) (λm h1 h2=>hl m h1 (by omega))];have ho:ops[y]?=some (ops[y]'(by omega)):=Array.getElem?_eq_getElem (by omega);have hy:=hl y (by omega) (by omega);refine(hq y _ ho ?_).symm;cases hqq:calm (ops[y]'(by omega)).op with
   | true=>rfl
   | false=>exact absurd ⟨_,ho,hqq⟩ hy
def mem_ready{ops:Array Oper}{L:Array Bool}(Oo:L.size=ops.size){i:Nat}(h:i∈Region.ready .any ops L):∃o,ops[i]?=some o/\L.getD i false=false/\Met (λj=>L.getD j false) o/\i < ops.size:=by
 unfold Region.ready at h;rw[List.mem_filter,List.mem_range,Bool.and_eq_true] at h;obtain⟨h1,h2,h3⟩:=h;have ho:ops[i]?=some (ops[i]'h1):=Array.getElem?_eq_getElem h1;refine⟨_,ho,?_,λe he hb=>?_,h1⟩;have:i < L.size:=by omega
 simpa[this] using h2
 rw[ho] at h3;simp only[Option.map_some,Option.getD_some] at h3;rw[Array.all_eq_true_iff_forall_mem] at h3;have:=h3 e he;rw[hb] at this;simpa using this
def jU{ops:Array Oper}{L:Array Bool}(Oo:L.size=ops.size){i:Nat}{o:Oper}(ho:ops[i]?=some o)(hL:L.getD i false=false)(hm:Met (λj=>L.getD j false) o):i∈Region.ready .any ops L:=by
 have h1:=(Array.getElem?_eq_some_iff.1 ho).1;unfold Region.ready;rw[List.mem_filter,List.mem_range,Bool.and_eq_true];refine⟨h1,?_,?_⟩;have:i < L.size:=by omega
 simpa[this] using hL
 rw[ho];simp only[Option.map_some,Option.getD_some];rw[Array.all_eq_true_iff_forall_mem];intro e he;by_cases hb:Region.binds .any e=true;have:=hm e he hb;rw[hb];simpa using this
 simp[hb]
section
variable {P:Program} {G:A6} {ops:Array Oper} {f0:List AV} {vals:Nat->AV} {MF:Nat->AS}
structure Inv(G:A6)(ops:Array Oper)(f0:List AV)(vals:Nat->AV)(MF:Nat->AS)(lP:Cx)(w0:World)(nh:Nat)(L:Array Bool)(a:Act)(w:World):Prop where
 size:L.size=ops.size
 closed:Nh ops.toList (λj=>L.getD j false)
 st:∃c k,k<=ops.size/\(∀l,Ya ops l->(L.getD l false=true↔l < k))/\Ext lP w0 c w/\St G c w (MF k)/\CG c w (Ii f0 (Ch ops) vals (λj=>L.getD j false) ops.size) a.tmps.toList /\
   ∀j y,ops[j]?=some y->BY y.op=true->L.getD j false=false->rk ops j < nh->c.CS[lP.CS.length+rk ops j]?=some none
 defers:a.defers=[]
def looks{x y:Oper}{t:Nat}(hx:x.dst=some t)(hy:t∈y.looksAt ops):Pn ops x y=true:=by
 simp[Pn,hx,hy]
def ajI{x y:Oper}{t:Nat}(hx:t∈x.looksAt ops)(hy:y.dst=some t):Pn ops x y=true:=by
 simp[Pn,hx,hy]
def amu{x y:Oper}{t:Nat}(hx:x.dst=some t)(hy:y.dst=some t):Pn ops x y=true:=by
 simp[Pn,hx,hy]
def rG{x y:Oper}(hx:calm x.op=false)(hy:calm y.op=false):Pn ops x y=true:=by
 simp[Pn,hx,hy]
def Cf{i:Nat}{o:Oper}(h:ops[i]?=some o):ops.toList[i]?=some o:=by rw[Array.getElem?_toList];exact h
def U4{L:Nat->Bool}(Hh:L2 ops=true)(hc:Nh ops.toList L){i j:Nat}{x y:Oper}(hx:ops[i]?=some x)(hy:ops[j]?=some y)(hm:Met L y)(GI:i < j)(Ih:Pn ops x y=true):L i=true :=
 Xv hc (Cf hy) hm (Z3 Hh hx hy GI Ih)
def P5{L:Nat->Bool}(Hh:L2 ops=true)(hc:Nh ops.toList L){i j:Nat}{x y:Oper}(hx:ops[i]?=some x)(hy:ops[j]?=some y)(hL:L i=false)(GI:i < j)(Ih:Pn ops x y=true):L j=false:=by
 cases h:L j with
 | false=>rfl
 | true =>
   have:=Xv hc (Cf hy) (hc j y (Cf hy) h) (Z3 Hh hx hy GI Ih);rw[hL] at this;cases this
def mP{i t:Nat}(h:Ch ops i=some t):∃o,ops[i]?=some o/\o.dst=some t:=by
 unfold Ch at h;cases ho:ops[i]? with
 | none=>rw[ho] at h;cases h
 | some o=>rw[ho] at h;exact⟨o,rfl,by simpa using h⟩
def R1{L:Nat->Bool}(Hh:L2 ops=true)(hc:Nh ops.toList L){i:Nat}{o:Oper}(ho:ops[i]?=some o)(hL:L i=false)(hm:Met L o){t:Nat}(ht:t∈o.looksAt ops) :
   (Ii f0 (Ch ops) vals L ops.size)[t]?=(Ii f0 (Ch ops) vals (λ_=>true) i)[t]?:=by
 have hi:=(Array.getElem?_eq_some_iff.1 ho).1;rw[qE (j:=i) ops.size (by omega)];refine XE i (λj hj hd=>?_);obtain⟨x,hx,hxd⟩:=mP hd;exact U4 Hh hc hx ho hm hj (looks hxd ht);intro j hj _ hd;by_cases e:j=i;subst e;exact hL;obtain⟨y,hy,hyd⟩:=mP hd;exact P5 Hh hc ho hy hL (by omega) (ajI ht hyd)
def qF{L M:Nat->Bool}(Hh:L2 ops=true)(hc:Nh ops.toList L){i:Nat}{o:Oper}(ho:ops[i]?=some o)(hL:L i=false)(hM:M i=true)(Is:∀j,j≠i->M j=L j) :
   Ii f0 (Ch ops) vals M ops.size=Ir (Ii f0 (Ch ops) vals L ops.size) o.dst (vals i):=by
 have hi:=(Array.getElem?_eq_some_iff.1 ho).1;have hdi:Ch ops i=o.dst:=by unfold Ch;rw[ho];rfl
 apply List.ext_getElem?;intro t;by_cases hd:o.dst=some t;rw[qE (j:=i+1) ops.size (by omega)];simp only[Ii,hM,if_true,hdi,hd];rw[Of,Of,WB,WB];intro j hj _ hdj;obtain⟨y,hy,hyd⟩:=mP hdj;rw[Is j (by omega)];exact P5 Hh hc ho hy hL (by omega) (amu hd hyd);rw[Rg hd];refine XE ops.size (λj _ hdj=>Is j (λe=>hd ?_));rw[<- hdi,<- e];exact hdj
def Ext.aiL{c:Cx}{w:World}{c':Cx}{w':World}(h:Ext c w c' w'){id:Nat}{y:Option Nat}(e:c.CS[id]?=some y):c'.CS[id]?=some y:=by
 obtain⟨t,ht⟩:=h.CS;rw[<- ht,List.getElem?_append_left (List.getElem?_eq_some_iff.1 e).1];exact e
def z8{nh:Nat}(Hh:L2 ops=true)
   (hl:∀i o,ops[i]?=some o->calm o.op=false->Sound P G (.op ops o (Ii f0 (Ch ops) vals (λ_=>true) i) (MF i) (.ret (vals i)) (MF (i+1))))
   (hq:∀i o,ops[i]?=some o->quiet o.op=true->MF (i+1)=MF i/\((Cv ops (Ii f0 (Ch ops) vals (λ_=>true) i) o=false/\vals i=.sc undef)\/(Cv ops (Ii f0 (Ch ops) vals (λ_=>true) i) o=true/\∀k,k<=ops.size->Win ops i k->PX P G (Ii f0 (Ch ops) vals (λ_=>true) i) (MF k) o=some (.val (vals i) (MF k)))))
   (lP:Cx) (w0:World)
   (ha:∀i o e,ops[i]?=some o->o.op=.alloc e->MF (i+1)=MF i/\((Cv ops (Ii f0 (Ch ops) vals (λ_=>true) i) o=false/\vals i=.sc undef)\/(Cv ops (Ii f0 (Ch ops) vals (λ_=>true) i) o=true/\∃z,LY P e=some z/\rk ops i < nh/\vals i=.ptr (lP.CS.length+rk ops i) 0/\∀k,k<=ops.size->Win ops i k->(MF k).get (lP.CS.length+rk ops i)=some (.cells (cellsOf z)))))
   (Q:Exit->Act->World->Prop) (hQ:∀e' a' w',SB G lP w0 .normal (Ii f0 (Ch ops) vals (λ_=>true) ops.size) (MF ops.size) e' a' w'->Q e' a' w') :
   ∀(KE:Nat) (L:Array Bool) (a:Act) (w:World),Inv G ops f0 vals MF lP w0 nh L a w->fZ (λj=>L.getD j false) ops.size=KE->wpAny P .any ops Q KE L a w:=by
 have hqs:∀i o,ops[i]?=some o->calm o.op=true->MF (i+1)=MF i:=λi o h1 h2=>by
   rcases Xs h2 with h2 | ⟨e,h2⟩
   exact(hq i o h1 h2).1;exact(ha i o e h1 h2).1
 have fin:∀(L:Array Bool) (a:Act) (w:World),Inv G ops f0 vals MF lP w0 nh L a w->(∀i,i < ops.size->L.getD i false=true)->Q .normal a w:=by
   intro L a w hI JS;obtain⟨c,k,hk,WG,hx,F4,OU,_⟩:=hI.st;have aoZ:MF k=MF ops.size:=oY hqs ops.size hk (Nat.le_refl _) (λm h1 h2 hm=>by have:=(WG m hm).1 (JS m h2);omega);rw[aoZ] at F4;refine hQ _ _ _ ⟨c,hx,F4,hI.defers,rfl,?_⟩
   have:Ii f0 (Ch ops) vals (λj=>L.getD j false) ops.size=Ii f0 (Ch ops) vals (λ_=>true) ops.size:=by
     apply List.ext_getElem?;intro t;exact XE ops.size (λi hi _=>JS i hi)
   rw[<- this];exact OU
 intro KE
 induction KE with
 | zero =>
   intro L a w hI hc;have JS:=gE ops.size hc;refine⟨?_,fin L a w hI JS⟩;apply List.eq_nil_iff_forall_not_mem.2;intro i hi;obtain⟨o,ho,h1,_,GI⟩:=mem_ready hI.size hi;have:=JS i GI;rw[h1] at this;cases this
 | succ KE ih =>
   intro L a w hI aoB;refine⟨λcI=>fin L a w hI (λi=>?_),λi hi=>?_⟩
   . induction i using Nat.strongRecOn with
     | _ i ihi =>
       intro GI;cases eZ:L.getD i false with
       | true=>rfl
       | false =>
         exfalso;have ho:ops[i]?=some (ops[i]'GI):=Array.getElem?_eq_getElem GI
         have:=jU hI.size ho eZ (λe he hb=>by
           have h1:=jE Hh ho he hb;exact ihi e.on h1 (by omega))
         rw[cI] at this;cases this
   . obtain⟨o,ho,eZ,XT,GI⟩:=mem_ready hI.size hi
     obtain⟨c,k,hk,WG,hx,F4,OU,nF⟩:=hI.st
     have hMi:(L.setIfInBounds i true).getD i false=true:=by
       have:i < L.size:=by rw[hI.size];exact GI
       simp[this]
     have qK:∀j,j≠i->(L.setIfInBounds i true).getD j false=L.getD j false:=by
       intro j hj;simp only[Array.getD_eq_getD_getElem?];rw[Array.getElem?_setIfInBounds_ne (λe=>hj e.symm)]
     have hle:∀j,L.getD j false=true->(L.setIfInBounds i true).getD j false=true:=by
       intro j hj;by_cases e:j=i;subst e;exact hMi;rw[qK j e];exact hj
     have XO:Nh ops.toList (λj=>(L.setIfInBounds i true).getD j false):=by
       intro j y hy hj e he hb;by_cases ej:j=i;subst ej;rw[Cf ho] at hy;cases hy;exact hle _ (XT e he hb);have vA:L.getD j false=true:=by rw[<- qK j ej];exact hj
       exact hle _ (hI.closed j y hy vA e he hb)
     have aaQ:fZ (λj=>(L.setIfInBounds i true).getD j false) ops.size=KE:=by
       have:=(pV (L:=λj=>L.getD j false) (M:=λj=>(L.setIfInBounds i true).getD j false) eZ hMi qK ops.size).1 GI;omega
     have Za:=qF (f0:=f0) (vals:=vals) (L:=λj=>L.getD j false) (M:=λj=>(L.setIfInBounds i true).getD j false) Hh hI.closed ho eZ hMi qK
     have ahY:∀(k':Nat) (u:Value) (w':World) (c':Cx),k'<=ops.size->(∀l,Ya ops l->((L.setIfInBounds i true).getD l false=true↔l < k'))->Ext lP w0 c' w'->Mon c w c' w' ->
         (∀j y,ops[j]?=some y->BY y.op=true->(L.setIfInBounds i true).getD j false=false->rk ops j < nh->c'.CS[lP.CS.length+rk ops j]?=some none)->St G c' w' (MF k')->Rp c' w' (vals i) u->wpAny P .any ops Q KE (L.setIfInBounds i true) (a.put o.dst u) w':=by
       intro k' u w' c' hk' cH Wh lS hh' Mr hu;refine ih _ _ _ ⟨by simp[hI.size],XO,⟨c',k',hk',cH,Wh,Mr,?_,hh'⟩,by cases o.dst<;>exact hI.defers⟩ aaQ
       rw[Za];exact Og (OU.Dt lS) hu
     have step:∀(k':Nat) (u:Value) (w':World) (c':Cx),k'<=ops.size->(∀l,Ya ops l->((L.setIfInBounds i true).getD l false=true↔l < k'))->Ext c w c' w'->St G c' w' (MF k')->Rp c' w' (vals i) u->wpAny P .any ops Q KE (L.setIfInBounds i true) (a.put o.dst u) w':=by
       intro k' u w' c' hk' cH Wh Mr hu;refine ahY k' u w' c' hk' cH (hx.trans Wh) Wh.mon (λj y hy cM hj hjn=>?_) Mr hu;have hji:j≠i:=λe=>by subst e;rw[hMi] at hj;cases hj
       rw[qK j hji] at hj;exact Wh.aiL (nF j y hy cM hj hjn)
     have iH:∀x∈o.op.operands,Y4 G c w (Ii f0 (Ch ops) vals (λ_=>true) i) a.eval x:=by
       intro x hxo v hv;cases x with
       | tmp t =>
         have aaV:t∈o.looksAt ops:=by
           unfold Oper.looksAt;rw[List.mem_append];left;rw[List.mem_filterMap];exact⟨.tmp t,Array.mem_toList_iff.2 hxo,rfl⟩
         have he:=R1 (f0:=f0) (vals:=vals) Hh hI.closed ho eZ XT aaV
         have:A8 G (Ii f0 (Ch ops) vals (λj=>L.getD j false) ops.size) (.tmp t)=some v:=by
           rw[<- hv];simp only[A8,List.getD_eq_getElem?_getD,he]
         exact Er F4 OU this
       | const z=>exact Er (fr:=Ii f0 (Ch ops) vals (λj=>L.getD j false) ops.size) F4 OU hv
       | global g=>exact Er (fr:=Ii f0 (Ch ops) vals (λj=>L.getD j false) ops.size) F4 OU hv
       | func f=>exact Er (fr:=Ii f0 (Ch ops) vals (λj=>L.getD j false) ops.size) F4 OU hv
     have VS:Cv ops (Ii f0 (Ch ops) vals (λ_=>true) i) o=Region.wanted o (yielded ops a.tmps):=by
       refine Nl (c:=c) (w:=w) (λj want hg d hd=>⟨_,OU,?_⟩);refine R1 Hh hI.closed ho eZ XT ?_;unfold Oper.looksAt;rw[List.mem_append];right;rw[hg];simp[hd]
     have cD:Mj P ops o (wpAny P .any ops Q KE (L.setIfInBounds i true)) Q a w->wpOp P ops Q i (wpAny P .any ops Q KE (L.setIfInBounds i true)) a w:=by
       intro h;unfold wpOp;rw[ho];unfold Mj at h;simp only;split;rename_i hw;rw[if_pos hw] at h;exact .inl h;rename_i hw;rw[if_neg hw] at h;exact h
     refine cD ?_;cases hqo:calm o.op with
     | false =>
       have hki:MF k=MF i:=by
         rcases Nat.le_total k i with ai3 | ai3
         exact oY hqs i ai3 (by omega) (λm h1 h2 hm=>by
           obtain⟨y,hy,qV⟩:=hm;have:=U4 Hh hI.closed hy ho XT h2 (rG qV hqo);have:=(WG m ⟨y,hy,qV⟩).1 this;omega)
         exact(oY hqs k ai3 hk (λm h1 h2 hm=>by
           obtain⟨y,hy,qV⟩:=hm;have hLm:=(WG m ⟨y,hy,qV⟩).2 h2;by_cases e:m=i;subst e;rw[eZ] at hLm;cases hLm;have:=P5 Hh hI.closed ho hy eZ (by omega) (rG hqo qV);rw[this] at hLm;cases hLm)).symm
       rw[hki] at F4;refine hl i o ho hqo c w a _ _ F4 iH VS ?_;intro u w' c' Wh Mr hu;refine step (i+1) u w' c' (by omega) (λl xM=>?_) Wh Mr hu;by_cases e:l=i;subst e;rw[hMi];simp;rw[qK l e,WG l xM];obtain⟨y,hy,qV⟩:=xM;constructor;intro aaW;have hLl:=(WG l ⟨y,hy,qV⟩).2 aaW;rcases Nat.lt_or_ge l i with h1 | h1
       omega;have:=P5 Hh hI.closed ho hy eZ (by omega) (rG hqo qV);rw[this] at hLl;cases hLl;intro aaW;have:=U4 Hh hI.closed hy ho XT (by omega) (rG qV hqo);exact(WG l ⟨y,hy,qV⟩).1 this
     | true =>
       have cH:∀l,Ya ops l->((L.setIfInBounds i true).getD l false=true↔l < k):=by
         intro l xM
         have Is:l≠i:=by
           intro e;subst e;obtain⟨y,hy,qV⟩:=xM;rw[ho] at hy;cases hy;rw[hqo] at qV;cases qV
         rw[qK l Is];exact WG l xM
       have Zd:Win ops i k:=by
         refine⟨λl xM hd=>?_,λl xM hd=>?_⟩;exact(WG l xM).1 (Xv hI.closed (Cf ho) XT hd);rcases Nat.lt_or_ge l k with h1 | h1
         exfalso;have hLl:=(WG l xM).2 h1;obtain⟨y,hy,qV⟩:=xM;have:=Xv hI.closed (Cf hy) (hI.closed l y (Cf hy) hLl) hd;rw[eZ] at this;cases this;exact h1
       unfold Mj;rcases Xs hqo with hqo | ⟨e,hoe⟩
       obtain⟨_,SO⟩:=hq i o ho hqo;rcases SO with ⟨hw,hv⟩ | ⟨hw,hv⟩
       rw[<- VS,hw];simp only[Bool.false_eq_true,if_false];exact step k undef w c hk cH (Ext.refl c w) F4 (by rw[hv];exact .sc rfl);rw[<- VS,hw];simp only[if_true];have alv:=bK F4 iH (λ_=>rfl) (hv k hk Zd);obtain⟨u,w',c',hr,Wh,Mr,hu⟩:=alv;unfold Oper.wp;rcases hr with hr | ⟨hr,rfl⟩
       rw[hr];exact step k u w' c' hk cH Wh Mr hu;rw[hr];exact step k undef w' c' hk cH Wh Mr hu;obtain⟨_,SO⟩:=ha i o e ho hoe;rcases SO with ⟨hw,hv⟩ | ⟨hw,z,hz,hrk,hv,alw⟩
       rw[<- VS,hw];simp only[Bool.false_eq_true,if_false];exact step k undef w c hk cH (Ext.refl c w) F4 (by rw[hv];exact .sc rfl);rw[<- VS,hw];simp only[if_true];have hia:BY o.op=true:=by rw[hoe];rfl
       obtain⟨u,w',c',hr,lS,Mr,hu,aoG,aoT⟩:=mC (ρ:=a.eval) F4 hoe hz (nF i o ho hia eZ hrk) (alw k hk Zd);unfold Oper.wp;rw[hr];refine ahY k u w' c' hk cH (aoG lP w0 hx (by omega)) lS (λj y hy cM hj hjn=>?_) Mr (by rw[hv];exact hu);have hji:j≠i:=λe=>by subst e;rw[hMi] at hj;cases hj
       rw[qK j hji] at hj;have Is:rk ops j≠rk ops i:=λe=>hji (aj8 hy ho cM hia e);rw[aoT _ (by omega)];exact nF j y hy cM hj hjn
end
end AI
namespace AI
open Go Go.RowKit
def dB{G:A6}{c:Cx}{w:World}{s:AS}{fr:List AV}{a:Act}(hs:St G c w s)(hf:CG c w fr a.tmps.toList)(x:Operand):Y4 G c w fr a.eval x:=λ_ hv=>Er hs hf hv
def LC{P:Program}{ops:Array Oper}{o:Oper}{i:Nat}{l:List Nat}{Q:Exit->Act->World->Prop}{a:Act}{w:World}(ho:ops[i]?=some o)(h:Mj P ops o (wpOps P ops Q l) Q a w):wpOps P ops Q (i::l) a w:=by
 unfold wpOps;rw[ho];unfold Mj at h;simp only;split;rename_i hw;rw[if_pos hw] at h;exact .inl h;rename_i hw;rw[if_neg hw] at h;exact h
def SB.Py{G:A6}{c:Cx}{w:World}{e:AX}{B8:List AV}{s':AS}{e':Exit}{a':Act}{w':World}(h:SB G c w e B8 s' e' a' w')(he:e≠.normal):e'≠.normal:=by
 obtain⟨c',_,_,_,h4⟩:=h;cases e with
 | normal=>exact absurd rfl he
 | exit id=>intro h5;rw[h4.1] at h5;cases h5
 | ret=>intro h5;rw[h4.1] at h5;cases h5
 | IL v=>obtain⟨u,h5,_⟩:=h4;intro h6;rw[h5] at h6;cases h6
def UF{K:Act->World->Prop}{Q:Exit->Act->World->Prop}{e:Exit}{a:Act}{w:World}(he:e≠.normal)(h:Q e a w):Exit.then K Q e a w:=by
 cases e<;>first | exact absurd rfl he | exact h
structure ahc(P:Program)(G:A6)(X:Wb)(H:S0):Prop where
 mixed:P.follows .mixedOrders=true
 ext:∀f args s r s',X f args s r s'->Sound P G (.call f args s r s')
 ai4:∀f args g XG k,H f args=some (g,XG,k)->∀s r s' r',Sound P G (.call g XG s r s')->k r=some r'->Sound P G (.call f args s r' s')
def sound{P:Program}{G:A6}{X:Wb}{H:S0}(hg:ahc P G X H){jd:Jd}(h:J P G X H jd):Sound P G jd:=by
 induction h with
 | sem h=>exact h hg.mixed
 | YR hw _ ih=>intro cx w a Q hs hf hd hQ;obtain⟨c2,x,h1,h2⟩:=hw cx w _ hs hf;exact ih c2 w a Q h1 h2 hd (λe a w hp=>hQ e a w (hp.ext x))
 | ah8 hw _ ih=>obtain⟨n,ih⟩:=ih;exact⟨n,λcx w a Q hs hf hd hQ=>by obtain⟨c2,x,h1,h2⟩:=hw cx w _ hs hf;exact ih c2 w a Q h1 h2 hd (λe a w hp=>hQ e a w (hp.ext x))⟩
 | oE _ _ hv ih =>
   intro cx w a K Q hs IA fD hK;exact ih cx w a K Q hs IA fD (λu w' c' x st hu=>hK u w' c' x st (hv _ _ _ hu))
 | dA _ _ hv ih =>
   intro cx w a K Q hs IA fD hK;exact ih cx w a K Q hs IA fD (λu w' c' x st hu=>hK u w' c' x (hv _ _ st) hu)
 | @scope c fr fr2 B8 s s2 s' e _ he hsc ih =>
   intro cx w a Q hs hf hd hQ;refine ih cx w a Q hs hf hd ?_;rintro e' a' w' ⟨c',hx,Cm,Q4,h4⟩;cases e with
   | normal=>obtain⟨rfl,h5⟩:=h4;obtain⟨c2,x2,TV,f2⟩:=hsc cx w c' w' _ hx hs Cm h5;exact hQ _ _ _ ⟨c2,x2,TV,Q4,rfl,f2⟩
   | exit id=>obtain⟨rfl,h5⟩:=h4;obtain⟨c2,x2,TV,f2⟩:=hsc cx w c' w' _ hx hs Cm h5;exact hQ _ _ _ ⟨c2,x2,TV,Q4,rfl,f2⟩
   | ret=>obtain⟨rfl,h5⟩:=h4;obtain⟨c2,x2,TV,f2⟩:=hsc cx w c' w' _ hx hs Cm h5;exact hQ _ _ _ ⟨c2,x2,TV,Q4,rfl,f2⟩
   | IL v=>exact absurd rfl (he v)
 | skip=>intro cx w a Q hs hf hd hQ;exact wp_skip (hQ _ _ _ ⟨cx,Ext.refl _ _,hs,hd,rfl,hf⟩)
 | exit=>intro cx w a Q hs hf hd hQ;exact wp_exit (hQ _ _ _ ⟨cx,Ext.refl _ _,hs,hd,rfl,hf⟩)
 | ret=>intro cx w a Q hs hf hd hQ;exact wp_ret (hQ _ _ _ ⟨cx,Ext.refl _ _,hs,hd,rfl,hf⟩)
 | seq _ _ nQ vE =>
   intro cx w a Q hs hf hd hQ;refine wp_seq (nQ cx w a _ hs hf hd ?_);rintro e' a' w' ⟨c',hx,Cm,Q4,rfl,iC⟩;exact vE c' w' a' Q Cm iC Q4 (λe2 a2 w2 h2=>hQ e2 a2 w2 (h2.ext hx))
 | oU _ he nQ =>
   intro cx w a Q hs hf hd hQ;refine wp_seq (nQ cx w a _ hs hf hd ?_);intro e' a' w' hp;exact UF (hp.Py he) (hQ _ _ _ hp)
 | @cond q x y t fr B8 s s' e hq _ ih =>
   intro cx w a Q hs hf hd hQ;have hr:=Er hs hf hq
   have IA:a.eval q=.bool t:=by
     generalize a.eval q=v at hr;cases hr;rfl
   exact wp_cond IA (ih cx w a Q hs hf hd hQ)
 | @block id c fr B8 s s' e _ ih =>
   intro cx w a Q hs hf hd hQ;refine wp_block (ih cx w a _ hs hf hd ?_);rintro e' a' w' ⟨c',hx,Cm,Q4,h4⟩;cases e with
   | normal=>obtain⟨rfl,h5⟩:=h4;exact hQ _ _ _ ⟨c',hx,Cm,Q4,rfl,h5⟩
   | exit QO =>
     obtain⟨rfl,h5⟩:=h4;show if QO=id then Q .normal a' w' else Q (.exit QO) a' w'
     by_cases hid:QO=id;rw[if_pos hid];refine hQ _ _ _ ⟨c',hx,Cm,Q4,?_⟩;simp only[EL,hid,if_true];exact⟨trivial,h5⟩;rw[if_neg hid];refine hQ _ _ _ ⟨c',hx,Cm,Q4,?_⟩;simp only[EL,hid,if_false];exact⟨trivial,h5⟩
   | ret=>obtain⟨rfl,h5⟩:=h4;exact hQ _ _ _ ⟨c',hx,Cm,Q4,rfl,h5⟩
   | IL v=>obtain⟨u,rfl,h5⟩:=h4;exact hQ _ _ _ ⟨c',hx,Cm,Q4,u,rfl,h5⟩
 | loop _ ih =>
   intro cx w a Q hs hf hd hQ;obtain⟨n,hn⟩:=ih;exact wp_loop_rounds n (hn cx w a Q hs hf hd hQ)
 | ahJ _ _ nQ vE =>
   obtain⟨n,hn⟩:=vE;refine⟨n+1,?_⟩;intro cx w a Q hs hf hd hQ;rw[rounds_succ];refine nQ cx w a _ hs hf hd ?_;rintro e' a' w' ⟨c',hx,Cm,Q4,rfl,iC⟩;exact hn c' w' a' Q Cm iC Q4 (λe2 a2 w2 h2=>hQ e2 a2 w2 (h2.ext hx))
 | rF _ he nQ =>
   refine⟨1,?_⟩;intro cx w a Q hs hf hd hQ;rw[rounds_succ];refine nQ cx w a _ hs hf hd ?_;intro e' a' w' hp;exact UF (hp.Py he) (hQ _ _ _ hp)
 | region _ ih =>
   intro cx w a Q hs hf hd hQ;exact wp_region (ih cx w a Q hs hf hd hQ)
 | abQ=>intro cx w a Q hs hf hd hQ;exact hQ _ _ _ ⟨cx,Ext.refl _ _,hs,hd,rfl,hf⟩
 | @rV ops i l o v fr B8 s s1 s' e ho _ _ nQ vE =>
   intro cx w a Q hs hf hd hQ;refine LC ho (nQ cx w a _ _ hs (λx _=>dB hs hf x) (Nl (c:=cx) (w:=w) (λ_ _ _ _ _=>⟨fr,hf,rfl⟩)) ?_);intro u w' c' hx Cm hu;exact vE c' w' (a.put o.dst u) Q Cm (Og (hf.mono hx) hu) (by cases o.dst<;>exact hd) (λe2 a2 w2 h2=>hQ e2 a2 w2 (h2.ext hx))
 | @abR ops i l o v fr s s1 ho _ nQ =>
   intro cx w a Q hs hf hd hQ;refine LC ho (nQ cx w a _ _ hs (λx _=>dB hs hf x) (Nl (c:=cx) (w:=w) (λ_ _ _ _ _=>⟨fr,hf,rfl⟩)) ?_);intro u w' c' hx Cm hu;exact hQ _ _ _ ⟨c',hx,Cm,hd,u,rfl,hu⟩
 | @ND ops o fr s s' v hw h =>
   intro cx w a K Q hs IA fD hK;unfold Mj;rw[<- fD,hw];simp only[if_true];obtain⟨u,w',c',hr,hx,Cm,hu⟩:=bK hs IA (λ_=>rfl) h;unfold Oper.wp;rcases hr with hr | ⟨hr,rfl⟩
   rw[hr];exact hK u w' c' hx Cm hu;rw[hr];exact hK undef w' c' hx Cm hu
 | @abP ops o fr s s' cl x y t tx a b v hw ho Ih hxs DS ha hb h =>
   intro cx w ac K Q hs IA fD hK;unfold Mj;rw[<- fD,hw];simp only[if_true];have e1:cl.args=#[x,y]:=by apply Array.ext';rw[hxs]
   have e2:cl.argTypes=#[t,tx]:=by apply Array.ext';rw[DS]
   have iF:∀z∈[x,y],z∈o.op.operands:=λz hz=>by rw[ho];simp only[Op.operands,Call.operands,e1,Array.mem_append];exact .inr (by simpa using hz)
   obtain⟨u,w',c',hr,hx,Cm,hu⟩:=h cx w _ _ o.type hs (IA x (iF x (by simp)) a ha) (IA y (iF y (by simp)) b hb);unfold Oper.wp
   have Y2:(execOp ac.eval o).run P w=.ok (.value u) w':=by
     simp[execOp,ho,resolve,Ih,e1,e2,invoke,builtin,hr]
   rw[Y2];exact hK u w' c' hx Cm hu
 | @oD ops o fr s hw =>
   intro cx w a K Q hs IA fD hK;unfold Mj;rw[<- fD,hw];simp only[Bool.false_eq_true,if_false];exact hK undef w cx (Ext.refl _ _) hs (.sc rfl)
 | @RG ops o fr s s' f args r hw h _ ih =>
   intro cx w a K Q hs IA fD hK;unfold Mj;rw[<- fD,hw];simp only[if_true];obtain⟨vs,hr,Gp⟩:=bK hs IA (λ_=>rfl) h;unfold Oper.wp;rw[hr];refine(ih cx w vs hs Gp).mono ?_;rintro e w' ⟨c',hx,Cm,h4⟩;cases r with
   | ret v=>obtain⟨u,rfl,hu⟩:=h4;exact hK u w' c' hx Cm hu
   | IL v=>obtain⟨u,rfl,hu⟩:=h4;exact hK u w' c' hx Cm hu
 | @ahN ops o fr s v hw h =>
   intro cx w a K Q hs IA fD hK;unfold Mj;rw[<- fD,hw];simp only[if_true];obtain⟨u,hr,hu⟩:=bK hs IA (λ_=>rfl) h;unfold Oper.wp;rw[hr];exact hK u w cx (Ext.refl _ _) hs hu
 | @draw id ops f0 s0 rs vals MF h0 Hh hl hq ha ihl =>
   intro cx w a Q hs hf hd hQ;refine wp_region_any hg.mixed ?_;obtain⟨x,st⟩:=hs.same (fW w);obtain⟨c2,x2,TV,RA⟩:=st.holds rs;rw[<- h0] at TV;rw[hs.len] at ha;refine z8 (nh:=rs.length) Hh ihl hq cx w ha Q hQ ops.size _ a _ ⟨by simp,?_,⟨c2,0,Nat.zero_le _,?_,x.trans x2,TV,?_,?_⟩,hd⟩ ?_;intro i o ho hL;exfalso;simp only[Array.getD_eq_getD_getElem?,Array.getElem?_replicate] at hL;split at hL<;>simp at hL
   intro l _;simp only[Array.getD_eq_getD_getElem?,Array.getElem?_replicate];split<;>simp
   . have:Ii f0 (Ch ops) vals (λj=>(Array.replicate ops.size false).getD j false) ops.size=f0:=by
       have key:∀n,Ii f0 (Ch ops) vals (λj=>(Array.replicate ops.size false).getD j false) n=f0:=by
         intro n
         induction n with
         | zero=>rfl
         | succ n ih =>
           simp only[Ii,ih];rw[if_neg];simp only[Array.getD_eq_getD_getElem?,Array.getElem?_replicate];split<;>simp
       exact key _
     rw[this];exact hf.mono (x.trans x2)
   intro j y _ _ _ hj;rw[RA,List.getElem?_append_right (by omega)];simp[List.getElem?_replicate];omega
   . have key:∀n,fZ (λj=>(Array.replicate ops.size false).getD j false) n=n:=by
       intro n
       induction n with
       | zero=>rfl
       | succ n ih =>
         simp only[fZ,ih]
         have:(Array.replicate ops.size false).getD n false=false:=by
           simp only[Array.getD_eq_getD_getElem?,Array.getElem?_replicate];split<;>simp
         simp only[this];simp
     exact key _
 | @body f fn c args B8 s s' s2 e v hf hb _ he hr hk ih =>
   intro cx w vs hs Gp;have hl:=Gp.len;refine calls_of_wp hf hb (ih cx w _ _ hs ?_ rfl ?_);simp only[Array.toList_append,Array.toList_replicate];rw[List.size_toArray,hl];exact Gp.append (CG.replicate (.sc rfl) _);rintro e' a' w' ⟨c',hx,Cm,Q4,h4⟩
   have fC:St G c' w' s2:=by
     rcases hk with rfl | rfl
     exact Cm.cut _;exact Cm
   rcases he with rfl | rfl
   obtain⟨rfl,h5⟩:=h4;obtain⟨u,h6,h7⟩:=Ri Cm h5 hr;exact⟨Q4,u,h6,c',hx,fC,u,rfl,h7⟩;obtain⟨rfl,h5⟩:=h4;obtain⟨u,h6,h7⟩:=Ri Cm h5 hr;exact⟨Q4,u,h6,c',hx,fC,u,rfl,h7⟩
 | @ahg f fn c args B8 s s' v hf hb _ ih =>
   intro cx w vs hs Gp;have hl:=Gp.len;refine calls_of_wp hf hb (ih cx w _ _ hs ?_ rfl ?_);simp only[Array.toList_append,Array.toList_replicate];rw[List.size_toArray,hl];exact Gp.append (CG.replicate (.sc rfl) _);rintro e' a' w' ⟨c',hx,Cm,Q4,u,rfl,h5⟩;exact⟨Q4,c',hx,Cm.cut _,u,rfl,h5⟩
 | ext h=>exact hg.ext _ _ _ _ _ h
 | ai4 hh _ hk ih=>exact hg.ai4 _ _ _ _ _ hh _ _ _ _ ih hk
end AI
namespace AI
open Go Go.RowKit
def ad6:Value->Value->Bool
 | .int k a,.int k' b=>k == k'&&a == b
 | .bool a,.bool b=>a == b
 | .string a,.string b=>a.data.toList == b.data.toList
 | .nilIface,.nilIface=>true
 | .nilFunc,.nilFunc=>true
 | .pointer none,.pointer none=>true
 | .map none,.map none=>true
 | .tuple a,.tuple b=>a.size == 0&&b.size == 0
 | _,_=>false
def pP{a b:Value}(h:ad6 a b=true):a=b:=by
 unfold ad6 at h;split at h;simp at h;rw[h.1,h.2];simp at h;rw[h];simp only[beq_iff_eq] at h;rename_i x y;have:x=y:=ByteArray.ext (Array.ext' h);rw[this];rfl;rfl;rfl;rfl;rename_i x y;simp at h;rw[h.1,h.2];cases h
mutual
def S6:AV->AV->Bool
 | .sc a,.sc b=>ad6 a b
 | .agg a,.agg b=>Xo a b
 | .Dk a,.Dk b=>Xo a b
 | .sl o n a,.sl p m b=>decide (o=p)&&n == m&&Xo a b
 | .ID a b c,.ID x y z=>a == x&&b == y&&c == z
 | .el a,.el b=>Xo a b
 | .ptr a b,.ptr x y=>a == x&&b == y
 | .fn f a b,.fn g x y=>decide (f=g)&&Xo a x&&Xo b y
 | .E7 t a,.E7 u b=>t == u&&S6 a b
 | .mp a,.mp b=>a == b
 | _,_=>false
def Xo:List AV->List AV->Bool
 | [],[]=>true
 | a::as,b::bs=>S6 a b&&Xo as bs
 | _,_=>false
end
mutual
def pO:∀{a b:AV},S6 a b=true->a=b
 | .sc a,b,h=>by cases b<;>simp[S6] at h;rw[pP h]
 | .agg a,b,h=>by cases b<;>simp[S6] at h;rw[Oh h]
 | .Dk a,b,h=>by cases b<;>simp[S6] at h;rw[Oh h]
 | .sl o n a,b,h=>by cases b<;>simp[S6] at h;rw[h.1.1,h.1.2,Oh h.2]
 | .ID _ _ _,b,h=>by cases b<;>simp[S6] at h;rw[h.1.1,h.1.2,h.2]
 | .el a,b,h=>by cases b<;>simp[S6] at h;rw[Oh h]
 | .ptr _ _,b,h=>by cases b<;>simp[S6] at h;rw[h.1,h.2]
 | .fn f a c,b,h=>by cases b<;>simp[S6] at h;rw[h.1.1,Oh h.1.2,Oh h.2]
 | .E7 t a,b,h=>by cases b<;>simp[S6] at h;rw[h.1,pO h.2]
 | .mp _,b,h=>by cases b<;>simp[S6] at h;rw[h]
 | .any,b,h=>by cases b<;>simp[S6] at h
def Oh:∀{a b:List AV},Xo a b=true->a=b
 | [],b,h=>by cases b<;>simp[Xo] at h;rfl
 | a::as,b,h=>by cases b<;>simp[Xo] at h;rw[pO h.1,Oh h.2]
end
def reads:Op->Bool
 | .load .. | .lookup ..=>true
 | .call cl=>(match cl.callee with
   | .builtin .len=>true
   | _=>false)
 | _=>false
def Vt{P:Program}{G:A6}{fr:List AV}{s:AS}{o:Oper}{r:AR}(hq:quiet o.op=true)(h:PX P G fr s o=some r):∃v,r=.val v s:=by
 unfold PX at h;split at h<;>rename_i ho<;>(try (rw[ho] at hq;simp[quiet] at hq;done))
 all_goals first
   | (obtain⟨v,_,rfl⟩:=map_some h;exact⟨_,rfl⟩)
   | (split at h
      all_goals first
        | (obtain⟨v,_,rfl⟩:=map_some h;exact⟨_,rfl⟩)
        | (cases h;done)
        | (cases h;exact⟨_,rfl⟩)
        | (split at h
           all_goals first
             | (cases h;done)
             | (cases h;exact⟨_,rfl⟩)))
   | (obtain⟨_,_,h2⟩:=bind_some h;obtain⟨v,_,rfl⟩:=map_some h2;exact⟨_,rfl⟩)
   | (rw[ho] at hq
      unfold SE at h;split at h
      all_goals first
        | (obtain⟨_,_,h2⟩:=bind_some h;obtain⟨v,_,rfl⟩:=map_some h2;exact⟨_,rfl⟩)
        | (rename_i Ih;simp[quiet,Ih] at hq;done)
        | (split at h
           all_goals first
             | (obtain⟨v,_,rfl⟩:=map_some h;exact⟨_,rfl⟩)
             | (cases h;done))
        | (cases h;done))
   | (cases h;done)
def Ty{P:Program}{G:A6}{fr:List AV}{s:AS}{o:Oper}{v:AV}{s':AS}(hq:quiet o.op=true)(hr:reads o.op=false)(h:PX P G fr s o=some (.val v s'))(s2:AS):PX P G fr s2 o=some (.val v s2):=by
 have e:=Vt hq h;obtain⟨v',e⟩:=e;injection e with e1 e2
 subst e1 e2;obtain⟨dst,op,ty,pos,after,guard⟩:=o;cases op<;>simp only[quiet,reads,Bool.false_eq_true] at hq hr<;>simp only[PX] at h ⊢
 all_goals first
   | (obtain⟨v',h1,h2⟩:=map_some h;injection h2 with h2;subst h2;rw[h1];rfl)
   | (obtain⟨q,h0,h2⟩:=bind_some h;obtain⟨v',h1,h3⟩:=map_some h2;injection h3 with h3;subst h3;rw[h0,Option.bind_some,h1];rfl)
   | (split at h
      all_goals first
        | (obtain⟨v',h1,h2⟩:=map_some h;injection h2 with h2;subst h2;simp only[*,Option.map_some];done)
        | (cases h;done)
        | (cases h;simp only[*];done)
        | (split at h
           all_goals first
             | (cases h;done)
             | (cases h;simp[*];done)))
   | (cases hr;done)
   | (rename_i cl
      unfold SE at h ⊢;split at h
      all_goals first
        | (rename_i Ih;simp[Ih] at hr;done)
        | (rename_i Ih;simp[Ih] at hq;done)
        | (simp only;obtain⟨q,h0,h2⟩:=bind_some h;obtain⟨v',h1,h3⟩:=map_some h2;injection h3 with h3;subst h3;rw[h0,Option.bind_some,h1];rfl)
        | (cases h;done))
end AI
namespace AI
open Go Go.RowKit
inductive Tk where
 | code (c:Code) (fr:List AV) (s:AS)
 | loop (c:Code) (fr:List AV) (s:AS)
 | ops (ops:Array Oper) (l:List Oper) (fr:List AV) (s:AS)
 | draw (ops:Array Oper) (l:List Oper) (fr:List AV) (s:AS) (q:Nat)
 | op (ops:Array Oper) (o:Oper) (fr:List AV) (s:AS)
 | call (f:FuncId) (args:List AV) (s:AS)
inductive Rs where
 | code (e:AX) (fr:List AV) (s:AS)
 | call (r:CR) (s:AS)
 | tr (l:List (List AV×AS×AV)) (fr:List AV) (s:AS)
abbrev ahb:=FuncId->List AV->AS->Option (CR×AS)
def MS:List Oper->Nat->List Nat
 | [],_=>[]
 | o::os,i=>if calm o.op then MS os (i+1) else i::MS os (i+1)
def adj(ms:List Nat)(ls:List Nat)(i k:Nat):Bool:=ls.all λl=>(!RZ ms i l||decide (l < k))&&(!RZ ms l i||decide (k<=l))
def sJ(P:Program)(G:A6)(ms ls:List Nat)(i:Nat)(o:Oper)(fr:List AV)(v:AV):List AS->Nat->Bool
 | [],_=>true
 | s::ss,k=>(!adj ms ls i k||(match PX P G fr s o with
     | some (.val u _)=>S6 u v
     | _=>false))&&sJ P G ms ls i o fr v ss (k+1)
def sP(P:Program)(G:A6)(ops:Array Oper)(ms ls:List Nat)(MF:List AS):List Oper->List (List AV×AS×AV)->Nat->Bool
 | o::os,t::ts,i=>(!(quiet o.op&&reads o.op)||!Cv ops t.1 o||sJ P G ms ls i o t.1 t.2.2 MF 0)&&sP P G ops ms ls MF os ts (i+1)
 | _,_,_=>true
def Xp(ms ls:List Nat)(i id:Nat)(cs:List AV):List AS->Nat->Bool
 | [],_=>true
 | s::ss,k=>(!adj ms ls i k||(match s.get id with
     | some (.cells ds)=>Xo ds cs
     | _=>false))&&Xp ms ls i id cs ss (k+1)
def S4(P:Program)(ops:Array Oper)(ms ls:List Nat)(MF:List AS):List Oper->List (List AV×AS×AV)->Nat->Nat->Bool
 | o::os,t::ts,i,q=>(match o.op with
   | .alloc e=>(!Cv ops t.1 o||(match LY P e with
     | some z=>Xp ms ls i q (cellsOf z) MF 0
     | none=>false))&&S4 P ops ms ls MF os ts (i+1) (q+1)
   | _=>S4 P ops ms ls MF os ts (i+1) q)
 | _,_,_,_=>true
def rsv(P:Program):List Oper->Option (List AL)
 | []=>some []
 | o::l=>(match o.op with
   | .alloc e=>(match LY P e,rsv P l with
     | some z,some r=>some (.cells (cellsOf z)::r)
     | _,_=>none)
   | _=>rsv P l)
def af7(P:Program)(G:A6)(ops:Array Oper)(tr:List (List AV×AS×AV))(sf:AS):Bool :=
 match MS ops.toList 0 with
 | []=>true
 | ls=>sP P G ops (Hz ops.toList []) ls (tr.map (·.2.1)++[sf]) ops.toList tr 0
def WX(P:Program)(ops:Array Oper)(tr:List (List AV×AS×AV))(sf:AS)(q:Nat):List AL->Bool
 | []=>true
 | _=>S4 P ops (Hz ops.toList []) (MS ops.toList 0) (tr.map (·.2.1)++[sf]) ops.toList tr 0 q
def ako(P:Program)(G:A6)(ops:Array Oper)(tr:List (List AV×AS×AV))(sf:AS)(q:Nat)(r:List AL):Bool :=
 match af7 P G ops tr sf with
 | true=>WX P ops tr sf q r
 | false=>false
def ak7:AV->Bool
 | .ptr _ _ | .ID _ _ _ | .mp _ | .fn _ _ _=>true
 | _=>false
def aiA:List AV->Bool
 | []=>false
 | a::l=>match ak7 a with
   | true=>true
   | false=>aiA l
def esc:AV->Bool
 | .agg l=>aiA l
 | .Dk l=>aiA l
 | a=>ak7 a
def fin(v:AV)(s:AS)(n:Nat):AS:=match esc v with
 | true=>s
 | false=>s.cut n
def OO(ops:Array Oper)(fr:List AV)(o:Oper)(q:Nat):AV:=match Cv ops fr o with
 | true=>.ptr q 0
 | false=>.sc undef
inductive Se(P:Program)(G:A6)(X:Wb)(H:S0)(ops:Array Oper):Nat->List Oper->List AV->AS->List (List AV×AS×AV)->List AV->AS->Prop where
 | nil {q:Nat} {fr:List AV} {s:AS}:Se P G X H ops q [] fr s [] fr s
 | cons {q:Nat} {o:Oper} {l:List Oper} {fr B8:List AV} {s s1 s':AS} {v:AV} {t:List (List AV×AS×AV)} (ha:BY o.op=false) (h:J P G X H (.op ops o fr s (.ret v) s1)) (k:Se P G X H ops q l (Ir fr o.dst v) s1 t B8 s'):Se P G X H ops q (o::l) fr s ((fr,s,v)::t) B8 s'
 | alloc {q:Nat} {o:Oper} {l:List Oper} {fr B8:List AV} {s s':AS} {t:List (List AV×AS×AV)} (ha:BY o.op=true) (k:Se P G X H ops (q+1) l (Ir fr o.dst (OO ops fr o q)) s t B8 s'):Se P G X H ops q (o::l) fr s ((fr,s,OO ops fr o q)::t) B8 s'
section
variable {P:Program} {G:A6} {X:Wb} {H:S0} {ops:Array Oper}
def Se.len{q:Nat}{l:List Oper}{fr B8:List AV}{s s':AS}{t:List (List AV×AS×AV)}(h:Se P G X H ops q l fr s t B8 s'):t.length=l.length:=by
 induction h with
 | nil=>rfl
 | cons _ _ _ ih=>simp[ih]
 | alloc _ _ ih=>simp[ih]
def FD(t:List (List AV×AS×AV))(sf:AS)(i:Nat):AS:=match t[i]? with
 | some x=>x.2.1
 | none=>sf
def J8(t:List (List AV×AS×AV))(i:Nat):AV:=match t[i]? with
 | some x=>x.2.2
 | none=>.sc undef
def Se.at{q:Nat}{l:List Oper}{fr B8:List AV}{s s':AS}{t:List (List AV×AS×AV)}(h:Se P G X H ops q l fr s t B8 s'):FD t s' 0=s/\∀i o,l[i]?=some o->∃fi,t[i]?=some (fi,FD t s' i,J8 t i) /\
   ((BY o.op=false/\J P G X H (.op ops o fi (FD t s' i) (.ret (J8 t i)) (FD t s' (i+1))))\/(BY o.op=true/\FD t s' (i+1)=FD t s' i/\J8 t i=OO ops fi o (q+lY l i))):=by
 induction h with
 | nil=>exact⟨rfl,λi o ho=>by simp at ho⟩
 | @cons q o l fr B8 s s1 s' v t ha h k ih =>
   refine⟨rfl,λi o' ho=>?_⟩;cases i with
   | zero =>
     simp at ho;subst ho;refine⟨fr,rfl,.inl ⟨ha,?_⟩⟩
     have:FD ((fr,s,v)::t) s' 1=s1:=by
       have:=ih.1;unfold FD at this ⊢;simpa using this
     rw[this];exact h
   | succ i =>
     obtain⟨fi,h1,h2⟩:=ih.2 i o' (by simpa using ho)
     refine⟨fi,?_,?_⟩;have:((fr,s,v)::t)[i+1]?=t[i]?:=by simp
     rw[this,h1];simp[FD,J8];simp only[lY,ha,Nat.zero_add];simpa[FD,J8] using h2
 | @alloc q o l fr B8 s s' t ha k ih =>
   refine⟨rfl,λi o' ho=>?_⟩;cases i with
   | zero =>
     simp at ho;subst ho;refine⟨fr,rfl,.inr ⟨ha,?_,?_⟩⟩;have:=ih.1;unfold FD at this ⊢;simpa using this
     simp[J8,lY]
   | succ i =>
     obtain⟨fi,h1,h2⟩:=ih.2 i o' (by simpa using ho)
     refine⟨fi,?_,?_⟩;have:((fr,s,OO ops fr o q)::t)[i+1]?=t[i]?:=by simp
     rw[this,h1];simp[FD,J8];simp only[lY,ha];rw[<- Nat.add_assoc];simpa[FD,J8] using h2
def Se.cB{q:Nat}{l:List Oper}{fr B8:List AV}{s s':AS}{t:List (List AV×AS×AV)}(h:Se P G X H ops q l fr s t B8 s')(dst:Nat->Option Tmp)(vals:Nat->AV)(f0:List AV)(k:Nat)(OU:fr=Ii f0 dst vals (λ_=>true) k)(hd:∀i o,l[i]?=some o->dst (k+i)=o.dst)(hv:∀i,vals (k+i)=J8 t i\/l.length<=i) :
   B8=Ii f0 dst vals (λ_=>true) (k+l.length)/\∀i x,t[i]?=some x->x.1=Ii f0 dst vals (λ_=>true) (k+i):=by
 have key:∀{q:Nat} {o:Oper} {l:List Oper} {fr B8:List AV} {s:AS} {v:AV} {t:List (List AV×AS×AV)}
     (_:∀(k:Nat),Ir fr o.dst v=Ii f0 dst vals (λ_=>true) k->(∀i o,l[i]?=some o->dst (k+i)=o.dst)->(∀i,vals (k+i)=J8 t i\/l.length<=i)->B8=Ii f0 dst vals (λ_=>true) (k+l.length)/\∀i x,t[i]?=some x->x.1=Ii f0 dst vals (λ_=>true) (k+i))
     (k:Nat),fr=Ii f0 dst vals (λ_=>true) k->(∀i o',(o::l)[i]?=some o'->dst (k+i)=o'.dst)->(∀i,vals (k+i)=J8 ((fr,s,v)::t) i\/(o::l).length<=i) ->
     B8=Ii f0 dst vals (λ_=>true) (k+(o::l).length)/\∀i x,((fr,s,v)::t)[i]?=some x->x.1=Ii f0 dst vals (λ_=>true) (k+i):=by
   intro q o l fr B8 s v t ih k OU hd hv;have hd0:=hd 0 o rfl
   have hv0:vals k=v:=by
     rcases hv 0 with h0 | h0
     simpa[J8] using h0
     simp at h0
   have:=ih (k+1) (by simp only[Ii,if_true];rw[OU,<- hd0,hv0];rfl) (λi o' VQ=>by have:=hd (i+1) o' (by simpa using VQ);rwa[show k+1+i=k+(i+1) from by omega]) (λi=>by
     rcases hv (i+1) with h1 | h1
     left;rw[show k+1+i=k+(i+1) from by omega,h1];simp[J8];right;simp at h1;omega)
   refine⟨by rw[this.1];congr 1;simp;omega,λi x hx=>?_⟩;cases i with
   | zero=>simp at hx;subst hx;exact OU
   | succ i =>
     have h2:=this.2 i x (by simpa using hx)
     rw[h2];congr 1;omega
 induction h generalizing k with
 | nil=>exact⟨OU,λi x hx=>by simp at hx⟩
 | @cons q o l fr B8 s s1 s' v t ha h _ ih=>exact key (q:=q) (λk h1 h2 h3=>ih k h1 h2 h3) k OU hd hv
 | @alloc q o l fr B8 s s' t ha _ ih=>exact key (q:=q) (λk h1 h2 h3=>ih k h1 h2 h3) k OU hd hv
def ag5{i k:Nat}{ls:List Nat}(hls:∀l,l∈ls->Ya ops l)(h:Win ops i k):adj (Hz ops.toList []) ls i k=true:=by
 unfold adj;rw[List.all_eq_true];intro l hl;have h1:=h.1 l (hls l hl);have h2:=h.2 l (hls l hl);cases ZN:RZ (Hz ops.toList []) i l<;>cases hZ:RZ (Hz ops.toList []) l i<;>simp_all
def cW{os:List Oper}{i l:Nat}(h:l∈MS os i):∃j o,l=i+j/\os[j]?=some o/\calm o.op=false:=by
 induction os generalizing i with
 | nil=>simp[MS] at h
 | cons x os ih =>
   simp only[MS] at h;split at h;obtain⟨j,o,h1,h2,h3⟩:=ih h;exact⟨j+1,o,by omega,by simpa using h2,h3⟩
   rename_i hq;rcases List.mem_cons.1 h with h | h
   exact⟨0,x,by omega,rfl,by simpa using hq⟩
   obtain⟨j,o,h1,h2,h3⟩:=ih h;exact⟨j+1,o,by omega,by simpa using h2,h3⟩
def JL{o:Oper}{fr:List AV}{s s':AS}{v:AV}(hq:quiet o.op=true)(h:J P G X H (.op ops o fr s (.ret v) s')):s'=s/\((Cv ops fr o=false/\v=.sc undef)\/(Cv ops fr o=true/\PX P G fr s o=some (.val v s))):=by
 cases h with
 | ND hw h =>
   obtain⟨v',e⟩:=Vt hq h;injection e with e1 e2
   subst e2;exact⟨rfl,.inr ⟨hw,h⟩⟩
 | oD hw=>exact⟨rfl,.inl ⟨hw,rfl⟩⟩
 | RG hw h hc =>
   obtain⟨v',e⟩:=Vt hq h;cases e
 | oE Y1=>rw[hq] at Y1;cases Y1
 | dA Y1=>rw[hq] at Y1;cases Y1
 | abP _ ho Ih=>simp[quiet,ho,Ih] at hq
def uF{ms ls:List Nat}{i id:Nat}{cs:List AV}{ss:List AS}{k0:Nat}(h:Xp ms ls i id cs ss k0=true){k:Nat}{s:AS}(hs:ss[k]?=some s)(hw:adj ms ls i (k0+k)=true):s.get id=some (.cells cs):=by
 induction ss generalizing k0 k with
 | nil=>simp at hs
 | cons x ss ih =>
   simp only[Xp,Bool.and_eq_true] at h;cases k with
   | zero =>
     simp at hs;subst hs;rw[Nat.add_zero] at hw;have h1:=h.1;rw[hw] at h1;simp only[Bool.not_true,Bool.false_or] at h1;split at h1;rename_i ds hu;rw[hu,Oh h1];cases h1
   | succ k=>exact ih h.2 (by simpa using hs) (by rwa[show k0+1+k=k0+(k+1) from by omega])
def tT{ms ls:List Nat}{MF:List AS}{os:List Oper}{ts:List (List AV×AS×AV)}{i0 q:Nat}(h:S4 P ops ms ls MF os ts i0 q=true){i:Nat}{o:Oper}{e:TypeId}{x:List AV×AS×AV}(ho:os[i]?=some o)(hx:ts[i]?=some x)(he:o.op=.alloc e)(hw:Cv ops x.1 o=true):∃z,LY P e=some z/\Xp ms ls (i0+i) (q+lY os i) (cellsOf z) MF 0=true:=by
 induction os generalizing ts i0 i q with
 | nil=>simp at ho
 | cons y os ih =>
   cases ts with
   | nil=>simp at hx
   | cons t ts =>
     cases i with
     | zero =>
       simp at ho hx;subst ho hx;simp only[S4,he,hw,Bool.not_true,Bool.false_or,Bool.and_eq_true] at h;have h1:=h.1;split at h1;rename_i z hz;exact⟨z,hz,h1⟩;cases h1
     | succ i =>
       simp only[S4] at h;split at h;rename_i e' he';rw[Bool.and_eq_true] at h;have:=ih h.2 (by simpa using ho) (by simpa using hx)
       simp only[lY,he',BY];rwa[show i0+1+i=i0+(i+1) from by omega,Nat.add_assoc q] at this;rename_i Is;have:=ih h (by simpa using ho) (by simpa using hx)
       have lT:BY y.op=false:=by
         cases cM:BY y.op with
         | false=>rfl
         | true=>obtain⟨e',he'⟩:=Km cM;exact absurd he' (Is e')
       simp only[lY,lT,Nat.zero_add];rwa[show i0+1+i=i0+(i+1) from by omega] at this
def afW{l:List Oper}{r:List AL}(h:rsv P l=some r):r.length=lY l l.length:=by
 induction l generalizing r with
 | nil=>simp[rsv] at h;subst h;rfl
 | cons o l ih =>
   simp only[rsv] at h;split at h;rename_i e he;split at h;rename_i z r' hz hr;cases h;simp only[List.length_cons,lY,he,BY,ih hr];omega;cases h;rename_i Is
   have lT:BY o.op=false:=by
     cases cM:BY o.op with
     | false=>rfl
     | true=>obtain⟨e',he'⟩:=Km cM;exact absurd he' (Is e')
   simp only[List.length_cons,lY,lT,ih h];omega
def QL{o:Oper}{e:TypeId}(h:o.op=.alloc e):quiet o.op=false:=by rw[h];rfl
end
end AI
namespace AI
open Go Go.RowKit
def inI:Int->Bool
 | .ofNat m=>Nat.ble m 9223372036854775807
 | .negSucc m=>Nat.ble m 9223372036854775807
def MG(k:IntKind)(n:Int):Int:=match k with
 | .i64=>(match inI n with | true=>n | false=>IntKind.i64.wrap n)
 | k=>k.wrap n
def ajv{n:Int}(h:inI n=true):IntKind.i64.wrap n=n:=by
 refine IntWalk.i64_in n ?_;cases n with
 | ofNat m =>
   have:=Nat.le_of_ble_eq_true h;have e:Int.ofNat m=(m:Int):=rfl;rw[e];have h2:(m:Int)<=9223372036854775807:=Int.ofNat_le.2 this;have h3:(0:Int)<=m:=Int.natCast_nonneg m;omega
 | negSucc m =>
   have:=Nat.le_of_ble_eq_true h;rw[Int.negSucc_eq];constructor;have e:(-9223372036854775808:Int)=-(9223372036854775807+1):=rfl;rw[e];have h2:(m:Int)<=9223372036854775807:=Int.ofNat_le.2 this;omega;have h2:(0:Int)<=m:=Int.natCast_nonneg m;omega
def UR(k:IntKind)(n:Int):MG k n=k.wrap n:=by
 cases k<;>try rfl
 simp only[MG];cases h:inI n with
 | true=>exact(ajv h).symm
 | false=>rfl
def yE:Int->Int->Int
 | .ofNat a,.ofNat b=>.ofNat (Nat.add a b)
 | a,b=>a+b
def bH(a b:Int):yE a b=a+b:=by cases a<;>cases b<;>rfl
def amn(a b:Nat):Int:=match Nat.ble b a with
 | true=>.ofNat (Nat.sub a b)
 | false=>(a:Int) - (b:Int)
def eB:Int->Int->Int
 | .ofNat a,.ofNat b=>amn a b
 | a,b=>a - b
def eC(a b:Int):eB a b=a - b:=by
 cases a<;>cases b<;>try rfl
 rename_i a b;simp only[eB,amn];cases h:Nat.ble b a with
 | true =>
   have:=Nat.le_of_ble_eq_true h;show Int.ofNat (a - b)=(a:Int) - (b:Int);exact Int.ofNat_sub this
 | false=>rfl
def DZ:Int->Int->Bool
 | .ofNat a,.ofNat b=>Nat.beq a b
 | .negSucc a,.negSucc b=>Nat.beq a b
 | _,_=>false
def Ru(a b:Int):DZ a b=(a == b):=by
 cases a<;>cases b<;>simp only[DZ]
 rename_i a b;rw[Bool.eq_iff_iff,beq_iff_eq,Int.ofNat.injEq];exact⟨λh=>Nat.eq_of_beq_eq_true h,λh=>by subst h;exact Nat.beq_refl a⟩;rw[Bool.eq_iff_iff,beq_iff_eq];exact⟨λh=>by simp at h,λh=>by cases h⟩;rw[Bool.eq_iff_iff,beq_iff_eq];exact⟨λh=>by simp at h,λh=>by cases h⟩;rename_i a b;rw[Bool.eq_iff_iff,beq_iff_eq,Int.negSucc.injEq];exact⟨λh=>Nat.eq_of_beq_eq_true h,λh=>by subst h;exact Nat.beq_refl a⟩
def Th:Int->Int->Bool
 | .ofNat a,.ofNat b=>Nat.ble a b
 | a,b=>decide (a<=b)
def X5(a b:Int):Th a b=decide (a<=b):=by
 cases a<;>cases b<;>try rfl
 rename_i a b;simp only[Th];rw[Bool.eq_iff_iff,decide_eq_true_iff];show _↔(a:Int)<=(b:Int);rw[Int.ofNat_le];exact⟨Nat.le_of_ble_eq_true,Nat.ble_eq_true_of_le⟩
def EQ:Int->Int->Bool
 | .ofNat a,.ofNat b=>Nat.ble (Nat.succ a) b
 | a,b=>decide (a < b)
def RE(a b:Int):EQ a b=decide (a < b):=by
 cases a<;>cases b<;>try rfl
 rename_i a b;simp only[EQ];rw[Bool.eq_iff_iff,decide_eq_true_iff];show _↔(a:Int) < (b:Int);rw[Int.ofNat_lt];exact⟨Nat.le_of_ble_eq_true,Nat.ble_eq_true_of_le⟩
def sameKind:IntKind->IntKind->Bool
 | .i64,.i64=>true
 | .u8,.u8=>true
 | _,_=>false
def V7{a b:IntKind}(h:sameKind a b=true):a=b:=by cases a<;>cases b<;>first | rfl | cases h
def aeS(k:IntKind)(a b:Int):BinOp->Option Value
 | .add=>some (.int k (MG k (yE a b)))
 | .sub=>some (.int k (MG k (eB a b)))
 | .mul=>some (.int k (MG k (a*b)))
 | .eql=>some (.bool (DZ a b))
 | .neq=>some (.bool (!DZ a b))
 | .lss=>some (.bool (EQ a b))
 | .leq=>some (.bool (Th a b))
 | .gtr=>some (.bool (EQ b a))
 | .geq=>some (.bool (Th b a))
 | _=>none
def aeT{P:Program}{op:BinOp}{k:IntKind}{a b:Int}{t:TypeId}{xo yo:Operand}{v:Value}(h:aeS k a b op=some v):pv P (do eqGuard op t xo yo (.int k a) (.int k b);binOp op t (.int k a) (.int k b))=some v/\scalar v=true:=by
 cases op<;>simp only[aeS,Option.some.injEq,reduceCtorEq] at h<;>subst h<;>refine⟨?_,rfl⟩<;>simp[eqGuard,binOp,Op.intArith,Op.intCmp,pv,UR,bH,eC,Ru,RE,X5,bne,Bind.bind,Sem.bind,Pure.pure]
def BZ:List UInt8->List UInt8->Bool
 | [],[]=>true
 | a::l,b::m=>(match Nat.beq a.toNat b.toNat with
   | true=>BZ l m
   | false=>false)
 | _,_=>false
def U8(l m:List UInt8):BZ l m=(l == m):=by
 induction l generalizing m with
 | nil=>cases m<;>rfl
 | cons a l ih =>
   cases m with
   | nil=>rfl
   | cons b m =>
     simp only[BZ];cases h:Nat.beq a.toNat b.toNat with
     | true =>
       have:a=b:=UInt8.toNat_inj.1 (Nat.eq_of_beq_eq_true h);subst this;simp only[ih];simp
     | false =>
       have:a≠b:=λe=>by subst e;have:=Nat.ne_of_beq_eq_false h;exact this rfl
       simp[this]
def akq(x y:ByteArray):BinOp->Option Value
 | .eql=>some (.bool (BZ x.data.toList y.data.toList))
 | .neq=>some (.bool (!BZ x.data.toList y.data.toList))
 | op=>tY op x y
def af9(x y:ByteArray)(op:BinOp):akq x y op=tY op x y:=by cases op<;>simp only[akq,tY,U8]
def acb(v:Option Value):Option AV:=match v with
 | some v=>(match scalar v with | true=>some (.sc v) | false=>none)
 | none=>none
def acd(v:Option Value):acb v=v.bind Zn:=by
 cases v with
 | none=>rfl
 | some v=>simp only[acb,Option.bind_some,Zn];cases scalar v<;>rfl
def scF(P:Program)(op:BinOp)(t:TypeId)(xo yo:Operand)(x y:Value):Option AV :=
 match x with
 | .int k a=>(match y with
   | .int k' b=>(match sameKind k k' with
     | true=>(match aeS k a b op with
       | some v=>some (.sc v)
       | none=>Mk P op t xo yo (.sc (.int k a)) (.sc (.int k' b)))
     | false=>Mk P op t xo yo (.sc (.int k a)) (.sc (.int k' b)))
   | y=>Mk P op t xo yo (.sc (.int k a)) (.sc y))
 | .string a=>(match y with
   | .string b=>acb (akq a b op)
   | y=>Mk P op t xo yo (.sc (.string a)) (.sc y))
 | x=>Mk P op t xo yo (.sc x) (.sc y)
def Xb(P:Program)(op:BinOp)(t:TypeId)(xo yo:Operand)(a b:AV):Option AV :=
 match a with
 | .sc x=>(match b with
   | .sc y=>scF P op t xo yo x y
   | b=>Mk P op t xo yo (.sc x) b)
 | a=>Mk P op t xo yo a b
def T4(P:Program)(op:BinOp)(t:TypeId)(xo yo:Operand)(a b:AV):Xb P op t xo yo a b=Mk P op t xo yo a b:=by
 unfold Xb;cases a with
 | sc x =>
   cases b with
   | sc y =>
     simp only[scF];cases x with
     | int k a =>
       cases y with
       | int k' b =>
         simp only;cases hk:sameKind k k' with
         | false=>rfl
         | true =>
           have:=V7 hk;subst this;simp only;cases hf:aeS k a b op with
           | none=>rfl
           | some v =>
             obtain⟨h1,h2⟩:=aeT (P:=P) (t:=t) (xo:=xo) (yo:=yo) hf;simp[Mk,SD,UH,h1,Zn,h2]
       | _=>rfl
     | string a =>
       cases y with
       | string b=>simp only[acd,af9];rfl
       | _=>rfl
     | _=>rfl
   | _=>rfl
 | _=>rfl
def abJ:List UInt8->Nat->Option UInt8
 | [],_=>none
 | a::_,0=>some a
 | _::l,n+1=>abJ l n
def afh(l:List UInt8)(n:Nat):abJ l n=l[n]?:=by
 induction l generalizing n with
 | nil=>simp[abJ]
 | cons a l ih=>cases n<;>simp[abJ,ih]
def akZ:Option UInt8->Option AV
 | some b=>some (.sc (.int .u8 (.ofNat b.toNat)))
 | none=>none
def Wx(P:Program)(t:TypeId)(x ix:AV):Option AV :=
 match x with
 | .sc (.string s)=>(match P.underlying t with
   | some .string=>(match QY ix with
     | some i=>akZ (abJ s.data.toList i)
     | none=>none)
   | _=>Ln P t (.sc (.string s)) ix)
 | x=>Ln P t x ix
def mA(P:Program)(t:TypeId)(x ix:AV):Wx P t x ix=Ln P t x ix:=by
 unfold Wx;cases x with
 | sc v =>
   cases v with
   | string s =>
     simp only;split
     . rename_i hu
       unfold Ln;rw[hu];cases QY ix with
       | none=>rfl
       | some i =>
         simp only[afh];cases s.data.toList[i]?<;>rfl
     rfl
   | _=>rfl
 | _=>rfl
end AI
namespace AI
open Go Go.RowKit
def nth:List AV->Nat->AV
 | [],_=>.sc undef
 | a::_,0=>a
 | _::l,n+1=>nth l n
def ajQ(l:List AV)(n:Nat):nth l n=l.getD n (.sc undef):=by
 induction l generalizing n with
 | nil=>simp[nth]
 | cons a l ih=>cases n<;>simp[nth,ih]
def evG:Option (List AV)->Option AV
 | some cs=>some (.el cs)
 | none=>none
def AW(G:A6)(fr:List AV):Operand->Option AV
 | .tmp t=>some (nth fr t)
 | .const v=>V0 v
 | .global g=>evG (G g)
 | .func f=>some (.fn (.func f) [] [])
def Cs(G:A6)(fr:List AV)(x:Operand):AW G fr x=A8 G fr x:=by
 cases x with
 | tmp t=>simp only[AW,A8,ajQ]
 | const v=>rfl
 | global g=>simp only[AW,A8];cases G g<;>rfl
 | func f=>rfl
def Mi(s:AS):Option AV->Option AR
 | some v=>some (.val v s)
 | none=>none
def Sb(s:AS)(o:Option AV):Mi s o=o.map (λv=>.val v s):=by cases o<;>rfl
def kO:Option AS->Option AR
 | some s=>some (.val (.sc undef) s)
 | none=>none
def agJ(o:Option AS):kO o=o.map (λs=>.val (.sc undef) s):=by cases o<;>rfl
def wZ:Option (AV×AS)->Option AR
 | some r=>some (.val r.1 r.2)
 | none=>none
def tD(o:Option (AV×AS)):wZ o=o.map (λr=>.val r.1 r.2):=by cases o<;>rfl
def eV{α β:Type}(o:Option α)(f:α->Option β):Option β:=match o with
 | some a=>f a
 | none=>none
def bP{α β:Type}(o:Option α)(f:α->Option β):eV o f=o.bind f:=by cases o<;>rfl
def two{β:Type}(a b:Option AV)(f:AV->AV->Option β):Option β:=match a with
 | some x=>(match b with
   | some y=>f x y
   | none=>none)
 | none=>none
def three{β:Type}(a b d:Option AV)(f:AV->AV->AV->Option β):Option β:=match a with
 | some x=>(match b with
   | some y=>(match d with
     | some z=>f x y z
     | none=>none)
   | none=>none)
 | none=>none
def ahP(x y:Option AV):Option AV->Option AV
 | some (.sc (.bool t))=>(match t with | true=>x | false=>y)
 | _=>none
def abG(s:AS):Option AV->Option AR
 | some z=>some (.val (.ptr s.nx 0) (s.new (.cells (cellsOf z))))
 | none=>none
def rM(s:AS):Option AV->Option AR
 | some z=>(match RB z with | true=>none | false=>some (.val (.ptr s.nx 0) (s.new (.cells (cellsOf z)))))
 | none=>none
def mJ(s:AS):Option AV->Option AR
 | some v=>(match notNil v with | true=>some (.val v s) | false=>none)
 | none=>none
def nP(t:TypeId)(s:AS)(v:Option AV):Option TypeDesc->Option AR
 | some d=>(match v with
   | some v=>(match isIface d with | true=>none | false=>some (.val (.E7 t v) s))
   | none=>none)
 | none=>none
def func1(f:Fn)(s:AS)(b:Option (List AV)):Option (List AV)->Option AR
 | some a=>(match b with
   | some b=>some (.val (.fn f a b) s)
   | none=>none)
 | none=>none
def acr(P:Program)(s:AS)(t:TypeId)(l h m:Option (Option AV)):Option AV->Option AR
 | some a=>(match l with
   | some l=>(match h with
     | some h=>(match m with
       | some m=>Mi s (Nk P t a l h m)
       | none=>none)
     | none=>none)
   | none=>none)
 | none=>none
def al3:Option AV->Option AR
 | some (.E7 t v)=>some (.IL (.E7 t v))
 | _=>none
def ak6(P:Program)(as:Option (List AV)):Option AV->Option AR
 | some (.fn (.func g) first Mn)=>(match as with
   | some as=>(match LZ P g with | true=>some (.ent g (first++as++Mn)) | false=>none)
   | none=>none)
 | _=>none
def alU(P:Program)(G:A6)(fr:List AV)(s:AS):List Operand->List TypeId->Option AR
 | [x],[t]=>Mi s (eV (AW G fr x) (Wc P s t))
 | _,_=>none
def akR(P:Program)(G:A6)(fr:List AV)(s:AS):List Operand->List TypeId->Option AR
 | [x,y],[t,tx]=>wZ (two (AW G fr x) (AW G fr y) (KN P s t tx))
 | _,_=>none
def ahS(P:Program)(s:AS)(f:List Value->Sem Value):Option (List Value)->Option AR
 | some vs=>Mi s (VK P (f vs))
 | none=>none
def ahT(P:Program)(s:AS)(f:Value->Sem Value):Option Value->Option AR
 | some v=>Mi s (VK P (f v))
 | none=>none
def Rm(P:Program)(G:A6)(fr:List AV)(s:AS)(o:Oper)(cl:Call):Builtin->Option AR
 | .len=>alU P G fr s cl.args.toList cl.argTypes.toList
 | .append=>akR P G fr s cl.args.toList cl.argTypes.toList
 | .max=>ahS P s (λvs=>Builtin.max_ cl.argTypes o.type vs.toArray) (eV (Y8 G fr cl.args.toList) OG)
 | .min=>ahS P s (λvs=>Builtin.min_ cl.argTypes o.type vs.toArray) (eV (Y8 G fr cl.args.toList) OG)
 | _=>none
def bG(P:Program)(G:A6)(fr:List AV)(s:AS)(o:Oper)(cl:Call):Option AR :=
 match cl.callee with
 | .builtin b=>Rm P G fr s o cl b
 | .value f=>ak6 P (Y8 G fr cl.args.toList) (AW G fr f)
 | _=>none
def iU(s:AS):Option Operand->Option AR
 | none=>some (.val (.mp s.nx) (s.new (.map [] 0)))
 | some _=>none
def T5(P:Program)(G:A6)(fr:List AV)(s:AS)(o:Oper):Option AR :=
 match o.op with
 | .move x=>Mi s (AW G fr x)
 | .assign x=>Mi s (AW G fr x)
 | .pick c a b=>Mi s (ahP (AW G fr a) (AW G fr b) (AW G fr c))
 | .alloc e=>abG s (LY P e)
 | .box _ x=>rM s (AW G fr x)
 | .build t ps=>Mi s (eV (LH G fr ps.toList) (Xc P t))
 | .buildSlice t n ps=>Mi s (eV (LH G fr ps.toList) (LW P t n))
 | .load t a=>Mi s (eV (AW G fr a) (Jg P s t))
 | .store t a x=>kO (two (AW G fr a) (AW G fr x) (Kk P s t))
 | .nilCheck x=>mJ s (AW G fr x)
 | .binOp op t x y _=>Mi s (two (AW G fr x) (AW G fr y) (Xb P op t x y))
 | .unOp op _ x=>ahT P s (Op.unary op) (eV (AW G fr x) YD)
 | .convert src dst x=>Mi s (eV (AW G fr x) (VJ P src dst))
 | .makeInterface t x=>nP t s (AW G fr x) (P.underlying t)
 | .makeFunc f first Mn=>func1 f s (Y8 G fr Mn.toList) (Y8 G fr first.toList)
 | .makeMap _ r=>iU s r
 | .makeSlice t l c=>wZ (two (AW G fr l) (AW G fr c) (Jh P s t))
 | .slice t x lo hi mx=>acr P s t (eX G fr lo) (eX G fr hi) (eX G fr mx) (AW G fr x)
 | .fieldAddr t x k=>Mi s (eV (AW G fr x) λa=>Re P t a k)
 | .field t x k=>Mi s (eV (AW G fr x) λa=>Xf P t a k)
 | .indexAddr t x i=>Mi s (two (AW G fr x) (AW G fr i) (Db P t))
 | .index t x i=>Mi s (two (AW G fr x) (AW G fr i) (Wx P t))
 | .lookup t x k ok=>Mi s (two (AW G fr x) (AW G fr k) λa b=>IV P s t a b ok)
 | .mapUpdate t m k x=>kO (three (AW G fr m) (AW G fr k) (AW G fr x) (Ka P s t))
 | .insert t m k x=>kO (three (AW G fr m) (AW G fr k) (AW G fr x) (Ka P s t))
 | .mapEntry t m k=>wZ (two (AW G fr m) (AW G fr k) (Ph P s t))
 | .entryStore _ m st x=>kO (three (AW G fr m) (AW G fr st) (AW G fr x) (LX s))
 | .extract x k=>Mi s (eV (AW G fr x) λa=>Rc a k)
 | .call cl=>bG P G fr s o cl
 | .panic x=>al3 (AW G fr x)
 | _=>none
def tQ(P:Program)(G:A6)(fr:List AV)(s:AS)(o:Oper)(cl:Call):bG P G fr s o cl=SE P G fr s o cl:=by
 unfold bG SE;cases hc:cl.callee with
 | value f =>
   simp only[Cs];cases A8 G fr f with
   | none=>rfl
   | some v =>
     cases v with
     | fn g a b =>
       cases g with
       | func g =>
         cases Y8 G fr cl.args.toList with
         | none=>rfl
         | some as =>
           simp only[ak6];cases LZ P g<;>rfl
       | _=>rfl
     | _=>rfl
 | invoke r m=>rfl
 | builtin b =>
   cases b<;>try rfl
   . simp only[Rm]
     cases hx:cl.args.toList with
     | nil=>rfl
     | cons x xs =>
       cases xs with
       | nil=>rfl
       | cons y ys =>
         cases ys with
         | cons z zs=>rfl
         | nil =>
           cases ht:cl.argTypes.toList with
           | nil=>rfl
           | cons t ts =>
             cases ts with
             | nil=>rfl
             | cons u us =>
               cases us with
               | cons v vs=>rfl
               | nil =>
                 simp only[akR,Cs];cases A8 G fr x<;>cases A8 G fr y<;>first | rfl | exact tD _
   . simp only[Rm]
     cases hx:cl.args.toList with
     | nil=>rfl
     | cons x xs =>
       cases xs with
       | cons y ys=>rfl
       | nil =>
         cases ht:cl.argTypes.toList with
         | nil=>rfl
         | cons t ts =>
           cases ts with
           | cons u us=>rfl
           | nil=>simp only[alU,Cs,bP];exact Sb _ _
   simp only[Rm,bP];cases (Y8 G fr cl.args.toList).bind OG with
   | none=>rfl
   | some vs=>exact Sb _ _
   simp only[Rm,bP];cases (Y8 G fr cl.args.toList).bind OG with
   | none=>rfl
   | some vs=>exact Sb _ _
def ML(P:Program)(G:A6)(fr:List AV)(s:AS)(o:Oper):T5 P G fr s o=PX P G fr s o:=by
 unfold T5 PX;cases ho:o.op<;>simp only[Cs,Sb,agJ,tD,bP,tQ]
 case pick c a b =>
   cases A8 G fr c with
   | none=>rfl
   | some v =>
     cases v with
     | sc u=>cases u<;>first | rfl | (rename_i t;cases t<;>rfl)
     | _=>rfl
 case alloc e=>cases LY P e<;>rfl
 case box e x =>
   cases A8 G fr x with
   | none=>rfl
   | some v=>cases v<;>rfl
 case store t a x=>cases A8 G fr a<;>cases A8 G fr x<;>rfl
 case nilCheck x =>
   cases A8 G fr x with
   | none=>rfl
   | some v=>simp only[mJ];cases notNil v<;>rfl
 case binOp op t x y z=>cases A8 G fr x<;>cases A8 G fr y<;>first | rfl | (simp only[two,T4])
 case unOp op t x=>cases (A8 G fr x).bind YD with
   | none=>rfl
   | some v=>exact Sb _ _
 case makeInterface t x =>
   cases A8 G fr x with
   | none=>cases P.underlying t<;>rfl
   | some v =>
     cases P.underlying t with
     | none=>rfl
     | some d=>simp only[nP];cases isIface d<;>rfl
 case makeFunc f a b=>cases Y8 G fr a.toList<;>cases Y8 G fr b.toList<;>rfl
 case makeMap t r=>cases r<;>rfl
 case makeSlice t l c=>cases A8 G fr l<;>cases A8 G fr c<;>rfl
 case slice t x lo hi mx =>
   cases A8 G fr x<;>cases eX G fr lo<;>cases eX G fr hi<;>cases eX G fr mx<;>first | rfl | exact Sb _ _
 case indexAddr t x i=>cases A8 G fr x<;>cases A8 G fr i<;>rfl
 case index t x i=>cases A8 G fr x<;>cases A8 G fr i<;>first | rfl | (simp only[two,mA])
 case lookup t x k ok=>cases A8 G fr x<;>cases A8 G fr k<;>rfl
 case mapUpdate t m k x=>cases A8 G fr m<;>cases A8 G fr k<;>cases A8 G fr x<;>rfl
 case insert t m k x=>cases A8 G fr m<;>cases A8 G fr k<;>cases A8 G fr x<;>rfl
 case mapEntry t m k=>cases A8 G fr m<;>cases A8 G fr k<;>rfl
 case entryStore t m k x=>cases A8 G fr m<;>cases A8 G fr k<;>cases A8 G fr x<;>rfl
 case panic x =>
   cases A8 G fr x with
   | none=>rfl
   | some v=>cases v<;>rfl
end AI
namespace AI
open Go Go.RowKit
abbrev Rec:=Tk->Option Rs
def amj(r:Rec)(y:Code):Option Rs->Option Rs
 | some (.code e fr s)=>(match e with
   | .normal=>r (.code y fr s)
   | e=>some (.code e fr s))
 | _=>none
def ahk(r:Rec)(x y:Code)(fr:List AV)(s:AS):Option AV->Option Rs
 | some (.sc (.bool t))=>(match t with
   | true=>r (.code x fr s)
   | false=>r (.code y fr s))
 | _=>none
def yL(id:Nat):Option Rs->Option Rs
 | some (.code e fr s)=>some (.code (EL id e) fr s)
 | _=>none
def zL:Option Rs->Option Rs
 | some (.code e fr s)=>some (.code e fr s)
 | _=>none
def ak5(P:Program)(G:A6)(ops:Array Oper)(q:Nat)(rs:List AL):Option Rs->Option Rs
 | some (.tr t fr s)=>(match ako P G ops t s q rs with
   | true=>some (.code .normal fr s)
   | false=>none)
 | _=>none
def alD(P:Program)(G:A6)(r:Rec)(ops:Array Oper)(fr:List AV)(s:AS):Option (List AL)->Option Rs
 | some rs=>ak5 P G ops s.nx rs (r (.draw ops ops.toList fr (s.hold rs) s.nx))
 | none=>none
def ak4(P:Program)(G:A6)(r:Rec)(ops:Array Oper)(fr:List AV)(s:AS):Bool->Option Rs
 | true=>alD P G r ops fr s (rsv P ops.toList)
 | false=>none
def sB(P:Program)(G:A6)(r:Rec)(ops:Array Oper)(fr:List AV)(s:AS):Bool->Option Rs
 | false=>zL (r (.ops ops ops.toList fr s))
 | true=>ak4 P G r ops fr s (L2 ops)
def acy(P:Program)(G:A6)(r:Rec)(fr:List AV)(s:AS):Code->Option Rs
 | .skip=>some (.code .normal fr s)
 | .exit id=>some (.code (.exit id) fr s)
 | .ret=>some (.code .ret fr s)
 | .seq x y=>amj r y (r (.code x fr s))
 | .cond q x y=>ahk r x y fr s (AW G fr q)
 | .block id c=>yL id (r (.code c fr s))
 | .loop c=>zL (r (.loop c fr s))
 | .region _ ops d=>sB P G r ops fr s d
 | _=>none
def ahI(r:Rec)(c:Code):Option Rs->Option Rs
 | some (.code e fr s)=>(match e with
   | .normal=>r (.loop c fr s)
   | e=>some (.code e fr s))
 | _=>none
def apE(r:Rec)(ops:Array Oper)(dst:Option Tmp)(l:List Oper)(fr:List AV):Option Rs->Option Rs
 | some (.call c s)=>(match c with
   | .ret v=>r (.ops ops l (Ir fr dst v) s)
   | .IL v=>some (.code (.IL v) fr s))
 | _=>none
def af8(r:Rec)(ops:Array Oper)(fr:List AV)(s:AS):List Oper->Option Rs
 | []=>some (.code .normal fr s)
 | o::l=>apE r ops o.dst l fr (r (.op ops o fr s))
def trK(fr:List AV)(s:AS)(v:AV):Option Rs->Option Rs
 | some (.tr t U9 s2)=>some (.tr ((fr,s,v)::t) U9 s2)
 | _=>none
def akz(r:Rec)(ops:Array Oper)(dst:Option Tmp)(l:List Oper)(fr:List AV)(s:AS)(q:Nat):Option Rs->Option Rs
 | some (.call (.ret v) s1)=>trK fr s v (r (.draw ops l (Ir fr dst v) s1 q))
 | _=>none
def ail(r:Rec)(ops:Array Oper)(o:Oper)(l:List Oper)(fr:List AV)(s:AS)(q:Nat)(v:AV):Option Rs:=trK fr s v (r (.draw ops l (Ir fr o.dst v) s (q+1)))
def aky(r:Rec)(ops:Array Oper)(o:Oper)(l:List Oper)(fr:List AV)(s:AS)(q:Nat):Bool->Option Rs
 | true=>ail r ops o l fr s q (OO ops fr o q)
 | false=>akz r ops o.dst l fr s q (r (.op ops o fr s))
def kC(r:Rec)(ops:Array Oper)(fr:List AV)(s:AS)(q:Nat):List Oper->Option Rs
 | []=>some (.tr [] fr s)
 | o::l=>aky r ops o l fr s q (BY o.op)
def ak0:Option Rs->Option Rs
 | some (.call c s)=>some (.call c s)
 | _=>none
def opK(r:Rec)(s:AS):Option AR->Option Rs
 | some (.val v s1)=>some (.call (.ret v) s1)
 | some (.IL v)=>some (.call (.IL v) s)
 | some (.ent f args)=>ak0 (r (.call f args s))
 | none=>none
def aax(ops:Array Oper)(fr:List AV):Option (Nat×Bool)->Bool
 | none=>true
 | some p=>(match (ops[p.1]?).bind (·.dst) with
   | some d=>(match nth fr d with
     | .sc (.bool b)=>b == p.2
     | _=>false)
   | none=>false)
def akp(P:Program)(G:A6)(r:Rec)(fr:List AV)(s:AS)(o:Oper):Bool->Option Rs
 | true=>opK r s (T5 P G fr s o)
 | false=>some (.call (.ret (.sc undef)) s)
def alF(k:CR->Option CR):Option Rs->Option Rs
 | some (.call c s)=>(match k c with
   | some c1=>some (.call c1 s)
   | none=>none)
 | _=>none
def al9(s:AS)(n:Nat):Option AV->Option Rs
 | some v=>some (.call (.ret v) (fin v s n))
 | none=>none
def akY(P:Program)(fn:Func)(n:Nat):Option Rs->Option Rs
 | some (.code e fr s)=>(match e with
   | .normal=>al9 s n (Gn P s fn fr)
   | .ret=>al9 s n (Gn P s fn fr)
   | .IL v=>some (.call (.IL v) (s.cut n))
   | .exit _=>none)
 | _=>none
def akX(P:Program)(r:Rec)(fn:Func)(args:List AV)(s:AS):Option Code->Option Rs
 | some c=>akY P fn s.nx (r (.code c (args++List.replicate (fn.ntmps - args.length) (.sc undef)) s))
 | none=>none
def qD(P:Program)(r:Rec)(args:List AV)(s:AS):Option Func->Option Rs
 | some fn=>akX P r fn args s fn.body
 | none=>none
def alE(P:Program)(r:Rec)(f:FuncId)(args:List AV)(s:AS):Option (FuncId×List AV×(CR->Option CR))->Option Rs
 | some (g,XG,k)=>alF k (r (.call g XG s))
 | none=>qD P r args s P.funcs[f]?
def ak8(P:Program)(H:S0)(r:Rec)(f:FuncId)(args:List AV)(s:AS):Option (CR×AS)->Option Rs
 | some (c,s1)=>some (.call c s1)
 | none=>alE P r f args s (H f args)
def step(P:Program)(G:A6)(X:ahb)(H:S0)(r:Rec):Tk->Option Rs
 | .code c fr s=>acy P G r fr s c
 | .loop c fr s=>ahI r c (r (.code c fr s))
 | .ops ops l fr s=>af8 r ops fr s l
 | .draw ops l fr s q=>kC r ops fr s q l
 | .op ops o fr s=>akp P G r fr s o (aax ops fr o.guard)
 | .call f args s=>ak8 P H r f args s (X f args s)
end AI
namespace AI
open Go Go.RowKit
def apA(l:List AV):Nat->AV:=List.rec (motive:=λ_=>Nat->AV) (λ_=>.sc undef) (λa _ ih n=>Nat.rec (motive:=λ_=>AV) a (λk _=>ih k) n) l
def apK(v:AV)(l:List AV):Nat->List AV:=List.rec (motive:=λ_=>Nat->List AV) (λ_=>[]) (λa t ih n=>Nat.rec (motive:=λ_=>List AV) (v::t) (λk _=>a::ih k) n) l
def akS(fr:List AV)(dst:Option Tmp)(v:AV):List AV:=Option.rec (motive:=λ_=>List AV) fr (λd=>apK v fr d) dst
abbrev Sm:=Program->A6->List AV->AS->Oper->Option AR
def aiC(t:Tmp)(_:A6)(fr:List AV):Option AV:=some (apA fr t)
def aem(v:Value)(_:A6)(_:List AV):Option AV:=V0 v
def aiB(g:Nat)(G:A6)(_:List AV):Option AV:=evG (G g)
def aog(f:FuncId)(_:A6)(_:List AV):Option AV:=some (.fn (.func f) [] [])
def evR(x:Operand):A6->List AV->Option AV:=Operand.rec (motive:=λ_=>A6->List AV->Option AV) aiC aem aiB aog x
def dC{α β:Type}(o:Option α)(f:α->Option β):Option β:=Option.rec (motive:=λ_=>Option β) none f o
def alV(s:AS)(v:AV):Option AR:=some (.val v s)
def w7(s:AS)(o:Option AV):Option AR:=dC o (alV s)
def sK(x:Operand):Sm:=λ_ G fr s _=>w7 s (evR x G fr)
def af2(c a b:Operand):Sm:=λ_ G fr s _=>Mi s (ahP (AW G fr a) (AW G fr b) (AW G fr c))
def ace(e:TypeId):Sm:=λP _ _ s _=>abG s (LY P e)
def ake(_:TypeId)(x:Operand):Sm:=λ_ G fr s _=>rM s (AW G fr x)
def acf(t:TypeId)(ps:Array (Nat×Operand)):Sm:=λP G fr s _=>Mi s (eV (LH G fr ps.toList) (Xc P t))
def Zo(t:TypeId)(n:Nat)(ps:Array (Nat×Operand)):Sm:=λP G fr s _=>Mi s (eV (LH G fr ps.toList) (LW P t n))
def af0(t:TypeId)(a:Operand):Sm:=λP G fr s _=>w7 s (dC (evR a G fr) (Jg P s t))
def aco(t:TypeId)(a x:Operand):Sm:=λP G fr s _=>kO (two (AW G fr a) (AW G fr x) (Kk P s t))
def akg(x:Operand):Sm:=λ_ G fr s _=>mJ s (AW G fr x)
def akd(op:BinOp)(t:TypeId)(x y:Operand)(_:TypeId):Sm:=λP G fr s _=>w7 s (dC (evR x G fr) (λa=>dC (evR y G fr) (λb=>Xb P op t x y a b)))
def amh(op:UnOp)(_:TypeId)(x:Operand):Sm:=λP G fr s _=>ahT P s (Op.unary op) (eV (AW G fr x) YD)
def afY(src dst:TypeId)(x:Operand):Sm:=λP G fr s _=>Mi s (eV (AW G fr x) (VJ P src dst))
def aci(t:TypeId)(x:Operand):Sm:=λP G fr s _=>nP t s (AW G fr x) (P.underlying t)
def afZ(f:Fn)(first Mn:Array Operand):Sm:=λ_ G fr s _=>func1 f s (Y8 G fr Mn.toList) (Y8 G fr first.toList)
def akf(_:TypeId)(r:Option Operand):Sm:=λ_ _ _ s _=>iU s r
def af1(t:TypeId)(l c:Operand):Sm:=λP G fr s _=>wZ (two (AW G fr l) (AW G fr c) (Jh P s t))
def acn(t:TypeId)(x:Operand)(lo hi mx:Option Operand):Sm:=λP G fr s _=>acr P s t (eX G fr lo) (eX G fr hi) (eX G fr mx) (AW G fr x)
def wD(t:TypeId)(x:Operand)(k:Nat):Sm:=λP G fr s _=>w7 s (dC (evR x G fr) λa=>Re P t a k)
def ach(t:TypeId)(x:Operand)(k:Nat):Sm:=λP G fr s _=>Mi s (eV (AW G fr x) λa=>Xf P t a k)
def wE(t:TypeId)(x i:Operand):Sm:=λP G fr s _=>w7 s (dC (evR x G fr) (λa=>dC (evR i G fr) (λb=>Db P t a b)))
def acj(t:TypeId)(x i:Operand):Sm:=λP G fr s _=>w7 s (dC (evR x G fr) (λa=>dC (evR i G fr) (λb=>Wx P t a b)))
def wF(t:TypeId)(x k:Operand)(ok:Bool):Sm:=λP G fr s _=>Mi s (two (AW G fr x) (AW G fr k) λa b=>IV P s t a b ok)
def acm(t:TypeId)(m k x:Operand):Sm:=λP G fr s _=>kO (three (AW G fr m) (AW G fr k) (AW G fr x) (Ka P s t))
def acg(t:TypeId)(m k:Operand):Sm:=λP G fr s _=>wZ (two (AW G fr m) (AW G fr k) (Ph P s t))
def wC(_:TypeId)(m st x:Operand):Sm:=λ_ G fr s _=>kO (three (AW G fr m) (AW G fr st) (AW G fr x) (LX s))
def oT(x:Operand)(k:Nat):Sm:=λ_ G fr s _=>Mi s (eV (AW G fr x) λa=>Rc a k)
def afX(cl:Call):Sm:=λP G fr s o=>bG P G fr s o cl
def ack(x:Operand):Sm:=λ_ G fr _ _=>al3 (AW G fr x)
def amg:Sm:=λ_ _ _ _ _=>none
def al1(op:Op):Sm:=match op with
 | .move x=>sK x
 | .assign x=>sK x
 | .pick c a b=>af2 c a b
 | .alloc e=>ace e
 | .box e x=>ake e x
 | .build t ps=>acf t ps
 | .buildSlice t n ps=>Zo t n ps
 | .load t a=>af0 t a
 | .store t a x=>aco t a x
 | .nilCheck x=>akg x
 | .binOp op t x y z=>akd op t x y z
 | .unOp op t x=>amh op t x
 | .convert a b x=>afY a b x
 | .makeInterface t x=>aci t x
 | .makeFunc f a b=>afZ f a b
 | .makeMap t r=>akf t r
 | .makeSlice t l c=>af1 t l c
 | .slice t x lo hi mx=>acn t x lo hi mx
 | .fieldAddr t x k=>wD t x k
 | .field t x k=>ach t x k
 | .indexAddr t x i=>wE t x i
 | .index t x i=>acj t x i
 | .lookup t x k ok=>wF t x k ok
 | .mapUpdate t m k x=>acm t m k x
 | .insert t m k x=>acm t m k x
 | .mapEntry t m k=>acg t m k
 | .entryStore t m st x=>wC t m st x
 | .extract x k=>oT x k
 | .call cl=>afX cl
 | .panic x=>ack x
 | _=>amg
def aay(ops:Array Oper)(fr:List AV)(g:Option (Nat×Bool)):Bool:=Option.rec (motive:=λ_=>Bool) true (λp=>aax ops fr (some p)) g
def al2(r:Rec)(ops:Array Oper)(dst:Option Tmp)(l:List Oper)(fr:List AV):Option Rs->Option Rs
 | some (.call c s)=>(match c with
   | .ret v=>r (.ops ops l (akS fr dst v) s)
   | .IL v=>some (.code (.IL v) fr s))
 | _=>none
def sR(P:Program)(G:A6)(r:Rec)(fr:List AV)(s:AS)(o:Oper)(b:Bool):Option Rs:=Bool.rec (motive:=λ_=>Option Rs) (some (.call (.ret (.sc undef)) s)) (opK r s (al1 o.op P G fr s o)) b
def acz(P:Program)(G:A6)(r:Rec)(ops:Array Oper)(fr:List AV)(s:AS)(l:List Oper):Option Rs:=List.rec (motive:=λ_=>Option Rs) (some (.code .normal fr s)) (λo l _=>al2 r ops o.dst l fr (sR P G r fr s o (aay ops fr o.guard))) l
abbrev Ss:=Program->A6->Rec->List AV->AS->Option Rs
def akm:Ss:=λ_ _ _ fr s=>some (.code .normal fr s)
def akk(id:Nat):Ss:=λ_ _ _ fr s=>some (.code (.exit id) fr s)
def amk:Ss:=λ_ _ _ fr s=>some (.code .ret fr s)
def aml(x y:Code):Ss:=λ_ _ r fr s=>amj r y (r (.code x fr s))
def akj(q:Operand)(x y:Code):Ss:=λ_ G r fr s=>ahk r x y fr s (AW G fr q)
def af6(id:Nat)(c:Code):Ss:=λ_ _ r fr s=>yL id (r (.code c fr s))
def akl(c:Code):Ss:=λ_ _ r fr s=>zL (r (.loop c fr s))
def acu(_:Nat)(ops:Array Oper)(d:Bool):Ss:=λP G r fr s=>sB P G r ops fr s d
def apL:Ss:=λ_ _ _ _ _=>none
def aeh(c:Code):Ss:=match c with
 | .skip=>akm
 | .exit id=>akk id
 | .ret=>amk
 | .seq x y=>aml x y
 | .cond q x y=>akj q x y
 | .block id c=>af6 id c
 | .loop c=>akl c
 | .region id ops d=>acu id ops d
 | _=>apL
def OD(P:Program)(G:A6)(X:ahb)(H:S0)(r:Rec):Tk->Option Rs
 | .code c fr s=>aeh c P G r fr s
 | .loop c fr s=>ahI r c (r (.code c fr s))
 | .ops ops l fr s=>acz P G r ops fr s l
 | .draw ops l fr s q=>kC r ops fr s q l
 | .op ops o fr s=>sR P G r fr s o (aay ops fr o.guard)
 | .call f args s=>ak8 P H r f args s (X f args s)
end AI
namespace AI
open Go Go.RowKit
mutual
def plain:AV->Bool
 | .sc _=>true
 | .agg cs=>BA cs
 | .Dk cs=>BA cs
 | .sl o _ cs=>(match o with | .row _ _=>false | _=>true)&&BA cs
 | .E7 _ v=>plain v
 | .el cs=>BA cs
 | .fn _ a b=>BA a&&BA b
 | .any=>true
 | _=>false
def BA:List AV->Bool
 | []=>true
 | a::l=>plain a&&BA l
end
mutual
def Tj:AV->AV
 | .agg cs=>.agg (X9 cs)
 | .Dk cs=>.Dk (X9 cs)
 | .sl o n cs=>.sl (match o with | .row _ _=>.lost | o=>o) n (X9 cs)
 | .E7 t v=>.E7 t (Tj v)
 | .el cs=>.el (X9 cs)
 | a=>a
def X9:List AV->List AV
 | []=>[]
 | a::l=>Tj a::X9 l
end
mutual
def bQ:AV->Bool
 | .sc _=>true
 | .agg cs=>KP cs
 | .Dk cs=>KP cs
 | .sl _ _ cs=>KP cs
 | .E7 _ v=>bQ v
 | .el cs=>KP cs
 | .any=>true
 | _=>false
def KP:List AV->Bool
 | []=>true
 | a::l=>bQ a&&KP l
end
section
variable {c c':Cx} {w w':World}
mutual
def Rp.plain(hv:∀g i v,LD c w g i v->LD c' w' g i v):∀{a:AV} {v:Value},AI.plain a=true->Rp c w a v->Rp c' w' a v:=by
 intro a v hp h;cases h with
 | sc h1=>exact .sc h1
 | agg h1=>exact .agg (CG.plain hv hp h1)
 | Dk h1=>exact .Dk (CG.plain hv hp h1)
 | @Jc own A cap h1 =>
   simp only[AI.plain,Bool.and_eq_true] at hp;cases own with
   | full=>exact .Jc h1
   | nil=>exact .Jc h1
   | nn=>exact .Jc h1
   | lost=>exact .Jc h1
   | row r sz=>cases hp.1
 | @KM own n cap g o cs hn h1 ho =>
   simp only[AI.plain,Bool.and_eq_true] at hp;refine .KM hn (A9.plain hv hp.2 h1) ?_;cases own with
   | full=>exact ho
   | nil=>exact ho
   | nn=>exact ho
   | lost=>trivial
   | row r sz=>cases hp.1
 | ID hn h1=>cases hp
 | el h1=>exact .el (A9.plain hv hp h1)
 | ptr h1=>cases hp
 | fn h1 h2 =>
   simp only[AI.plain,Bool.and_eq_true] at hp;exact .fn (CG.plain hv hp.1 h1) (CG.plain hv hp.2 h2)
 | E7 h1=>exact .E7 (Rp.plain hv hp h1)
 | mp h1=>cases hp
 | any h1=>exact .any h1
 | raw=>first | (cases hp;done) | exact .raw
def CG.plain(hv:∀g i v,LD c w g i v->LD c' w' g i v):∀{a:List AV} {v:List Value},AI.BA a=true->CG c w a v->CG c' w' a v:=by
 intro a v hp h;cases h with
 | nil=>exact .nil
 | cons h1 t =>
   simp only[AI.BA,Bool.and_eq_true] at hp;exact .cons (Rp.plain hv hp.1 h1) (CG.plain hv hp.2 t)
def A9.plain(hv:∀g i v,LD c w g i v->LD c' w' g i v):∀{a:List AV} {g o:Nat},AI.BA a=true->A9 c w g o a->A9 c' w' g o a:=by
 intro a g o hp h;cases h with
 | nil=>exact .nil
 | cons iJ h1 t =>
   simp only[AI.BA,Bool.and_eq_true] at hp;exact .cons (hv _ _ _ iJ) (Rp.plain hv hp.1 h1) (A9.plain hv hp.2 t)
end
mutual
def Rp.Tj(hv:∀g i v,LD c w g i v->LD c' w' g i v):∀{a:AV} {v:Value},bQ a=true->Rp c w a v->Rp c' w' (AI.Tj a) v:=by
 intro a v hp h;cases h with
 | sc h1=>exact .sc h1
 | agg h1=>exact .agg (CG.Tj hv hp h1)
 | Dk h1=>exact .Dk (CG.Tj hv hp h1)
 | @Jc own A cap h1 =>
   cases own with
   | full=>exact .Jc h1
   | nil=>exact .Jc h1
   | nn=>exact .Jc h1
   | lost=>exact .Jc h1
   | row r sz=>exact .Jc trivial
 | @KM own n cap g o cs hn h1 ho =>
   have h2:=A9.Tj hv hp h1;refine .KM hn h2 ?_;cases own with
   | full=>exact ho
   | nil=>exact ho
   | nn=>exact ho
   | lost=>trivial
   | row r sz=>trivial
 | ID hn h1=>cases hp
 | el h1=>exact .el (A9.Tj hv hp h1)
 | ptr h1=>cases hp
 | fn h1 h2=>cases hp
 | E7 h1=>exact .E7 (Rp.Tj hv hp h1)
 | mp h1=>cases hp
 | any h1=>exact .any h1
 | raw=>first | (cases hp;done) | exact .raw
def CG.Tj(hv:∀g i v,LD c w g i v->LD c' w' g i v):∀{a:List AV} {v:List Value},KP a=true->CG c w a v->CG c' w' (AI.X9 a) v:=by
 intro a v hp h;cases h with
 | nil=>exact .nil
 | cons h1 t =>
   simp only[AI.KP,Bool.and_eq_true] at hp;exact .cons (Rp.Tj hv hp.1 h1) (CG.Tj hv hp.2 t)
def A9.Tj(hv:∀g i v,LD c w g i v->LD c' w' g i v):∀{a:List AV} {g o:Nat},KP a=true->A9 c w g o a->A9 c' w' g o (AI.X9 a):=by
 intro a g o hp h;cases h with
 | nil=>exact .nil
 | cons iJ h1 t =>
   simp only[AI.KP,Bool.and_eq_true] at hp;exact .cons (hv _ _ _ iJ) (Rp.Tj hv hp.1 h1) (A9.Tj hv hp.2 t)
end
end
def s0:AS:=⟨[],0,[],0⟩
end AI
namespace AI
open Go Go.RowKit
mutual
def under(n m:Nat):AV->Bool
 | .sc _=>true
 | .agg cs=>Fp n m cs
 | .Dk cs=>Fp n m cs
 | .sl o _ cs=>(match o with | .row r _=>decide (r < m) | _=>true)&&Fp n m cs
 | .ID id _ _=>decide (id < n)
 | .el cs=>Fp n m cs
 | .ptr id _=>decide (id < n)
 | .fn _ a b=>Fp n m a&&Fp n m b
 | .E7 _ v=>under n m v
 | .mp id=>decide (id < n)
 | .any=>true
 | .raw _ _ _=>true
def Fp(n m:Nat):List AV->Bool
 | []=>true
 | a::l=>under n m a&&Fp n m l
end
mutual
def G9(n m:Nat):∀{a:AV},plain a=true->under n m a=true
 | .sc _,_=>rfl
 | .agg cs,h=>by simp only[plain] at h;simp only[under];exact Cl n m h
 | .Dk cs,h=>by simp only[plain] at h;simp only[under];exact Cl n m h
 | .sl o k cs,h=>by
   simp only[plain,Bool.and_eq_true] at h;simp only[under,Bool.and_eq_true];refine⟨?_,Cl n m h.2⟩;cases o with
   | row r sz=>cases h.1
   | _=>rfl
 | .ID _ _ _,h=>by cases h
 | .el cs,h=>by simp only[plain] at h;simp only[under];exact Cl n m h
 | .ptr _ _,h=>by cases h
 | .fn _ a b,h=>by
   simp only[plain,Bool.and_eq_true] at h;simp only[under,Bool.and_eq_true];exact⟨Cl n m h.1,Cl n m h.2⟩
 | .E7 _ v,h=>by simp only[plain] at h;simp only[under];exact G9 n m h
 | .mp _,h=>by cases h
 | .any,_=>rfl
 | .raw _ _ _,_=>rfl
def Cl(n m:Nat):∀{l:List AV},BA l=true->Fp n m l=true
 | [],_=>rfl
 | a::l,h=>by
   simp only[BA,Bool.and_eq_true] at h;simp only[Fp,Bool.and_eq_true];exact⟨G9 n m h.1,Cl n m h.2⟩
end
def Cx.upto(c:Cx)(n m:Nat):Cx:=⟨c.base,c.CS.take n,c.rows.take m,c.bad⟩
def EK{α:Type}{l:List α}{n i:Nat}{x:α}(h:(l.take n)[i]?=some x):l[i]?=some x/\i < n:=by
 rw[List.getElem?_take] at h;split at h;rename_i hi;exact⟨h,hi⟩;cases h
def QC{α:Type}{l:List α}{n i:Nat}{x:α}(h:l[i]?=some x)(hi:i < n):(l.take n)[i]?=some x:=by
 rw[List.getElem?_take,if_pos hi];exact h
section
variable {c:Cx} {w:World} {n m:Nat}
def acp{g i:Nat}(h:(c.upto n m).Zp g i):c.Zp g i:=by
 rcases h with h | ⟨r,n,cap,sz,hr,h⟩ | h
 exact .inl (List.mem_of_mem_take h);exact .inr (.inl ⟨r,n,cap,sz,(EK hr).1,h⟩);exact .inr (.inr h)
def UO{g i:Nat}{v:Value}(h:LD c w g i v):LD (c.upto n m) w g i v:=⟨h.1,λhs=>h.2.1 (acp hs),h.2.2⟩
mutual
def Rp.upto:∀{a:AV} {v:Value},under n m a=true->Rp c w a v->Rp (c.upto n m) w a v:=by
 intro a v hp h;cases h with
 | sc h1=>exact .sc h1
 | agg h1=>exact .agg (CG.upto hp h1)
 | Dk h1=>exact .Dk (CG.upto hp h1)
 | @Jc own A cap h1 =>
   simp only[AI.under,Bool.and_eq_true] at hp;cases own with
   | full=>exact .Jc h1
   | nil=>exact .Jc h1
   | nn=>exact .Jc h1
   | lost=>exact .Jc trivial
   | row r sz =>
     have hr:r < m:=of_decide_eq_true hp.1;refine .Jc ⟨h1.1,?_⟩;have:=h1.2;simp only[Cx.upto,List.length_take];omega
 | @KM own k cap g o cs hn h1 ho =>
   simp only[AI.under,Bool.and_eq_true] at hp;refine .KM hn (A9.upto hp.2 h1) ?_;cases own with
   | full=>exact ho
   | nil=>exact ho
   | nn=>exact ho
   | lost=>trivial
   | row r sz =>
     have hr:r < m:=of_decide_eq_true hp.1;refine⟨ho.1,ho.2.1,?_,λe=>ho.2.2.2.1 (EK e).1,λg' n' c' s' e=>ho.2.2.2.2 g' n' c' s' (EK e).1⟩;have:=ho.2.2.1;simp only[Cx.upto,List.length_take];omega
 | ID hn h1=>exact .ID hn (QC h1 (of_decide_eq_true hp))
 | el h1=>exact .el (A9.upto hp h1)
 | ptr h1=>exact .ptr (QC h1 (of_decide_eq_true hp))
 | fn h1 h2 =>
   simp only[AI.under,Bool.and_eq_true] at hp;exact .fn (CG.upto hp.1 h1) (CG.upto hp.2 h2)
 | E7 h1=>exact .E7 (Rp.upto hp h1)
 | mp h1=>exact .mp (QC h1 (of_decide_eq_true hp))
 | any h1=>exact .any h1
 | raw=>exact .raw
def CG.upto:∀{a:List AV} {v:List Value},Fp n m a=true->CG c w a v->CG (c.upto n m) w a v:=by
 intro a v hp h;cases h with
 | nil=>exact .nil
 | cons h1 t =>
   simp only[AI.Fp,Bool.and_eq_true] at hp;exact .cons (Rp.upto hp.1 h1) (CG.upto hp.2 t)
def A9.upto:∀{a:List AV} {g o:Nat},Fp n m a=true->A9 c w g o a->A9 (c.upto n m) w g o a:=by
 intro a g o hp h;cases h with
 | nil=>exact .nil
 | cons iJ h1 t =>
   simp only[AI.Fp,Bool.and_eq_true] at hp;exact .cons (UO iJ) (Rp.upto hp.1 h1) (A9.upto hp.2 t)
end
end
def Ub:AV->Bool
 | .sc v=>Wy v
 | _=>true
def S7{c:Cx}{w:World}{a:AV}{v:Value}(h:Rp c w a v)(hd:Ub a=true):Wy v=true:=by
 cases h<;>first | rfl | exact hd | assumption | (cases hd;done)
def pD:AV->AV
 | .sl _ n cs=>.sl .lost n cs
 | a=>a
inductive Fg(n m:Nat):List AV->List AV->Prop where
 | nil:Fg n m [] []
 | GM {a:AV} {l k:List AV} (h:under n m a=true) (t:Fg n m l k):Fg n m (a::l) (a::k)
 | drop {a:AV} {l k:List AV} (h:Ub a=true) (t:Fg n m l k):Fg n m (a::l) (.any::k)
 | lost {o:Own} {j:Nat} {cs l k:List AV} (h:Fp n m cs=true) (t:Fg n m l k):Fg n m (.sl o j cs::l) (.sl .lost j cs::k)
def Fg.ok{n m:Nat}{l k:List AV}(h:Fg n m l k){c:Cx}{w:World}{vs:List Value}(hr:CG c w l vs):CG (c.upto n m) w k vs:=by
 induction h generalizing vs with
 | nil=>cases hr;exact .nil
 | GM h _ ih=>cases hr with | cons h1 t=>exact .cons (h1.upto h) (ih t)
 | drop h _ ih=>cases hr with | cons h1 t=>exact .cons (.any (S7 h1 h)) (ih t)
 | @lost o j cs l k h _ ih =>
   cases hr with
   | cons h1 t =>
     refine .cons ?_ (ih t);cases h1 with
     | Jc _=>exact .Jc trivial
     | KM hn hc ho=>exact .KM hn (hc.upto h) trivial
def WZ(n m:Nat):List (Value×AV×Nat)->Bool
 | []=>true
 | e::l=>under n m e.2.1&&WZ n m l
def ac0(n m:Nat):AL->Bool
 | .cells cs=>Fp n m cs
 | .map es _=>WZ n m es
def Ki.upto{c:Cx}{w:World}{n m:Nat}:∀{es:List (Value×AV×Nat)} {fs:List MapEntry},WZ n m es=true->Ki c w es fs->Ki (c.upto n m) w es fs:=by
 intro es
 induction es with
 | nil=>intro fs _ h;cases h;exact .nil
 | cons e es ih =>
   intro fs hu h;obtain⟨x,a,b⟩:=e;simp only[WZ,Bool.and_eq_true] at hu;cases h with | cons h1 t=>exact .cons (h1.upto hu.1) (ih hu.2 t)
def E6.upto{c:Cx}{w:World}{n m:Nat}{b:AL}{o:Obj}(hb:ac0 n m b=true)(h:E6 c w b o):E6 (c.upto n m) w b o:=by
 cases h with
 | Hc ext h1=>exact .Hc ext (h1.upto hb)
 | map h1=>exact .map (h1.upto hb)
def Fits(n m:Nat)(a b:AV):Prop:=∀(c:Cx) (w:World) (v:Value),Rp c w a v->Rp (c.upto n m) w b v
def Jf(n m:Nat)(a b:List AV):Prop:=∀(c:Cx) (w:World) (v:List Value),CG c w a v->CG (c.upto n m) w b v
def SC(n m:Nat)(a b:List AV):Prop:=∀(c:Cx) (w:World) (g o:Nat),A9 c w g o a->A9 (c.upto n m) w g o b
def QJ(n m:Nat)(a b:AL):Prop:=∀(c:Cx) (w:World) (o:Obj),E6 c w a o->E6 (c.upto n m) w b o
def Fg.fits{n m:Nat}{l k:List AV}(h:Fg n m l k):Jf n m l k:=λ_ _ _ hr=>h.ok hr
def Fits.under{n m:Nat}{a:AV}(h:AI.under n m a=true):Fits n m a a:=λ_ _ _ hr=>hr.upto h
def Jf.under{n m:Nat}{a:List AV}(h:AI.Fp n m a=true):Jf n m a a:=λ_ _ _ hr=>hr.upto h
def SC.under{n m:Nat}{a:List AV}(h:AI.Fp n m a=true):SC n m a a:=λ_ _ _ _ hr=>hr.upto h
def QJ.under{n m:Nat}{b:AL}(h:ac0 n m b=true):QJ n m b b:=λ_ _ _ hr=>hr.upto h
def Fits.plain{n m:Nat}{a:AV}(h:AI.plain a=true):Fits n m a a:=.under (G9 n m h)
def Jf.plain{n m:Nat}{a:List AV}(h:BA a=true):Jf n m a a:=.under (Cl n m h)
def SC.plain{n m:Nat}{a:List AV}(h:BA a=true):SC n m a a:=.under (Cl n m h)
def Fits.sc{n m:Nat}{v:Value}:Fits n m (.sc v) (.sc v):=.under rfl
def Fits.drop{n m:Nat}{a:AV}(h:Ub a=true):Fits n m a .any:=λ_ _ _ hr=>.any (S7 hr h)
def Fits.agg{n m:Nat}{a b:List AV}(h:Jf n m a b):Fits n m (.agg a) (.agg b):=λ_ _ _ hr=>by cases hr with | agg h1=>exact .agg (h _ _ _ h1)
def Fits.Dk{n m:Nat}{a b:List AV}(h:Jf n m a b):Fits n m (.Dk a) (.Dk b):=λ_ _ _ hr=>by cases hr with | Dk h1=>exact .Dk (h _ _ _ h1)
def Fits.lost{n m:Nat}{o:Own}{k:Nat}{a b:List AV}(h:SC n m a b)(e:a=[]->b=[]):Fits n m (.sl o k a) (.sl .lost k b):=λ_ _ _ hr=>by
 cases hr with
 | Jc _=>rw[e rfl];exact .Jc trivial
 | KM hn hc ho=>exact .KM hn (h _ _ _ _ hc) trivial
def Jf.nil{n m:Nat}:Jf n m [] []:=λ_ _ _ hr=>by cases hr;exact .nil
def Jf.cons{n m:Nat}{a b:AV}{l k:List AV}(h:Fits n m a b)(t:Jf n m l k):Jf n m (a::l) (b::k):=λ_ _ _ hr=>by cases hr with | cons h1 t1=>exact .cons (h _ _ _ h1) (t _ _ _ t1)
def SC.nil{n m:Nat}:SC n m [] []:=λ_ _ _ _ hr=>by cases hr;exact .nil
def SC.cons{n m:Nat}{a b:AV}{l k:List AV}(h:Fits n m a b)(t:SC n m l k):SC n m (a::l) (b::k):=λ_ _ _ _ hr=>by cases hr with | cons hv h1 t1=>exact .cons (UO hv) (h _ _ _ h1) (t _ _ _ _ t1)
def QJ.cells{n m:Nat}{a b:List AV}(h:Jf n m a b):QJ n m (.cells a) (.cells b):=λ_ _ _ hr=>by cases hr with | Hc ext h1=>exact .Hc ext (h _ _ _ h1)
def aet{G:A6}(hG:∀g cs,G g=some cs->BA cs=true){s s' s2:AS}{B8 fr2:List AV}(hn:s2.nx=s.nx)(hr:s2.nr=s.nr)
   (hd:Je s2.h s2.nx) (aiX:∀id b,look id s2.h=some b->∃b',look id s'.h=some b'/\QJ s.nx s.nr b' b) (hF:∀r n,D0 r s2.F=some n->D0 r s'.F=some n/\r < s.nr)
   (hf:Jf s.nx s.nr B8 fr2) (cx:Cx) (w:World) (c':Cx) (w':World) (vs:List Value) (hx:Ext cx w c' w') (hs:St G cx w s) (Cm:St G c' w' s') (OU:CG c' w' B8 vs) :
   ∃c2,Ext cx w c2 w'/\St G c2 w' s2/\CG c2 w' fr2 vs:=by
 have RA:c'.CS.take s.nx=cx.CS:=by
   obtain⟨t,ht⟩:=hx.CS;rw[<- ht,hs.len,List.take_left]
 have hrl:(c'.rows.take s.nr).length=cx.rows.length:=by
   have:=hx.Ix;rw[List.length_take,hs.Ix];omega
 refine⟨c'.upto s.nx s.nr,⟨?_,?_,λr x WH h=>?_,λg i v hv=>UO (hx.Zs g i v hv),hx.below,hx.base,hx.bad,λg hg=>hx.Zk g (List.mem_of_mem_take hg),λr g n cap sz h=>hx.Zl r g n cap sz (EK h).1,hx.GM⟩,?_,hf _ _ _ OU⟩;show cx.CS <+: c'.CS.take s.nx;rw[RA];exact List.prefix_refl _;show cx.rows.length<=(c'.rows.take s.nr).length;omega;exact hx.rows r x WH (EK h).1;refine⟨?_,hd,λi j g h1 h2=>Cm.nodup i j g (EK h1).1 (EK h2).1,λg hg=>Cm.low g (List.mem_of_mem_take hg),λid g b h1 h2=>?_,?_,λr g n cap sz h=>?_,λr n h=>?_,λg hg=>Cm.Md g (List.mem_of_mem_take hg),Cm.Ml,λr r' g n cap sz n' BJ M7 h h'=>Cm.Io r r' g n cap sz n' BJ M7 (EK h).1 (EK h').1,λg cs hg=>(Cm.Mq g cs hg).upto (Cl _ _ (hG g cs hg)),Cm.PY⟩;show s2.nx=(c'.CS.take s.nx).length;rw[RA,hn,hs.len];obtain⟨b',h3,h4⟩:=aiX id b h2;obtain⟨o,ho,hb⟩:=Cm.box id g b' (EK h1).1 h3;exact⟨o,ho,h4 _ _ _ hb⟩;show s2.nr=(c'.rows.take s.nr).length;rw[hrl,hr,hs.Ix];obtain⟨a1,a2,a3,a4⟩:=Cm.row r g n cap sz (EK h).1;exact⟨a1,a2,λhm=>a3 (List.mem_of_mem_take hm),a4⟩;obtain⟨h1,h2⟩:=hF r n h;rcases Cm.IG r n h1 with ⟨h3,h4⟩ | ⟨g,cap,sz,h3⟩
 exact .inl ⟨QC h3 h2,h4⟩;exact .inr ⟨g,cap,sz,QC h3 h2⟩
end AI
namespace AI
open Go Go.RowKit
section
variable {P:Program} {G:A6} {X:Wb} {H:S0}
def W(P:Program)(G:A6)(X:Wb)(H:S0)(c:Code)(fr:List AV)(s:AS)(Q:AX->List AV->AS->Prop):Prop:=∃e B8 s',J P G X H (.code c fr s e B8 s')/\Q e B8 s'
def WL(P:Program)(G:A6)(X:Wb)(H:S0)(c:Code)(fr:List AV)(s:AS)(Q:AX->List AV->AS->Prop):Prop:=∃e B8 s',J P G X H (.loop c fr s e B8 s')/\Q e B8 s'
def WC(P:Program)(G:A6)(X:Wb)(H:S0)(f:FuncId)(args:List AV)(s:AS)(Q:CR->AS->Prop):Prop:=∃r s',J P G X H (.call f args s r s')/\Q r s'
def ah2(P:Program)(G:A6)(X:Wb)(H:S0)(y:Code)(Q:AX->List AV->AS->Prop):AX->List AV->AS->Prop
 | .normal,fr,s=>W P G X H y fr s Q
 | e,fr,s=>Q e fr s
def EC(id:Nat)(Q:AX->List AV->AS->Prop):AX->List AV->AS->Prop:=λe fr s=>Q (EL id e) fr s
def SG(P:Program)(fn:Func)(n:Nat)(Q:CR->AS->Prop):AX->List AV->AS->Prop
 | .normal,fr,s=>∃v,Gn P s fn fr=some v/\Q (.ret v) (s.cut n)
 | .ret,fr,s=>∃v,Gn P s fn fr=some v/\Q (.ret v) (s.cut n)
 | .IL v,_,s=>Q (.IL v) (s.cut n)
 | _,_,_=>False
def W.mono{c:Code}{fr:List AV}{s:AS}{Q R:AX->List AV->AS->Prop}(h:W P G X H c fr s Q)(k:∀e fr s,Q e fr s->R e fr s):W P G X H c fr s R:=by
 obtain⟨e,B8,s',h1,h2⟩:=h;exact⟨e,B8,s',h1,k _ _ _ h2⟩
def WC.mono{f:FuncId}{args:List AV}{s:AS}{Q R:CR->AS->Prop}(h:WC P G X H f args s Q)(k:∀r s,Q r s->R r s):WC P G X H f args s R:=by
 obtain⟨r,s',h1,h2⟩:=h;exact⟨r,s',h1,k _ _ h2⟩
def akN{x y:Code}{fr:List AV}{s:AS}{Q:AX->List AV->AS->Prop}(h:W P G X H x fr s (ah2 P G X H y Q)):W P G X H (.seq x y) fr s Q:=by
 obtain⟨e,U9,s1,h1,h2⟩:=h;cases e with
 | normal =>
   obtain⟨e2,fr2,s2,h3,h4⟩:=h2;exact⟨e2,fr2,s2,.seq h1 h3,h4⟩
 | exit id=>exact⟨_,_,_,.oU h1 (by simp),h2⟩
 | ret=>exact⟨_,_,_,.oU h1 (by simp),h2⟩
 | IL v=>exact⟨_,_,_,.oU h1 (by simp),h2⟩
def ad1{q:Operand}{x y:Code}{fr:List AV}{s:AS}{Q:AX->List AV->AS->Prop}(hq:A8 G fr q=some (.sc (.bool true)))(h:W P G X H x fr s Q):W P G X H (.cond q x y) fr s Q:=by
 obtain⟨e,U9,s1,h1,h2⟩:=h;exact⟨e,U9,s1,.cond hq h1,h2⟩
def ad0{q:Operand}{x y:Code}{fr:List AV}{s:AS}{Q:AX->List AV->AS->Prop}(hq:A8 G fr q=some (.sc (.bool false)))(h:W P G X H y fr s Q):W P G X H (.cond q x y) fr s Q:=by
 obtain⟨e,U9,s1,h1,h2⟩:=h;exact⟨e,U9,s1,.cond hq h1,h2⟩
def pL{id:Nat}{c:Code}{fr:List AV}{s:AS}{Q:AX->List AV->AS->Prop}(h:W P G X H c fr s (EC id Q)):W P G X H (.block id c) fr s Q:=by
 obtain⟨e,U9,s1,h1,h2⟩:=h;exact⟨_,U9,s1,.block h1,h2⟩
def aik{c:Code}{fr:List AV}{s:AS}{Q:AX->List AV->AS->Prop}(h:WL P G X H c fr s Q):W P G X H (.loop c) fr s Q:=by
 obtain⟨e,U9,s1,h1,h2⟩:=h;exact⟨_,U9,s1,.loop h1,h2⟩
def drop_cons{α:Type}{o:α}{l m:List α}{k:Nat}(h:o::l=m.drop k):m[k]?=some o/\l=m.drop (k+1):=by
 constructor;have:=congrArg (λx=>x[0]?) h;simpa using this.symm
 have:=congrArg List.tail h;rw[List.tail_drop] at this;exact this
def Ay{f:FuncId}{fn:Func}{c:Code}{args:List AV}{s:AS}{Q:CR->AS->Prop}(hf:P.funcs[f]?=some fn)(hb:fn.body=some c)(h:W P G X H c (args++List.replicate (fn.ntmps - args.length) (.sc undef)) s (SG P fn s.nx Q)):WC P G X H f args s Q:=by
 obtain⟨e,U9,s1,h1,h2⟩:=h;cases e with
 | normal=>obtain⟨v,h3,h4⟩:=h2;exact⟨_,_,.body hf hb h1 (.inl rfl) h3 (.inl rfl),h4⟩
 | ret=>obtain⟨v,h3,h4⟩:=h2;exact⟨_,_,.body hf hb h1 (.inr rfl) h3 (.inl rfl),h4⟩
 | IL v=>exact⟨_,_,.ahg hf hb h1,h2⟩
 | exit id=>exact h2.elim
end
end AI
namespace AI
open Go Go.RowKit
abbrev XS(P:Program)(G:A6):Wb:=λf args s r s'=>Sound P G (.call f args s r s')
def H0:S0:=λ_ _=>none
def Rz{P:Program}{G:A6}(h:P.follows .mixedOrders=true):ahc P G (XS P G) H0:=⟨h,λ_ _ _ _ _ h=>h,λ_ _ _ _ _ h=>by cases h⟩
def Pure(P:Program)(G:A6)(f:FuncId)(args:List AV)(v:AV):Prop:=∀s,Sound P G (.call f args s (.ret v) s)
def rows{α:Type}(f:α->List AV)(l:List α):List AV:=l.flatMap f
def R6{α:Type}{f:α->List AV}{k:Nat}(hf:∀x,(f x).length=k){l:List α}{i:Nat}{x:α}(h:l[i]?=some x):(rows f l).drop (i*k)=f x++rows f (l.drop (i+1)):=by
 induction l generalizing i with
 | nil=>simp at h
 | cons y l ih =>
   cases i with
   | zero=>simp at h;subst h;simp[rows]
   | succ i =>
     have:=ih (i:=i) (by simpa using h)
     have e:rows f (y::l)=f y++rows f l:=by simp[rows]
     rw[e,List.drop_append,hf y,show(i+1)*k - k=i*k by rw[Nat.add_mul];omega,List.drop_eq_nil_of_le (by rw[hf y,Nat.add_mul];omega),List.nil_append,this];simp
def IH{α:Type}{f:α->List AV}{k:Nat}(hf:∀x,(f x).length=k)(l:List α):(rows f l).length=l.length*k:=by
 induction l with
 | nil=>simp[rows]
 | cons y l ih =>
   have e:rows f (y::l)=f y++rows f l:=by simp[rows]
   rw[e,List.length_append,hf y,ih,List.length_cons,Nat.add_mul];omega
def OC{α:Type}(f:α->List AV)(l m:List α):rows f (l++m)=rows f l++rows f m:=by simp[rows]
def Gj{α:Type}(f:α->List AV)(x:α)(m:List α):rows f (x::m)=f x++rows f m:=by simp[rows]
def oO{α:Type}{f:α->List AV}{l:List α}(h:∀x∈l,BA (f x)=true):BA (rows f l)=true:=by
 have TU:∀a b:List AV,BA a=true->BA b=true->BA (a++b)=true:=by
   intro a b ha hb
   induction a with
   | nil=>exact hb
   | cons x a ih =>
     simp only[BA,Bool.and_eq_true,List.cons_append] at ha ⊢;exact⟨ha.1,ih ha.2⟩
 induction l with
 | nil=>rfl
 | cons y l ih=>rw[Gj];exact TU _ _ (h y List.mem_cons_self) (ih λx hx=>h x (List.mem_cons_of_mem _ hx))
def nR{P:Program}{α:Type}{f:α->List AV}{k:Nat}{t elem:TypeId}{e:TypeInfo}(hu:P.underlying t=some (.slice elem))(he:P.info? elem=some e)(hk:e.size=k)(hf:∀x,(f x).length=k){own:Own}{l:List α}{i:Nat}{x:α}(h:l[i]?=some x) :
   Db P t (.sl own l.length (rows f l)) (.sc (.int .i64 (i:Int)))=some (.el (f x++rows f (l.drop (i+1)))):=by
 have hi:=(List.getElem?_eq_some_iff.1 h).1
 have hn:QY (.sc (.int .i64 (i:Int)))=some i:=by
   unfold QY;simp
 unfold Db;rw[hu,hn];simp only[he,hk,if_pos hi,R6 hf h]
def adl{i:Nat}(h:i<=9223372036854775807):IntKind.i64.wrap (i:Int)=(i:Int):=by
 refine IntWalk.i64_in _ ?_;omega
end AI
namespace AI
open Go Go.RowKit
section
variable {G:A6}
inductive NZ where
 | t (tmp sz:Nat)
 | b (id i sz:Nat)
 | l (tmp:Nat)
 | lb (id i:Nat)
def aff:AV->Bool
 | .sl .full n cs=>(match n with | 0=>(match cs with | []=>true | _=>false) | _=>false)
 | _=>false
def nz1(fr:List AV)(s:AS):NZ->Option (List AV×AS)
 | .t k sz=>(match fr[k]? with
   | some a=>(match aff a with
     | true=>some (fr.set k (.sl (.row s.nr sz) 0 []),s.tok)
     | false=>none)
   | none=>none)
 | .b id i sz=>(match look id s.h with
   | some (.cells cs)=>(match cs[i]? with
     | some a=>(match aff a with
       | true=>some (fr,⟨QU id (.cells (cs.set i (.sl (.row s.nr sz) 0 []))) s.h,s.nx,(s.nr,0)::s.F,s.nr+1⟩)
       | false=>none)
     | none=>none)
   | _=>none)
 | .l k=>(match fr[k]? with
   | some a=>some (fr.set k (pD a),s)
   | none=>none)
 | .lb id i=>(match look id s.h with
   | some (.cells cs)=>(match cs[i]? with
     | some a=>some (fr,⟨QU id (.cells (cs.set i (pD a))) s.h,s.nx,s.F,s.nr⟩)
     | none=>none)
   | _=>none)
def nzs:List NZ->List AV->AS->Option (List AV×AS)
 | [],fr,s=>some (fr,s)
 | z::l,fr,s=>(match nz1 fr s z with
   | some (fr,s)=>nzs l fr s
   | none=>none)
def Wkn(G:A6)(fr:List AV)(s:AS)(fr2:List AV)(s2:AS):Prop:=∀(cx:Cx) (w:World) (vs:List Value),St G cx w s->CG cx w fr vs->∃zQ,Ext cx w zQ w/\St G zQ w s2/\CG zQ w fr2 vs
def Wkn.refl{fr:List AV}{s:AS}:Wkn G fr s fr s:=λcx w vs h1 h2=>⟨cx,Ext.refl _ _,h1,h2⟩
def Wkn.trans{fr fr2 fr3:List AV}{s s2 s3:AS}(h:Wkn G fr s fr2 s2)(k:Wkn G fr2 s2 fr3 s3):Wkn G fr s fr3 s3:=λcx w vs h1 h2=>by
 obtain⟨c2,x2,s2,r2⟩:=h cx w vs h1 h2;obtain⟨c3,x3,s3,r3⟩:=k c2 w vs s2 r2;exact⟨c3,x2.trans x3,s3,r3⟩
def rQ{a:AV}(h:aff a=true){c:Cx}{w:World}{v:Value}(hr:Rp c w a v){r sz:Nat}(hl:r < c.rows.length):Rp c w (.sl (.row r sz) 0 []) v:=by
 unfold aff at h;split at h
 . split at h
   . split at h
     . cases hr with
       | Jc h0=>exact .Jc ⟨h0,hl⟩
       | KM hn hc ho =>
         have:_=0:=ho;subst this;exact .Jc ⟨rfl,hl⟩
     cases h
   cases h
 cases h
def aL{a:AV}{c:Cx}{w:World}{v:Value}(hr:Rp c w a v):Rp c w (pD a) v:=by
 cases hr with
 | Jc _=>exact .Jc trivial
 | KM hn hc ho=>exact .KM hn hc trivial
 | sc h=>exact .sc h
 | agg h=>exact .agg h
 | Dk h=>exact .Dk h
 | ID h1 h2=>exact .ID h1 h2
 | el h=>exact .el h
 | ptr h=>exact .ptr h
 | fn h1 h2=>exact .fn h1 h2
 | E7 h=>exact .E7 h
 | mp h=>exact .mp h
 | any h=>exact .any h
 | raw=>exact .raw
def CG.af3{c:Cx}{w:World}{as:List AV}{vs:List Value}(h:CG c w as vs){i:Nat}{a b:AV}(ha:as[i]?=some a)(hb:∀v,Rp c w a v->Rp c w b v):CG c w (as.set i b) vs:=by
 induction as generalizing vs i with
 | nil=>simp at ha
 | cons x as ih =>
   cases h with
   | cons h1 t =>
     cases i with
     | zero=>simp at ha;subst ha;exact .cons (hb _ h1) t
     | succ i=>exact .cons h1 (ih t (by simpa using ha))
def St.oK{c:Cx}{w:World}{s:AS}(h:St G c w s){id:Nat}{b b2:AL}(hb:look id s.h=some b)(hk:∀o,E6 c w b o->E6 c w b2 o):St G c w ⟨QU id b2 s.h,s.nx,s.F,s.nr⟩ :=
 ⟨h.len,YK h.desc,h.nodup,h.low,λQO g b' h1 h2=>by
   rcases YL h2 with ⟨rfl,rfl⟩ | ⟨_,h3⟩
   obtain⟨o,ho,u4⟩:=h.box _ g b h1 hb;exact⟨o,ho,hk o u4⟩;exact h.box QO g b' h1 h3,h.Ix,h.row,h.IG,h.Md,h.Ml,h.Io,h.Mq,h.PY⟩
def ajS{fr fr2:List AV}{s s2:AS}{z:NZ}(h:nz1 fr s z=some (fr2,s2)):Wkn G fr s fr2 s2:=by
 intro cx w vs hs hr;cases z with
 | t k sz =>
   simp only[nz1] at h;split at h;rename_i a ha;split at h;rename_i hn;cases h;obtain⟨x,st⟩:=hs.tok;refine⟨_,x,st,(hr.mono x).af3 ha (λv hv=>rQ hn hv ?_)⟩;simp[hs.Ix];cases h;cases h
 | b id i sz =>
   simp only[nz1] at h;split at h;rename_i cs hb;split at h;rename_i a ha;split at h;rename_i hn;cases h;obtain⟨x,st⟩:=hs.tok;refine⟨_,x,st.oK (b:=.cells cs) hb (λo ho=>?_),hr.mono x⟩;cases ho with
   | Hc ext h1=>exact .Hc ext (h1.af3 ha (λv hv=>rQ hn hv (by simp[hs.Ix])))
   cases h;cases h;cases h
 | l k =>
   simp only[nz1] at h;split at h;rename_i a ha;cases h;exact⟨cx,Ext.refl _ _,hs,hr.af3 ha (λv hv=>aL hv)⟩;cases h
 | lb id i =>
   simp only[nz1] at h;split at h;rename_i cs hb;split at h;rename_i a ha;cases h;refine⟨cx,Ext.refl _ _,hs.oK (b:=.cells cs) hb (λo ho=>?_),hr⟩;cases ho with
   | Hc ext h1=>exact .Hc ext (h1.af3 ha (λv hv=>aL hv))
   cases h;cases h
def n9:∀{l:List NZ} {fr fr2:List AV} {s s2:AS},nzs l fr s=some (fr2,s2)->Wkn G fr s fr2 s2:=by
 intro l
 induction l with
 | nil=>intro fr fr2 s s2 h;simp only[nzs] at h;cases h;exact .refl
 | cons z l ih =>
   intro fr fr2 s s2 h;simp only[nzs] at h;split at h;rename_i f1 s1 h1;exact(ajS h1).trans (ih h);cases h
end
end AI
namespace AI
open Go Go.RowKit
def eqV:Value->Value->Bool
 | .string a,.string b=>BZ a.data.toList b.data.toList
 | .int k a,.int k' b=>(match sameKind k k' with | true=>DZ a b | false=>false)
 | a,b=>ad6 a b
def aiz{a b:Value}(h:eqV a b=true):a=b:=by
 unfold eqV at h;split at h;rename_i x y;rw[U8,beq_iff_eq] at h;have:x=y:=ByteArray.ext (Array.ext' h);rw[this];split at h;rename_i hk;rw[Ru,beq_iff_eq] at h;rw[V7 hk,h];cases h;exact pP h
def ahm:Own->Own->Bool
 | .full,.full=>true
 | .lost,.lost=>true
 | .nil,.nil=>true
 | .nn,.nn=>true
 | _,_=>false
def aah{a b:Own}(h:ahm a b=true):a=b:=by cases a<;>cases b<;>first | rfl | cases h
mutual
def bZ:AV->AV->Bool
 | .sc a,.sc b=>eqV a b
 | .agg a,.agg b=>eqL a b
 | .Dk a,.Dk b=>eqL a b
 | .sl o n a,.sl p m b=>(match ahm o p with
   | true=>(match Nat.beq n m with | true=>eqL a b | false=>false)
   | false=>false)
 | .E7 t a,.E7 u b=>(match Nat.beq t u with | true=>bZ a b | false=>false)
 | _,_=>false
def eqL:List AV->List AV->Bool
 | [],[]=>true
 | a::as,b::bs=>(match bZ a b with | true=>eqL as bs | false=>false)
 | _,_=>false
end
mutual
def aaf:∀{a b:AV},bZ a b=true->a=b
 | .sc a,b,h=>by
   cases b<;>first
     | (simp only[bZ] at h;rw[aiz h])
     | (simp[bZ] at h;done)
 | .agg a,b,h=>by
   cases b<;>first
     | (simp only[bZ] at h;rw[b7 h])
     | (simp[bZ] at h;done)
 | .Dk a,b,h=>by
   cases b<;>first
     | (simp only[bZ] at h;rw[b7 h])
     | (simp[bZ] at h;done)
 | .sl o n a,b,h=>by
   cases b<;>first
     | (simp only[bZ] at h
        split at h;rename_i h1;split at h;rename_i h2;rw[aah h1,beq_true h2,b7 h];cases h;cases h)
     | (simp[bZ] at h;done)
 | .E7 t a,b,h=>by
   cases b<;>first
     | (simp only[bZ] at h
        split at h;rename_i h1;rw[beq_true h1,aaf h];cases h)
     | (simp[bZ] at h;done)
 | .ID _ _ _,b,h=>by simp[bZ] at h
 | .el _,b,h=>by simp[bZ] at h
 | .ptr _ _,b,h=>by simp[bZ] at h
 | .fn _ _ _,b,h=>by simp[bZ] at h
 | .mp _,b,h=>by simp[bZ] at h
 | .any,b,h=>by simp[bZ] at h
def b7:∀{a b:List AV},eqL a b=true->a=b
 | [],b,h=>by cases b<;>first | rfl | (simp[eqL] at h;done)
 | a::as,b,h=>by
   cases b<;>first
     | (simp[eqL] at h;done)
     | (simp only[eqL] at h
        split at h;rename_i h1;rw[aaf h1,b7 h];cases h)
end
structure Ent where
 f:Nat
 args:List AV
 box:Option (List AV×List AV)
 v:AV
def xX(P:Program)(G:A6)(e:Ent):Prop:=match e.box with
 | none=>∀s,Sound P G (.call e.f e.args s (.ret e.v) s)
 | some (cs,cs')=>∀s id,s.get id=some (.cells cs)->Sound P G (.call e.f (.ptr id 0::e.args) s (.ret e.v) (s.put id (.cells cs')))
def ap5.cons{P:Program}{G:A6}{e:Ent}{l:List Ent}(he:xX P G e)(hl:∀e∈l,xX P G e):∀e'∈e::l,xX P G e':=λe' h=>by
 rcases List.mem_cons.1 h with h | h
 rw[h];exact he;exact hl e' h
end AI
namespace AI
open Go Go.RowKit
inductive Hn where
 | k
 | b (b:Bool)
 | i (z:Int)
 | w (v:AV)
 | a (v:AV) (s:AS)
 | ae (v:AV)
 | af (v:AV)
 | m (s:AS)
 | l (v:AV)
 | s (s:AS)
 | c (v:AV) (s:AS)
 | o (v:AV)
 | z (c:Nat)
 | p (v:AV) (s:AS)
 | g (sz k:Nat) (cs:List AV)
 | u (v:AV) (pre:List (Nat×AL)) (tp:List (Nat×Nat)) (QD:List (Nat×AL)) (tu:List (Nat×Nat))
 | q (v:AV) (pre:List (Nat×AL)) (tp:List (Nat×Nat)) (QD:List (Nat×AL)) (tu:List (Nat×Nat))
 | n (l:List NZ)
 | x (b:AL) (v:AV)
 | y (b b2:AL)
 | lb (m:AL) (v:AV)
 | sb (m m2:AL)
 | mb (n:Nat) (m:AL)
 | za
 | zq (c:Nat)
 | cn (v:AV) (h:List (Nat×AL)) (dn:Nat) (F:List (Nat×Nat)) (dr:Nat)
 | f (id:Nat) (b b2:AL)
inductive Cd where
 | eqb (B b:Bool)
 | eqi (X z:Int)
 | idx (t:TypeId) (a b v:AV)
 | bin (op:BinOp) (t:TypeId) (x y:Operand) (a b v:AV)
 | call (f:FuncId) (args:List AV) (s:AS) (v:AV)
 | TU (s:AS) (t tx:TypeId) (a b v:AV) (s1:AS)
 | ix (t:TypeId) (a b v:AV)
 | lk (s:AS) (t:TypeId) (a b:AV) (ok:Bool) (v:AV)
 | ms (s:AS) (t:TypeId) (a b v:AV) (s1:AS)
 | ahj (f:FuncId) (args:List AV) (s:AS) (v:AV) (s1:AS)
 | ld (s:AS) (t:TypeId) (a v:AV)
 | st (s:AS) (t:TypeId) (a x:AV) (s1:AS)
 | mk (s:AS) (t:TypeId) (a b v:AV) (s1:AS)
 | sli (t:TypeId) (a:AV) (l h m:Option AV) (v:AV)
 | ahi (f:FuncId) (args:List AV) (s:AS) (v:AV) (s1:AS)
 | pur (f:FuncId) (args:List AV) (v:AV)
 | ZG (t tx:TypeId) (own:Own) (n:Nat) (cs:List AV) (b:AV) (sz k:Nat) (cs2:List AV)
 | eqn (k n:Nat)
 | ET (f:FuncId) (args:List AV) (r:CR) (pre:List (Nat×AL)) (tp:List (Nat×Nat)) (QD:List (Nat×AL)) (tu:List (Nat×Nat))
 | p5 (a b:List (Option AL)) (c d:List (Option Nat))
 | lkB (b:AL) (t:TypeId) (k:AV) (ok:Bool) (v:AV)
 | msB (b:AL) (t:TypeId) (k v:AV) (b2:AL)
 | ldB (b:AL) (t:TypeId) (off:Nat) (v:AV)
 | stB (b:AL) (t:TypeId) (off:Nat) (x:AV) (b2:AL)
 | mkB (t:TypeId) (a x:AV) (n:Nat) (m:AL)
 | apB (t tx:TypeId) (a b:AV) (n:Nat) (m:AL)
 | Zz (f:FuncId) (args:List AV) (nx nr:Nat) (v:AV) (h:List (Nat×AL)) (dn:Nat) (F:List (Nat×Nat)) (dr:Nat)
 | rd (nr:Nat) (b b2:AL)
 | cv (t t2:TypeId) (a v:AV)
 | apf (t tx:TypeId) (a b v:AV)
def AS.VB(s:AS):List (Nat×AL)->AS
 | []=>s
 | e::l=>(s.put e.1 e.2).VB l
def AS.SN(s:AS):List (Nat×Nat)->AS
 | []=>s
 | e::l=>(AS.mk s.h s.nx (wG e.1 e.2 s.F) s.nr).SN l
def XH(s:AS):List (Nat×AL)->List (Option AL)
 | []=>[]
 | e::l=>s.get e.1::XH s l
def N6:List (Nat×AL)->List (Option AL)
 | []=>[]
 | e::l=>some e.2::N6 l
def ZE(F:List (Nat×Nat)):List (Nat×Nat)->List (Option Nat)
 | []=>[]
 | e::l=>D0 e.1 F::ZE F l
def OH:List (Nat×Nat)->List (Option Nat)
 | []=>[]
 | e::l=>some e.2::OH l
def Cd.ok(P:Program)(G:A6):Cd->Prop
 | .eqb B b=>B=b
 | .eqi X z=>X=z
 | .idx t a b v=>Db P t a b=some v
 | .bin op t x y a b v=>Mk P op t x y a b=some v
 | .call f args s v=>Sound P G (.call f args s (.ret v) s)
 | .TU s t tx a b v s1=>∃v0,KN P s t tx a b=some (v0,s1)/\∀c w u,Rp c w v0 u->Rp c w v u
 | .ix t a b v=>Ln P t a b=some v
 | .lk s t a b ok v=>IV P s t a b ok=some v
 | .ms s t a b v s1=>Ka P s t a b v=some s1
 | .ahj f args s v s1=>Sound P G (.call f args s (.ret v) s1)
 | .ld s t a v=>Jg P s t a=some v
 | .st s t a x s1=>Kk P s t a x=some s1
 | .mk s t a b v s1=>Jh P s t a b=some (v,s1)
 | .sli t a l h m v=>Nk P t a l h m=some v
 | .ahi f args s v s1=>Sound P G (.call f args s (.IL v) s1)
 | .pur f args v=>∀s,Sound P G (.call f args s (.ret v) s)
 | .ZG t tx own n cs b sz k cs2=>∀s:AS,NC sz s.F n own=true->∃cs0,KN P s t tx (.sl own n cs) b=some (.sl (ahO s sz own) k cs0,s.to k own)/\∀c w u o,Rp c w (.sl o k cs0) u->Rp c w (.sl o k cs2) u
 | .eqn k n=>k=n
 | .ET f args r pre tp QD tu=>∀s:AS,XH s pre=N6 pre->ZE s.F tp=OH tp->Sound P G (.call f args s r ((s.VB QD).SN tu))
 | .p5 a b c d=>a=b/\c=d
 | .lkB b t k ok v=>∀(s:AS) (id:Nat),s.get id=some b->IV P s t (.mp id) k ok=some v
 | .msB b t k v b2=>∀(s:AS) (id:Nat),s.get id=some b->Ka P s t (.mp id) k v=some (s.put id b2)
 | .ldB b t off v=>∀(s:AS) (id:Nat),s.get id=some b->Jg P s t (.ptr id off)=some v
 | .stB b t off x b2=>∀(s:AS) (id:Nat),s.get id=some b->Kk P s t (.ptr id off) x=some (s.put id b2)
 | .mkB t a x n m=>∀s:AS,∃m0,Jh P s t a x=some (.ID s.nx 0 n,s.new m0)/\∀(cx:Cx) (w:World) (o:Obj),E6 cx w m0 o->E6 cx w m o
 | .apB t tx a b n m=>∀s:AS,aia P G t tx a b s (.ID s.nx 0 n) (s.new m)
 | .Zz f args nx nr v h dn F dr=>∀s:AS,s.nx=nx->s.nr=nr->Sound P G (.call f args s (.ret v) ⟨h++s.h,s.nx+dn,F++s.F,s.nr+dr⟩)
 | .apf t tx a b v=>∀s:AS,∃v0,KN P s t tx a b=some (v0,s)/\∀c w u,Rp c w v0 u->Rp c w v u
 | .cv t t2 a v=>VJ P t t2 a=some v
 | .rd nr b b2=>∀(cx:Cx) (w:World) (o:Obj),nr < cx.rows.length->E6 cx w b o->E6 cx w b2 o
def QX(P:Program)(G:A6):List Cd->Prop
 | []=>True
 | c::l=>c.ok P G/\QX P G l
def QX.TU{P:Program}{G:A6}{l m:List Cd}(h:QX P G (l++m)):QX P G l/\QX P G m:=by
 induction l with
 | nil=>exact⟨trivial,h⟩
 | cons c l ih=>exact⟨⟨h.1,(ih h.2).1⟩,(ih h.2).2⟩
abbrev HO:=Option (AV×AS×List Hn×List Cd)
def KT(s1:Option AR)(hs:List Hn):HO:=match s1 with
 | some (.val v s)=>some (v,s,hs,[])
 | _=>none
def alf(P:Program)(op:BinOp)(t:TypeId)(x y:Operand)(a b:AV)(s:AS):List Hn->HO
 | .k::hs=>(match Xb P op t x y a b with
   | some v=>some (v,s,hs,[])
   | none=>none)
 | .b c::hs=>(match Xb P op t x y a b with
   | some (.sc (.bool B))=>some (.sc (.bool c),s,hs,[.eqb B c])
   | _=>none)
 | .i z::hs=>(match Xb P op t x y a b with
   | some (.sc (.int k X))=>some (.sc (.int k z),s,hs,[.eqi X z])
   | _=>none)
 | .w v::hs=>some (v,s,hs,[.bin op t x y a b v])
 | _=>none
def ali(P:Program)(t:TypeId)(a b:AV)(s:AS):List Hn->HO
 | .k::hs=>(match Db P t a b with
   | some v=>some (v,s,hs,[])
   | none=>none)
 | .w v::hs=>some (v,s,hs,[.idx t a b v])
 | _=>none
def XK(s:AS)(r:Option AR):List Hn->HO
 | .w v::hs=>(match r with
   | some (.ent f args)=>some (v,s,hs,[.pur f args v])
   | _=>none)
 | .a v s1::hs=>(match r with
   | some (.ent f args)=>some (v,s1,hs,[.ahj f args s v s1])
   | _=>none)
 | .u v pre tp QD tu::hs=>(match r with
   | some (.ent f args)=>some (v,(s.VB QD).SN tu,hs,[.ET f args (.ret v) pre tp QD tu,.p5 (XH s pre) (N6 pre) (ZE s.F tp) (OH tp)])
   | _=>none)
 | .cn v h dn F dr::hs=>(match r with
   | some (.ent f args)=>some (v,⟨h++s.h,s.nx+dn,F++s.F,s.nr+dr⟩,hs,[.Zz f args s.nx s.nr v h dn F dr])
   | _=>none)
 | _=>none
def aaz(s:AS)(t tx:TypeId)(a b:AV):List Hn->HO
 | .mb n m::hs=>some (.ID s.nx 0 n,s.new m,hs,[.apB t tx a b n m])
 | .a v s1::hs=>some (v,s1,hs,[.TU s t tx a b v s1])
 | .ae v::hs=>some (v,s,hs,[.TU s t tx a b v s])
 | .af v::hs=>some (v,s,hs,[.apf t tx a b v])
 | .g sz k cs2::hs=>(match a with
   | .sl .full n cs=>some (.sl (.row s.nr sz) k cs2,s.add k,hs,[.ZG t tx .full n cs b sz k cs2])
   | .sl (.row r z) n cs=>(match D0 r s.F with
     | some m=>(match Nat.beq z sz with
       | true=>some (.sl (.row r sz) k cs2,s.grow r k,hs,[.ZG t tx (.row r z) n cs b sz k cs2,.eqn m n])
       | false=>none)
     | none=>none)
   | _=>none)
 | _=>none
def alj(P:Program)(t:TypeId)(a b:AV)(s:AS):List Hn->HO
 | .k::hs=>(match Ln P t a b with
   | some v=>some (v,s,hs,[])
   | none=>none)
 | .w v::hs=>some (v,s,hs,[.ix t a b v])
 | _=>none
def ahq(t:TypeId)(a b:AV)(ok:Bool)(s:AS):List Hn->HO
 | .w v::hs=>some (v,s,hs,[.lk s t a b ok v])
 | .x m v::hs=>(match a with
   | .mp id=>some (v,s,hs,[.lkB m t b ok v,.p5 [s.get id] [some m] [] []])
   | _=>none)
 | _=>none
def aiP(t:TypeId)(a b v:AV)(s:AS):List Hn->HO
 | .m s1::hs=>some (.sc undef,s1,hs,[.ms s t a b v s1])
 | .y m m2::hs=>(match a with
   | .mp id=>some (.sc undef,s.put id m2,hs,[.msB m t b v m2,.p5 [s.get id] [some m] [] []])
   | _=>none)
 | _=>none
def aaC(t:TypeId)(a:Option AV)(s:AS)(r:Option AR):List Hn->HO
 | .l v::hs=>(match a with
   | some a=>some (v,s,hs,[.ld s t a v])
   | none=>none)
 | .lb m v::hs=>(match a with
   | some (.ptr id off)=>some (v,s,hs,[.ldB m t off v,.p5 [s.get id] [some m] [] []])
   | _=>none)
 | hs=>KT r hs
def mW(t:TypeId)(a x:Option AV)(s:AS)(r:Option AR):List Hn->HO
 | .s s1::hs=>(match a,x with
   | some a,some x=>some (.sc undef,s1,hs,[.st s t a x s1])
   | _,_=>none)
 | .sb m m2::hs=>(match a,x with
   | some (.ptr id off),some x=>some (.sc undef,s.put id m2,hs,[.stB m t off x m2,.p5 [s.get id] [some m] [] []])
   | _,_=>none)
 | hs=>KT r hs
def aaE(t:TypeId)(a x:Option AV)(s:AS)(r:Option AR):List Hn->HO
 | .c v s1::hs=>(match a,x with
   | some a,some x=>some (v,s1,hs,[.mk s t a x v s1])
   | _,_=>none)
 | .mb n m::hs=>(match a,x with
   | some a,some x=>some (.ID s.nx 0 n,s.new m,hs,[.mkB t a x n m])
   | _,_=>none)
 | hs=>KT r hs
def aiQ(t:TypeId)(a:Option AV)(l h m:Option (Option AV))(s:AS)(r:Option AR):List Hn->HO
 | .o v::hs=>(match a,l,h,m with
   | some a,some l,some h,some m=>some (v,s,hs,[.sli t a l h m v])
   | _,_,_,_=>none)
 | hs=>KT r hs
def aho(P:Program)(t t2:TypeId)(a:AV)(s:AS):List Hn->HO
 | .w v::hs=>some (v,s,hs,[.cv t t2 a v])
 | hs=>(match VJ P t t2 a with
   | some v=>some (v,s,hs,[])
   | none=>none)
def uU(P:Program)(G:A6)(fr:List AV)(s:AS)(o:Oper)(hs:List Hn):HO :=
 match o.op with
 | .binOp op t x y _=>(match AW G fr x with
   | some a=>(match AW G fr y with
     | some b=>alf P op t x y a b s hs
     | none=>none)
   | none=>none)
 | .indexAddr t x i=>(match AW G fr x with
   | some a=>(match AW G fr i with
     | some b=>ali P t a b s hs
     | none=>none)
   | none=>none)
 | .index t x i=>(match AW G fr x with
   | some a=>(match AW G fr i with
     | some b=>alj P t a b s hs
     | none=>none)
   | none=>none)
 | .convert t t2 x=>(match AW G fr x with
   | some (.sl o n cs)=>aho P t t2 (.sl o n cs) s hs
   | _=>KT (T5 P G fr s o) hs)
 | .lookup t x k ok=>(match AW G fr x with
   | some a=>(match AW G fr k with
     | some b=>ahq t a b ok s hs
     | none=>none)
   | none=>none)
 | .mapUpdate t m k x=>(match AW G fr m with
   | some a=>(match AW G fr k with
     | some b=>(match AW G fr x with
       | some v=>aiP t a b v s hs
       | none=>none)
     | none=>none)
   | none=>none)
 | .load t x=>aaC t (A8 G fr x) s (T5 P G fr s o) hs
 | .store t x y=>mW t (A8 G fr x) (A8 G fr y) s (T5 P G fr s o) hs
 | .makeSlice t x y=>aaE t (A8 G fr x) (A8 G fr y) s (T5 P G fr s o) hs
 | .slice t x lo hi mx=>aiQ t (A8 G fr x) (eX G fr lo) (eX G fr hi) (eX G fr mx) s (T5 P G fr s o) hs
 | .call cl=>(match cl.callee with
   | .value _=>XK s (T5 P G fr s o) hs
   | .builtin .append=>(match cl.args.toList,cl.argTypes.toList with
     | [x,y],[t,tx]=>(match AW G fr x with
       | some a=>(match AW G fr y with
         | some b=>aaz s t tx a b hs
         | none=>none)
       | none=>none)
     | _,_=>none)
   | _=>KT (T5 P G fr s o) hs)
 | _=>KT (T5 P G fr s o) hs
def ZJ(P:Program)(G:A6)(ops:Array Oper)(fr:List AV)(s:AS)(o:Oper)(hs:List Hn):HO :=
 match Cv ops fr o with
 | true=>uU P G fr s o hs
 | false=>some (.sc undef,s,hs,[])
section
variable {P:Program} {G:A6} {ops:Array Oper}
def Vb{r:Option AR}{hs Cm:List Hn}{v:AV}{s:AS}{cd:List Cd}(h:KT r hs=some (v,s,Cm,cd)):r=some (.val v s):=by
 unfold KT at h;split at h;cases h;rfl;cases h
def aaD{t:TypeId}{a:Option AV}{r:Option AR}{hs Cm:List Hn}{v:AV}{s s1:AS}{cd:List Cd}(h:aaC t a s r hs=some (v,s1,Cm,cd))(hc:QX P G cd):(∃a',a=some a'/\Jg P s t a'=some v/\s1=s)\/KT r hs=some (v,s1,Cm,cd):=by
 unfold aaC at h;split at h;split at h;cases h;exact .inl ⟨_,rfl,hc.1,rfl⟩;cases h;split at h;cases h;exact .inl ⟨_,rfl,hc.1 _ _ (List.cons.inj hc.2.1.1).1,rfl⟩;cases h;exact .inr h
def Vc{t:TypeId}{a x:Option AV}{r:Option AR}{hs Cm:List Hn}{v:AV}{s s1:AS}{cd:List Cd}(h:mW t a x s r hs=some (v,s1,Cm,cd))(hc:QX P G cd):(∃a' x',a=some a'/\x=some x'/\Kk P s t a' x'=some s1/\v=.sc undef)\/KT r hs=some (v,s1,Cm,cd):=by
 unfold mW at h;split at h;split at h;cases h;exact .inl ⟨_,_,rfl,rfl,hc.1,rfl⟩;cases h;split at h;cases h;exact .inl ⟨_,_,rfl,rfl,hc.1 _ _ (List.cons.inj hc.2.1.1).1,rfl⟩;cases h;exact .inr h
def aaF{t:TypeId}{a x:Option AV}{r:Option AR}{hs Cm:List Hn}{v:AV}{s s1:AS}{cd:List Cd}(h:aaE t a x s r hs=some (v,s1,Cm,cd))(hc:QX P G cd):(∃a' x',a=some a'/\x=some x'/\∃s0,Jh P s t a' x'=some (v,s0)/\∀cx w,St G cx w s0->St G cx w s1)\/KT r hs=some (v,s1,Cm,cd):=by
 unfold aaE at h;split at h;split at h;cases h;exact .inl ⟨_,_,rfl,rfl,_,hc.1,λ_ _ h=>h⟩;cases h;split at h;cases h;obtain⟨m0,h1,h2⟩:=hc.1 s;refine .inl ⟨_,_,rfl,rfl,_,h1,λcx w hs=>?_⟩;have:=hs.oK (id:=s.nx) (b:=m0) (b2:=_) (by simp[AS.new,look]) (λo ho=>h2 cx w o ho);simpa[AS.new,QU] using this
 cases h;exact .inr h
def aeD{t:TypeId}{a:Option AV}{l k m:Option (Option AV)}{r:Option AR}{hs Cm:List Hn}{v:AV}{s s1:AS}{cd:List Cd}(h:aiQ t a l k m s r hs=some (v,s1,Cm,cd))(hc:QX P G cd):(∃a' l' k' m',a=some a'/\l=some l'/\k=some k'/\m=some m'/\Nk P t a' l' k' m'=some v/\s1=s)\/KT r hs=some (v,s1,Cm,cd):=by
 unfold aiQ at h;split at h;split at h;cases h;exact .inl ⟨_,_,_,_,rfl,rfl,rfl,rfl,hc.1,rfl⟩;cases h;exact .inr h
def aiN{fr:List AV}{s s1:AS}{o:Oper}{hs Cm:List Hn}{v:AV}{cd:List Cd}(hw:Cv ops fr o=true)(h:uU P G fr s o hs=some (v,s1,Cm,cd))(hc:QX P G cd):J P G (XS P G) H0 (.op ops o fr s (.ret v) s1):=by
 have Tv:KT (T5 P G fr s o) hs=some (v,s1,Cm,cd)->J P G (XS P G) H0 (.op ops o fr s (.ret v) s1):=λh=>by
   have:=Vb h;rw[ML] at this;exact .ND hw this
 unfold uU at h;split at h;rename_i op t x y z ho;rw[Cs,Cs] at h;split at h;rename_i a ha;split at h;rename_i b hb
 have fin:∀v',Mk P op t x y a b=some v'->s1=s->v=v'->J P G (XS P G) H0 (.op ops o fr s (.ret v) s1):=by
   intro v' h1 h2 h3;subst h2 h3;refine .ND hw ?_;unfold PX;rw[ho];simp only[ha,hb,h1,Option.map_some]
 unfold alf at h;rw[T4] at h;split at h;split at h;rename_i h1;cases h;exact fin _ h1 rfl rfl;cases h;split at h;rename_i h1;cases h;have e:_=_:=hc.1;subst e;exact fin _ h1 rfl rfl;cases h;split at h;rename_i h1;cases h;have e:_=_:=hc.1;subst e;exact fin _ h1 rfl rfl;cases h;cases h;exact fin _ hc.1 rfl rfl;cases h;cases h;cases h;rename_i t x i ho;rw[Cs,Cs] at h;split at h;rename_i a ha;split at h;rename_i b hb
 have fin:∀v',Db P t a b=some v'->s1=s->v=v'->J P G (XS P G) H0 (.op ops o fr s (.ret v) s1):=by
   intro v' h1 h2 h3;subst h2 h3;refine .ND hw ?_;unfold PX;rw[ho];simp only[ha,hb,h1,Option.map_some]
 unfold ali at h;split at h;split at h;rename_i h1;cases h;exact fin _ h1 rfl rfl;cases h;cases h;exact fin _ hc.1 rfl rfl;cases h;cases h;cases h;rename_i t x i ho;rw[Cs,Cs] at h;split at h;rename_i a ha;split at h;rename_i b hb
 have fin:∀v',Ln P t a b=some v'->s1=s->v=v'->J P G (XS P G) H0 (.op ops o fr s (.ret v) s1):=by
   intro v' h1 h2 h3;subst h2 h3;refine .ND hw ?_;unfold PX;rw[ho];simp only[ha,hb,h1,Option.map_some]
 unfold alj at h;split at h;split at h;rename_i h1;cases h;exact fin _ h1 rfl rfl;cases h;cases h;exact fin _ hc.1 rfl rfl;cases h;cases h;cases h;rename_i t t2 x ho;rw[Cs] at h;split at h;rename_i ow n cs ha
 have fin:∀v',VJ P t t2 (.sl ow n cs)=some v'->s1=s->v=v'->J P G (XS P G) H0 (.op ops o fr s (.ret v) s1):=by
   intro v' h1 h2 h3;subst h2 h3;refine .ND hw ?_;unfold PX;rw[ho];simp only[ha,Option.bind_some,h1,Option.map_some]
 unfold aho at h;split at h;cases h;exact fin _ hc.1 rfl rfl;split at h;rename_i h1;cases h;exact fin _ h1 rfl rfl;cases h;exact Tv h;rename_i t x k ok ho;rw[Cs,Cs] at h;split at h;rename_i a ha;split at h;rename_i b hb
 have h1:IV P s t a b ok=some v/\s1=s:=by
   unfold ahq at h;split at h;cases h;exact⟨hc.1,rfl⟩;split at h;cases h;refine⟨hc.1 _ _ ?_,rfl⟩;have h2:=hc.2.1.1;simpa using h2
   cases h;cases h
 obtain⟨h1,rfl⟩:=h1;refine .ND hw ?_;unfold PX;rw[ho];simp only[ha,hb,h1,Option.map_some];cases h;cases h;rename_i t m k x ho;rw[Cs,Cs,Cs] at h;split at h;rename_i a ha;split at h;rename_i b hb;split at h;rename_i x' hx
 have h1:Ka P s t a b x'=some s1/\v=.sc undef:=by
   unfold aiP at h;split at h;cases h;exact⟨hc.1,rfl⟩;split at h;cases h;refine⟨hc.1 _ _ ?_,rfl⟩;have h2:=hc.2.1.1;simpa using h2
   cases h;cases h
 obtain⟨h1,rfl⟩:=h1;refine .ND hw ?_;unfold PX;rw[ho];simp only[ha,hb,hx,h1,Option.map_some];cases h;cases h;cases h;rename_i t x ho;rcases aaD h hc with ⟨a,ha,h1,rfl⟩ | h1
 refine .ND hw ?_;unfold PX;rw[ho];simp only[ha,Option.bind_some,h1,Option.map_some];exact Tv h1;rename_i t x y ho;rcases Vc h hc with ⟨a,b,ha,hb,h1,rfl⟩ | h1
 refine .ND hw ?_;unfold PX;rw[ho];simp only[ha,hb,h1,Option.map_some];exact Tv h1;rename_i t x y ho;rcases aaF h hc with ⟨a,b,ha,hb,s0,h1,h2⟩ | h1
 refine .dA ?_ (.ND (s':=s0) hw ?_) h2;simp only[quiet,ho];unfold PX;rw[ho];simp only[ha,hb,h1,Option.map_some];exact Tv h1;rename_i t x lo hi mx ho;rcases aeD h hc with ⟨a,l,k,m,ha,hl,hk,hm,h1,rfl⟩ | h1
 refine .ND hw ?_;unfold PX;rw[ho];simp only[ha,hl,hk,hm,h1,Option.map_some];exact Tv h1;rename_i cl ho;split at h;unfold XK at h;split at h;split at h;rename_i h1;cases h;rw[ML] at h1;exact .RG hw h1 (.ext (hc.1 s));cases h;split at h;rename_i h1;cases h;rw[ML] at h1;exact .RG hw h1 (.ext hc.1);cases h;split at h;rename_i h1;cases h;rw[ML] at h1;exact .RG hw h1 (.ext (hc.1 s hc.2.1.1 hc.2.1.2));cases h;split at h;rename_i h1;cases h;rw[ML] at h1;exact .RG hw h1 (.ext (hc.1 s rfl rfl));cases h;cases h;rename_i Ih;split at h;rename_i x y t tx hxs DS;rw[Cs,Cs] at h;split at h;rename_i a ha;split at h;rename_i b hb
 have fin:∀v0,KN P s t tx a b=some (v0,s1)->(∀c w u,Rp c w v0 u->Rp c w v u)->J P G (XS P G) H0 (.op ops o fr s (.ret v) s1):=by
   intro v0 h1 h2;refine .oE (v:=v0) ?_ (.ND hw ?_) h2;simp only[quiet,ho,Ih];unfold PX;rw[ho];simp only[SE,Ih,hxs,DS,ha,hb,h1,Option.map_some]
 unfold aaz at h;split at h;cases h;exact .abP hw ho Ih hxs DS ha hb (hc.1 s);cases h;obtain⟨v0,h1,h2⟩:=hc.1;exact fin v0 h1 h2;cases h;obtain⟨v0,h1,h2⟩:=hc.1;exact fin v0 h1 h2;cases h;obtain⟨v0,h1,h2⟩:=hc.1 s;exact fin v0 h1 h2;split at h;cases h;obtain⟨cs0,h1,h2⟩:=hc.1 s rfl;exact fin _ h1 (λc w u=>h2 c w u _);rename_i r z n cs;split at h;rename_i m hm;split at h;rename_i hz;have hz:=beq_true hz;subst hz;cases h;have e:m=n:=hc.2.1;subst e;obtain⟨cs0,h1,h2⟩:=hc.1 s (by simp[NC,hm]);exact fin _ h1 (λc w u=>h2 c w u _);cases h;cases h;cases h;cases h;cases h;cases h;cases h;exact Tv h;exact Tv h
def OT{fr:List AV}{s s1:AS}{o:Oper}{hs Cm:List Hn}{v:AV}{cd:List Cd}(h:ZJ P G ops fr s o hs=some (v,s1,Cm,cd))(hc:QX P G cd):J P G (XS P G) H0 (.op ops o fr s (.ret v) s1):=by
 unfold ZJ at h;split at h;rename_i hw;exact aiN hw h hc;rename_i hw;cases h;exact .oD hw
end
end AI
