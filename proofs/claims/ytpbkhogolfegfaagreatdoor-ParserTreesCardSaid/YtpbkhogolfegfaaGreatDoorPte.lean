/- Part of a proof: see the last text. -/
import Derived.Test.YtpbkhogolfegfaaGreatDoorPtd
import Derived.LoopN
set_option linter.unusedVariables false
set_option linter.unusedSimpArgs false
set_option linter.defProp false
noncomputable section
namespace AI
open Go Go.RowKit
inductive AX where
 | normal
 | exit (id:Nat)
 | ret
 | pan (v:AV)
inductive CR where
 | ret (v:AV)
 | pan (v:AV)
def Cs(ops:Array Oper)(fr:List AV)(o:Oper):Bool:=match o.guard with
 | none=>true
 | some (j,want)=>match (ops[j]?).bind (·.dst) with
   | some d=>match fr[d]? with
     | some (.sc (.bool b))=>b == want
     | _=>false
   | none=>false
def EG(id:Nat):AX->AX
 | .exit Qp=>if Qp=id then .normal else .exit Qp
 | e=>e
def QU(P:Program)(s:AS)(fr:List AV):ResultVar->Option AV
 | .tmp t=>some (fr.getD t (.sc undef))
 | .cell t ty=>I4 P s ty (fr.getD t (.sc undef))
def M0(P:Program)(s:AS)(fr:List AV):List ResultVar->Option (List AV)
 | []=>some []
 | r::rs=>match QU P s fr r,M0 P s fr rs with
   | some a,some as=>some (a::as)
   | _,_=>none
def Gg(P:Program)(s:AS)(fn:Func)(fr:List AV):Option AV:=match M0 P s fr fn.results.toList with
 | some [a]=>some a
 | some as=>some (.Df as)
 | none=>none
inductive Jd where
 | code (c:Code) (fr:List AV) (s:AS) (e:AX) (fr':List AV) (s':AS)
 | loop (c:Code) (fr:List AV) (s:AS) (e:AX) (fr':List AV) (s':AS)
 | ops (ops:Array Oper) (l:List Nat) (fr:List AV) (s:AS) (e:AX) (fr':List AV) (s':AS)
 | op (ops:Array Oper) (o:Oper) (fr:List AV) (s:AS) (r:CR) (s':AS)
 | call (f:FuncId) (args:List AV) (s:AS) (r:CR) (s':AS)
def Cf(ops:Array Oper)(i:Nat):Option Tmp:=(ops[i]?).bind (·.dst)
def XL(ops:Array Oper)(i:Nat):Prop:=∃o,ops[i]?=some o/\calm o.op=false
def Win(ops:Array Oper)(i k:Nat):Prop:=(∀l,XL ops l->RA (Hs ops.toList []) i l=true->l < k)/\(∀l,XL ops l->RA (Hs ops.toList []) l i=true->k<=l)
abbrev VO:=FuncId->List AV->AS->CR->AS->Prop
abbrev SD:=FuncId->List AV->Option (FuncId×List AV×(CR->Option CR))
def asL(P:Program)(G:A6)(t tx:TypeId)(a b:AV)(s:AS)(v:AV)(s':AS):Prop:=∀(c:Cx) (w:World) (va vb:Value) (ty:TypeId),St G c w s->Rp c w a va->Rp c w b vb ->
 ∃u w' c',(Builtin.append_ #[t,tx] ty #[va,vb]).run P w=.ok u w'/\Ext c w c' w'/\St G c' w' s'/\Rp c' w' v u
def ayO(G:A6)(c:Cx)(w:World)(r:CR)(s':AS)(e:Ending)(w':World):Prop :=
 ∃c',Ext c w c' w'/\St G c' w' s'/\match r with
   | .ret v=>∃u,e=.returned u/\Rp c' w' v u
   | .pan v=>∃u,e=.panicked [{ v:=u,recovered:=false }]/\Rp c' w' v u
def Sa(G:A6)(c:Cx)(w:World)(e:AX)(fr':List AV)(s':AS)(e':Exit)(a':Act)(w':World):Prop :=
 ∃c',Ext c w c' w'/\St G c' w' s'/\a'.defers=[]/\match e with
   | .normal=>e'=.normal/\Cz c' w' fr' a'.tmps.toList
   | .exit id=>e'=.exit id/\Cz c' w' fr' a'.tmps.toList
   | .ret=>e'=.ret/\Cz c' w' fr' a'.tmps.toList
   | .pan v=>∃u,e'=.panic [{ v:=u,recovered:=false }]/\Rp c' w' v u
def Sa.ext{G:A6}{c c1:Cx}{w w1:World}{e:AX}{fr':List AV}{s':AS}{e':Exit}{a':Act}{w':World}(x:Ext c w c1 w1)(h:Sa G c1 w1 e fr' s' e' a' w'):Sa G c w e fr' s' e' a' w':=by
 obtain⟨c',h1,h2⟩:=h;exact⟨c',x.trans h1,h2⟩
def L6(P:Program)(ops:Array Oper)(o:Oper)(K:Act->World->Prop)(Q:Exit->Act->World->Prop)(a:Act)(w:World):Prop :=
 if Region.wanted o (yielded ops a.tmps) then o.wp P a w K Q else K (a.put o.dst undef) w
def Sound(P:Program)(G:A6):Jd->Prop
 | .code c fr s e fr' s'=>∀(cx:Cx) (w:World) (a:Act) (Q:Exit->Act->World->Prop),St G cx w s->Cz cx w fr a.tmps.toList->a.defers=[]->(∀e' a' w',Sa G cx w e fr' s' e' a' w'->Q e' a' w')->c.wp P Q a w
 | .loop c fr s e fr' s'=>∃n,∀(cx:Cx) (w:World) (a:Act) (Q:Exit->Act->World->Prop),St G cx w s->Cz cx w fr a.tmps.toList->a.defers=[]->(∀e' a' w',Sa G cx w e fr' s' e' a' w'->Q e' a' w')->Code.rounds P c Q n a w
 | .ops ops l fr s e fr' s'=>∀(cx:Cx) (w:World) (a:Act) (Q:Exit->Act->World->Prop),St G cx w s->Cz cx w fr a.tmps.toList->a.defers=[]->(∀e' a' w',Sa G cx w e fr' s' e' a' w'->Q e' a' w')->wpOps P ops Q l a w
 | .op ops o fr s r s'=>∀(cx:Cx) (w:World) (a:Act) (K:Act->World->Prop) (Q:Exit->Act->World->Prop),St G cx w s->(∀x∈o.op.operands,YF G cx w fr a.eval x)->Cs ops fr o=Region.wanted o (yielded ops a.tmps) ->
     (match r with
       | .ret v=>∀u w' c',Ext cx w c' w'->St G c' w' s'->Rp c' w' v u->K (a.put o.dst u) w'
       | .pan v=>∀u w' c',Ext cx w c' w'->St G c' w' s'->Rp c' w' v u->Q (.panic [{ v:=u,recovered:=false }]) a w')->L6 P ops o K Q a w
 | .call f args s r s'=>∀(cx:Cx) (w:World) (vs:List Value),St G cx w s->Cz cx w args vs->Calls P f vs.toArray w (ayO G cx w r s')
inductive J(P:Program)(G:A6)(X:VO)(H:SD):Jd->Prop where
 | skip {fr:List AV} {s:AS}:J P G X H (.code .skip fr s .normal fr s)
 | exit {id:Nat} {fr:List AV} {s:AS}:J P G X H (.code (.exit id) fr s (.exit id) fr s)
 | ret {fr:List AV} {s:AS}:J P G X H (.code .ret fr s .ret fr s)
 | seq {x y:Code} {fr UL fr':List AV} {s s1 s':AS} {e:AX} (h1:J P G X H (.code x fr s .normal UL s1)) (h2:J P G X H (.code y UL s1 e fr' s')):J P G X H (.code (.seq x y) fr s e fr' s')
 | nW {x y:Code} {fr fr':List AV} {s s':AS} {e:AX} (h1:J P G X H (.code x fr s e fr' s')) (he:e≠.normal):J P G X H (.code (.seq x y) fr s e fr' s')
 | cond {q:Operand} {x y:Code} {t:Bool} {fr fr':List AV} {s s':AS} {e:AX} (hq:A8 G fr q=some (.sc (.bool t))) (h:J P G X H (.code (if t then x else y) fr s e fr' s')):J P G X H (.code (.cond q x y) fr s e fr' s')
 | block {id:Nat} {c:Code} {fr fr':List AV} {s s':AS} {e:AX} (h:J P G X H (.code c fr s e fr' s')):J P G X H (.code (.block id c) fr s (EG id e) fr' s')
 | loop {c:Code} {fr fr':List AV} {s s':AS} {e:AX} (h:J P G X H (.loop c fr s e fr' s')):J P G X H (.code (.loop c) fr s e fr' s')
 | loopN {c:Code} {fr UL fr':List AV} {s s1 s':AS} {e:AX} (h1:J P G X H (.code c fr s .normal UL s1)) (h2:J P G X H (.loop c UL s1 e fr' s')):J P G X H (.loop c fr s e fr' s')
 | loopX {c:Code} {fr fr':List AV} {s s':AS} {e:AX} (h1:J P G X H (.code c fr s e fr' s')) (he:e≠.normal):J P G X H (.loop c fr s e fr' s')
 | region {id:Nat} {ops:Array Oper} {fr fr':List AV} {s s':AS} {e:AX} (h:J P G X H (.ops ops (List.range ops.size) fr s e fr' s')):J P G X H (.code (.region id ops false) fr s e fr' s')
 | adT {ops:Array Oper} {fr:List AV} {s:AS}:J P G X H (.ops ops [] fr s .normal fr s)
 | qX {ops:Array Oper} {i:Nat} {l:List Nat} {o:Oper} {v:AV} {fr fr':List AV} {s s1 s':AS} {e:AX} (ho:ops[i]?=some o) (h:J P G X H (.op ops o fr s (.ret v) s1)) (t:J P G X H (.ops ops l (Ij fr o.dst v) s1 e fr' s')):J P G X H (.ops ops (i::l) fr s e fr' s')
 | adU {ops:Array Oper} {i:Nat} {l:List Nat} {o:Oper} {v:AV} {fr:List AV} {s s1:AS} (ho:ops[i]?=some o) (h:J P G X H (.op ops o fr s (.pan v) s1)):J P G X H (.ops ops (i::l) fr s (.pan v) fr s1)
 | No {ops:Array Oper} {o:Oper} {fr:List AV} {s s':AS} {v:AV} (hw:Cs ops fr o=true) (h:Pz P G fr s o=some (.val v s')):J P G X H (.op ops o fr s (.ret v) s')
 | nG {ops:Array Oper} {o:Oper} {fr:List AV} {s s':AS} {v v2:AV} (hq:quiet o.op=false) (h:J P G X H (.op ops o fr s (.ret v) s')) (hv:∀cx w u,Rp cx w v u->Rp cx w v2 u):J P G X H (.op ops o fr s (.ret v2) s')
 | bP {ops:Array Oper} {o:Oper} {fr:List AV} {s s1 s2:AS} {v:AV} (hq:quiet o.op=false) (h:J P G X H (.op ops o fr s (.ret v) s1)) (hs:∀cx w,St G cx w s1->St G cx w s2):J P G X H (.op ops o fr s (.ret v) s2)
 | adS {ops:Array Oper} {o:Oper} {fr:List AV} {s s':AS} {cl:Call} {x y:Operand} {t tx:TypeId} {a b v:AV} (hw:Cs ops fr o=true) (ho:o.op=.call cl) (H8:cl.callee=.builtin .append) (hx:cl.args.toList=[x,y]) (ht:cl.argTypes.toList=[t,tx]) (ha:A8 G fr x=some a) (hb:A8 G fr y=some b) (h:asL P G t tx a b s v s'):J P G X H (.op ops o fr s (.ret v) s')
 | nF {ops:Array Oper} {o:Oper} {fr:List AV} {s:AS} (hw:Cs ops fr o=false):J P G X H (.op ops o fr s (.ret (.sc undef)) s)
 | Rh {ops:Array Oper} {o:Oper} {fr:List AV} {s s':AS} {f:FuncId} {args:List AV} {r:CR} (hw:Cs ops fr o=true) (h:Pz P G fr s o=some (.ent f args)) (hc:J P G X H (.call f args s r s')):J P G X H (.op ops o fr s r s')
 | arO {ops:Array Oper} {o:Oper} {fr:List AV} {s:AS} {v:AV} (hw:Cs ops fr o=true) (h:Pz P G fr s o=some (.pan v)):J P G X H (.op ops o fr s (.pan v) s)
 | draw {id:Nat} {ops:Array Oper} {f0:List AV} {s0:AS} (rs:List AL) (vals:Nat->AV) (Mr:Nat->AS) (h0:Mr 0=s0.hold rs) (G9:LN ops=true)
     (hl:∀i o,ops[i]?=some o->calm o.op=false->J P G X H (.op ops o (H9 f0 (Cf ops) vals (λ_=>true) i) (Mr i) (.ret (vals i)) (Mr (i+1))))
     (hq:∀i o,ops[i]?=some o->quiet o.op=true->Mr (i+1)=Mr i/\((Cs ops (H9 f0 (Cf ops) vals (λ_=>true) i) o=false/\vals i=.sc undef)\/(Cs ops (H9 f0 (Cf ops) vals (λ_=>true) i) o=true/\∀k,k<=ops.size->Win ops i k->Pz P G (H9 f0 (Cf ops) vals (λ_=>true) i) (Mr k) o=some (.val (vals i) (Mr k)))))
     (ha:∀i o e,ops[i]?=some o->o.op=.alloc e->Mr (i+1)=Mr i/\((Cs ops (H9 f0 (Cf ops) vals (λ_=>true) i) o=false/\vals i=.sc undef)\/(Cs ops (H9 f0 (Cf ops) vals (λ_=>true) i) o=true/\∃z,LJ P e=some z/\rk ops i < rs.length/\vals i=.ptr (s0.nx+rk ops i) 0/\∀k,k<=ops.size->Win ops i k->(Mr k).get (s0.nx+rk ops i)=some (.cells (cellsOf z))))) :
     J P G X H (.code (.region id ops true) f0 s0 .normal (H9 f0 (Cf ops) vals (λ_=>true) ops.size) (Mr ops.size))
 | body {f:FuncId} {fn:Func} {c:Code} {args fr':List AV} {s s' s2:AS} {e:AX} {v:AV} (hf:P.funcs[f]?=some fn) (hb:fn.body=some c) (h:J P G X H (.code c (args++List.replicate (fn.ntmps - args.length) (.sc undef)) s e fr' s')) (he:e=.normal\/e=.ret) (hr:Gg P s' fn fr'=some v) (hk:s2=s'.cut s.nx\/s2=s'):J P G X H (.call f args s (.ret v) s2)
 | aqK {f:FuncId} {fn:Func} {c:Code} {args fr':List AV} {s s':AS} {v:AV} (hf:P.funcs[f]?=some fn) (hb:fn.body=some c) (h:J P G X H (.code c (args++List.replicate (fn.ntmps - args.length) (.sc undef)) s (.pan v) fr' s')):J P G X H (.call f args s (.pan v) (s'.cut s.nx))
 | ext {f:FuncId} {args:List AV} {s s':AS} {r:CR} (h:X f args s r s'):J P G X H (.call f args s r s')
 | Yt {c:Code} {fr fr2 fr':List AV} {s s2 s':AS} {e:AX} (hw:∀cx w vs,St G cx w s->Cz cx w fr vs->∃zH,Ext cx w zH w/\St G zH w s2/\Cz zH w fr2 vs) (h:J P G X H (.code c fr2 s2 e fr' s')):J P G X H (.code c fr s e fr' s')
 | asJ {c:Code} {fr fr2 fr':List AV} {s s2 s':AS} {e:AX} (hw:∀cx w vs,St G cx w s->Cz cx w fr vs->∃zH,Ext cx w zH w/\St G zH w s2/\Cz zH w fr2 vs) (h:J P G X H (.loop c fr2 s2 e fr' s')):J P G X H (.loop c fr s e fr' s')
 | scope {c:Code} {fr fr2 fr':List AV} {s s2 s':AS} {e:AX} (h:J P G X H (.code c fr s e fr' s')) (he:∀v,e≠.pan v) (hs:∀cx w c' w' vs,Ext cx w c' w'->St G cx w s->St G c' w' s'->Cz c' w' fr' vs->∃c2,Ext cx w c2 w'/\St G c2 w' s2/\Cz c2 w' fr2 vs):J P G X H (.code c fr s e fr2 s2)
 | auN {f g:FuncId} {args Xi:List AV} {k:CR->Option CR} {s s':AS} {r r':CR} (hh:H f args=some (g,Xi,k)) (h:J P G X H (.call g Xi s r s')) (hk:k r=some r'):J P G X H (.call f args s r' s')
 | sem {c:Code} {fr fr':List AV} {s s':AS} {e:AX} (h:P.follows .mixedOrders=true->Sound P G (.code c fr s e fr' s')):J P G X H (.code c fr s e fr' s')
def M4{ops:Array Oper}{fr:List AV}{o:Oper}{c:Cx}{w:World}{tmps:Array Value}(h:∀j want,o.guard=some (j,want)->∀d,(ops[j]?).bind (·.dst)=some d->∃M,Cz c w M tmps.toList/\M[d]?=fr[d]?):Cs ops fr o=Region.wanted o (yielded ops tmps):=by
 unfold Cs Region.wanted;cases hg:o.guard with
 | none=>rfl
 | some p =>
   obtain⟨j,want⟩:=p;simp only;unfold yielded;cases hd:(ops[j]?).bind (·.dst) with
   | none=>simp
   | some d =>
     obtain⟨M,hM,he⟩:=h j want hg d hd;simp only[Option.bind_some];rw[<- he];cases hm:M[d]? with
     | none =>
       have hl:=hM.len;have h1:=List.getElem?_eq_none_iff.1 hm;have h2:tmps[d]?=none:=Array.getElem?_eq_none (by rw[<- Array.length_toList];omega);simp[h2]
     | some b =>
       obtain⟨u,hu,hr⟩:=hM.get hm;rw[Array.getElem?_toList] at hu;rw[hu];cases hr with
       | sc hs=>cases u<;>simp
       | any hs=>cases u<;>first | (simp[Wa] at hs;done) | simp
       | _=>simp
def vP(tmps:Array Value):ResultVar->Sem Value
 | .tmp t=>pure (tmps.getD t undef)
 | .cell a t=>do loadVar t (<- asAddr (tmps.getD a undef))
def Tb(fn:Func)(tmps:Array Value):results fn tmps=(do
 let vs <- fn.results.mapM (vP tmps)
 pure (if h:vs.size=1 then vs[0] else .tuple vs)):=by
 unfold results;congr 2
def eB{P:Program}{G:A6}{c:Cx}{w:World}{s:AS}{fr:List AV}{tmps:Array Value}(hs:St G c w s)(hf:Cz c w fr tmps.toList){r:ResultVar}{v:AV}(h:QU P s fr r=some v) :
   ∃u,(vP tmps r).run P w=.ok u w/\Rp c w v u:=by
 have ht:∀t,Rp c w (fr.getD t (.sc undef)) (tmps.getD t undef):=λt=>El (G:=G) (s:=s) (a:=⟨tmps,[]⟩) (x:=.tmp t) hs hf rfl;cases r with
 | tmp t=>simp only[QU,Option.some.injEq] at h;subst h;exact⟨_,rfl,ht t⟩
 | cell t ty =>
   obtain⟨u,h1,h2⟩:=dX hs h (ht t);refine⟨u,?_,h2⟩;have hr:=ht t;simp only[Instr.loadAt,Sem.run_bind] at h1;simp only[vP,Sem.run_bind];generalize tmps.getD t undef=x at hr h1;simp only[QU] at h;unfold I4 at h;split at h;rename_i OT;rw[OT] at hr;cases hr;simpa[asAddr,Instr.sureAddr] using h1
   rename_i OT;rw[OT] at hr;cases hr;simpa[asAddr,Instr.sureAddr] using h1
   cases h
def eC{P:Program}{G:A6}{c:Cx}{w:World}{s:AS}{fr:List AV}{tmps:Array Value}(hs:St G c w s)(hf:Cz c w fr tmps.toList)(rs:List ResultVar){vs:List AV}(h:M0 P s fr rs=some vs) :
   ∃us,(rs.mapM (vP tmps)).run P w=.ok us w/\Cz c w vs us:=by
 induction rs generalizing vs with
 | nil=>simp[M0] at h;subst h;exact⟨[],rfl,.nil⟩
 | cons r rs ih =>
   simp only[M0] at h;split at h;rename_i a as h1 h2;cases h;obtain⟨u,hu,hr⟩:=eB hs hf h1;obtain⟨us,hus,hrs⟩:=ih h2;refine⟨u::us,?_,.cons hr hrs⟩;rw[List.mapM_cons];simp only[Sem.run_bind,hu,Result.andThen_ok,hus,Sem.run_pure];cases h
def QV{P:Program}{G:A6}{c:Cx}{w:World}{s:AS}{fr:List AV}{tmps:Array Value}{fn:Func}{v:AV}(hs:St G c w s)(hf:Cz c w fr tmps.toList)(h:Gg P s fn fr=some v):∃u,(results fn tmps).run P w=.ok u w/\Rp c w v u:=by
 unfold Gg at h;cases hl:M0 P s fr fn.results.toList with
 | none=>rw[hl] at h;cases h
 | some as =>
   rw[hl] at h;obtain⟨us,hus,hrs⟩:=eC hs hf _ hl;have hlen:=hrs.len
   have QI:(results fn tmps).run P w=.ok (if h:us.toArray.size=1 then us.toArray[0] else .tuple us.toArray) w:=by
     rw[Tb,Array.mapM_eq_mapM_toList];simp only[Sem.run_bind,Sem.run_map,hus,Result.andThen_ok,Sem.run_pure]
   rw[QI];split at h;rename_i a OT;cases OT;cases h;cases hrs with
   | cons h1 t=>cases t;exact⟨_,rfl,h1⟩
   rename_i as' hne OT;cases OT;cases h
   have:¬us.toArray.size=1:=by
     intro h1;simp at h1;obtain⟨a,ha⟩:=List.length_eq_one_iff.1 (hlen.symm.trans h1);exact hne a ha
   rw[dif_neg this];exact⟨_,rfl,.Df hrs⟩;rename_i OT;cases OT
end AI
namespace AI
open Go Go.RowKit
def eQ(L:Nat->Bool):Nat->Nat
 | 0=>0
 | n+1=>eQ L n+if L n then 0 else 1
def eS{L:Nat->Bool}:∀(n:Nat),eQ L n=0->∀i,i < n->L i=true:=by
 intro n
 induction n with
 | zero=>intro _ i hi;omega
 | succ n ih =>
   intro h i hi;simp only[eQ] at h;by_cases hn:i=n;subst hn;by_cases hL:L i=true;exact hL;simp[hL] at h;exact ih (by omega) i (by omega)
def oV{L M:Nat->Bool}{i:Nat}(h0:L i=false)(h1:M i=true)(hne:∀j,j≠i->M j=L j):∀(n:Nat),(i < n->eQ L n=eQ M n+1)/\(n<=i->eQ L n=eQ M n):=by
 intro n
 induction n with
 | zero=>exact⟨λh=>by omega,λ_=>rfl⟩
 | succ n ih =>
   refine⟨λh=>?_,λh=>?_⟩;simp only[eQ];by_cases hn:n=i;subst hn;rw[ih.2 (Nat.le_refl _),h0,h1];simp;rw[ih.1 (by omega),hne n hn];omega;simp only[eQ];rw[ih.2 (by omega),hne n (by omega)]
def oA{ops:Array Oper}{Mr:Nat->AS}(hq:∀i o,ops[i]?=some o->calm o.op=true->Mr (i+1)=Mr i){x:Nat}:∀(y:Nat),x<=y->y<=ops.size->(∀m,x<=m->m < y->¬XL ops m)->Mr x=Mr y:=by
 intro y
 induction y with
 | zero=>intro h _ _;have:x=0:=by omega
         subst this;rfl
 | succ y ih =>
   intro h hn hl;by_cases e:x=y+1;subst e;rfl;rw[ih (by omega) (by omega) (λm h1 h2=>hl m h1 (by omega))];have ho:ops[y]?=some (ops[y]'(by omega)):=Array.getElem?_eq_getElem (by omega);have hy:=hl y (by omega) (by omega);refine(hq y _ ho ?_).symm;cases hqq:calm (ops[y]'(by omega)).op with
   | true=>rfl
   | false=>exact absurd ⟨_,ho,hqq⟩ hy
def mem_ready{ops:Array Oper}{L:Array Bool}(hsz:L.size=ops.size){i:Nat}(h:i∈Region.ready .any ops L):∃o,ops[i]?=some o/\L.getD i false=false/\Met (λj=>L.getD j false) o/\i < ops.size:=by
 unfold Region.ready at h;rw[List.mem_filter,List.mem_range,Bool.and_eq_true] at h;obtain⟨h1,h2,h3⟩:=h;have ho:ops[i]?=some (ops[i]'h1):=Array.getElem?_eq_getElem h1;refine⟨_,ho,?_,λe he hb=>?_,h1⟩;have:i < L.size:=by omega
 simpa[this] using h2
 rw[ho] at h3;simp only[Option.map_some,Option.getD_some] at h3;rw[Array.all_eq_true_iff_forall_mem] at h3;have:=h3 e he;rw[hb] at this;simpa using this
def iI{ops:Array Oper}{L:Array Bool}(hsz:L.size=ops.size){i:Nat}{o:Oper}(ho:ops[i]?=some o)(hL:L.getD i false=false)(hm:Met (λj=>L.getD j false) o):i∈Region.ready .any ops L:=by
 have h1:=(Array.getElem?_eq_some_iff.1 ho).1;unfold Region.ready;rw[List.mem_filter,List.mem_range,Bool.and_eq_true];refine⟨h1,?_,?_⟩;have:i < L.size:=by omega
 simpa[this] using hL
 rw[ho];simp only[Option.map_some,Option.getD_some];rw[Array.all_eq_true_iff_forall_mem];intro e he;by_cases hb:Region.binds .any e=true;have:=hm e he hb;rw[hb];simpa using this
 simp[hb]
section
variable {P:Program} {G:A6} {ops:Array Oper} {f0:List AV} {vals:Nat->AV} {Mr:Nat->AS}
structure Inv(G:A6)(ops:Array Oper)(f0:List AV)(vals:Nat->AV)(Mr:Nat->AS)(kK:Cx)(w0:World)(nh:Nat)(L:Array Bool)(a:Act)(w:World):Prop where
 size:L.size=ops.size
 closed:MY ops.toList (λj=>L.getD j false)
 st:∃c k,k<=ops.size/\(∀l,XL ops l->(L.getD l false=true↔l < k))/\Ext kK w0 c w/\St G c w (Mr k)/\Cz c w (H9 f0 (Cf ops) vals (λj=>L.getD j false) ops.size) a.tmps.toList /\
   ∀j y,ops[j]?=some y->BX y.op=true->L.getD j false=false->rk ops j < nh->c.CN[kK.CN.length+rk ops j]?=some none
 defers:a.defers=[]
def looks{x y:Oper}{t:Nat}(hx:x.dst=some t)(hy:t∈y.looksAt ops):O2 ops x y=true:=by
 simp[O2,hx,hy]
def awA{x y:Oper}{t:Nat}(hx:t∈x.looksAt ops)(hy:y.dst=some t):O2 ops x y=true:=by
 simp[O2,hx,hy]
def aCJ{x y:Oper}{t:Nat}(hx:x.dst=some t)(hy:y.dst=some t):O2 ops x y=true:=by
 simp[O2,hx,hy]
def qK{x y:Oper}(hx:calm x.op=false)(hy:calm y.op=false):O2 ops x y=true:=by
 simp[O2,hx,hy]
def Cc{i:Nat}{o:Oper}(h:ops[i]?=some o):ops.toList[i]?=some o:=by rw[Array.getElem?_toList];exact h
def UG{L:Nat->Bool}(G9:LN ops=true)(hc:MY ops.toList L){i j:Nat}{x y:Oper}(hx:ops[i]?=some x)(hy:ops[j]?=some y)(hm:Met L y)(hlt:i < j)(H8:O2 ops x y=true):L i=true :=
 W8 hc (Cc hy) hm (Zz G9 hx hy hlt H8)
def PI{L:Nat->Bool}(G9:LN ops=true)(hc:MY ops.toList L){i j:Nat}{x y:Oper}(hx:ops[i]?=some x)(hy:ops[j]?=some y)(hL:L i=false)(hlt:i < j)(H8:O2 ops x y=true):L j=false:=by
 cases h:L j with
 | false=>rfl
 | true =>
   have:=W8 hc (Cc hy) (hc j y (Cc hy) h) (Zz G9 hx hy hlt H8);rw[hL] at this;cases this
def lL{i t:Nat}(h:Cf ops i=some t):∃o,ops[i]?=some o/\o.dst=some t:=by
 unfold Cf at h;cases ho:ops[i]? with
 | none=>rw[ho] at h;cases h
 | some o=>rw[ho] at h;exact⟨o,rfl,by simpa using h⟩
def RC{L:Nat->Bool}(G9:LN ops=true)(hc:MY ops.toList L){i:Nat}{o:Oper}(ho:ops[i]?=some o)(hL:L i=false)(hm:Met L o){t:Nat}(ht:t∈o.looksAt ops) :
   (H9 f0 (Cf ops) vals L ops.size)[t]?=(H9 f0 (Cf ops) vals (λ_=>true) i)[t]?:=by
 have hi:=(Array.getElem?_eq_some_iff.1 ho).1;rw[pG (j:=i) ops.size (by omega)];refine Xh i (λj hj hd=>?_);obtain⟨x,hx,hxd⟩:=lL hd;exact UG G9 hc hx ho hm hj (looks hxd ht);intro j hj _ hd;by_cases e:j=i;subst e;exact hL;obtain⟨y,hy,hyd⟩:=lL hd;exact PI G9 hc ho hy hL (by omega) (awA ht hyd)
def pH{L M:Nat->Bool}(G9:LN ops=true)(hc:MY ops.toList L){i:Nat}{o:Oper}(ho:ops[i]?=some o)(hL:L i=false)(hM:M i=true)(hne:∀j,j≠i->M j=L j) :
   H9 f0 (Cf ops) vals M ops.size=Ij (H9 f0 (Cf ops) vals L ops.size) o.dst (vals i):=by
 have hi:=(Array.getElem?_eq_some_iff.1 ho).1;have hdi:Cf ops i=o.dst:=by unfold Cf;rw[ho];rfl
 apply List.ext_getElem?;intro t;by_cases hd:o.dst=some t;rw[pG (j:=i+1) ops.size (by omega)];simp only[H9,hM,if_true,hdi,hd];rw[N0,N0,Wd,Wd];intro j hj _ hdj;obtain⟨y,hy,hyd⟩:=lL hdj;rw[hne j (by omega)];exact PI G9 hc ho hy hL (by omega) (aCJ hd hyd);rw[QT hd];refine Xh ops.size (λj _ hdj=>hne j (λe=>hd ?_));rw[<- hdi,<- e];exact hdj
def Ext.atX{c:Cx}{w:World}{c':Cx}{w':World}(h:Ext c w c' w'){id:Nat}{y:Option Nat}(e:c.CN[id]?=some y):c'.CN[id]?=some y:=by
 obtain⟨t,ht⟩:=h.CN;rw[<- ht,List.getElem?_append_left (List.getElem?_eq_some_iff.1 e).1];exact e
def zT{nh:Nat}(G9:LN ops=true)
   (hl:∀i o,ops[i]?=some o->calm o.op=false->Sound P G (.op ops o (H9 f0 (Cf ops) vals (λ_=>true) i) (Mr i) (.ret (vals i)) (Mr (i+1))))
   (hq:∀i o,ops[i]?=some o->quiet o.op=true->Mr (i+1)=Mr i/\((Cs ops (H9 f0 (Cf ops) vals (λ_=>true) i) o=false/\vals i=.sc undef)\/(Cs ops (H9 f0 (Cf ops) vals (λ_=>true) i) o=true/\∀k,k<=ops.size->Win ops i k->Pz P G (H9 f0 (Cf ops) vals (λ_=>true) i) (Mr k) o=some (.val (vals i) (Mr k)))))
   (kK:Cx) (w0:World)
   (ha:∀i o e,ops[i]?=some o->o.op=.alloc e->Mr (i+1)=Mr i/\((Cs ops (H9 f0 (Cf ops) vals (λ_=>true) i) o=false/\vals i=.sc undef)\/(Cs ops (H9 f0 (Cf ops) vals (λ_=>true) i) o=true/\∃z,LJ P e=some z/\rk ops i < nh/\vals i=.ptr (kK.CN.length+rk ops i) 0/\∀k,k<=ops.size->Win ops i k->(Mr k).get (kK.CN.length+rk ops i)=some (.cells (cellsOf z)))))
   (Q:Exit->Act->World->Prop) (hQ:∀e' a' w',Sa G kK w0 .normal (H9 f0 (Cf ops) vals (λ_=>true) ops.size) (Mr ops.size) e' a' w'->Q e' a' w') :
   ∀(fuel:Nat) (L:Array Bool) (a:Act) (w:World),Inv G ops f0 vals Mr kK w0 nh L a w->eQ (λj=>L.getD j false) ops.size=fuel->wpAny P .any ops Q fuel L a w:=by
 have hqs:∀i o,ops[i]?=some o->calm o.op=true->Mr (i+1)=Mr i:=λi o h1 h2=>by
   rcases W5 h2 with h2 | ⟨e,h2⟩
   exact(hq i o h1 h2).1;exact(ha i o e h1 h2).1
 have fin:∀(L:Array Bool) (a:Act) (w:World),Inv G ops f0 vals Mr kK w0 nh L a w->(∀i,i < ops.size->L.getD i false=true)->Q .normal a w:=by
   intro L a w hI JG;obtain⟨c,k,hk,Wf,hx,FW,hfr,_⟩:=hI.st;have aIC:Mr k=Mr ops.size:=oA hqs ops.size hk (Nat.le_refl _) (λm h1 h2 hm=>by have:=(Wf m hm).1 (JG m h2);omega);rw[aIC] at FW;refine hQ _ _ _ ⟨c,hx,FW,hI.defers,rfl,?_⟩
   have:H9 f0 (Cf ops) vals (λj=>L.getD j false) ops.size=H9 f0 (Cf ops) vals (λ_=>true) ops.size:=by
     apply List.ext_getElem?;intro t;exact Xh ops.size (λi hi _=>JG i hi)
   rw[<- this];exact hfr
 intro fuel
 induction fuel with
 | zero =>
   intro L a w hI hc;have JG:=eS ops.size hc;refine⟨?_,fin L a w hI JG⟩;apply List.eq_nil_iff_forall_not_mem.2;intro i hi;obtain⟨o,ho,h1,_,hlt⟩:=mem_ready hI.size hi;have:=JG i hlt;rw[h1] at this;cases this
 | succ fuel ih =>
   intro L a w hI aHG;refine⟨λaY=>fin L a w hI (λi=>?_),λi hi=>?_⟩
   · induction i using Nat.strongRecOn with
     | _ i ihi =>
       intro hlt;cases dI:L.getD i false with
       | true=>rfl
       | false =>
         exfalso;have ho:ops[i]?=some (ops[i]'hlt):=Array.getElem?_eq_getElem hlt
         have:=iI hI.size ho dI (λe he hb=>by
           have h1:=gX G9 ho he hb;exact ihi e.on h1 (by omega))
         rw[aY] at this;cases this
   · obtain⟨o,ho,dI,Xu,hlt⟩:=mem_ready hI.size hi
     obtain⟨c,k,hk,Wf,hx,FW,hfr,mB⟩:=hI.st
     have hMi:(L.setIfInBounds i true).getD i false=true:=by
       have:i < L.size:=by rw[hI.size];exact hlt
       simp[this]
     have pL:∀j,j≠i->(L.setIfInBounds i true).getD j false=L.getD j false:=by
       intro j hj;simp only[Array.getD_eq_getD_getElem?];rw[Array.getElem?_setIfInBounds_ne (λe=>hj e.symm)]
     have hle:∀j,L.getD j false=true->(L.setIfInBounds i true).getD j false=true:=by
       intro j hj;by_cases e:j=i;subst e;exact hMi;rw[pL j e];exact hj
     have Xq:MY ops.toList (λj=>(L.setIfInBounds i true).getD j false):=by
       intro j y hy hj e he hb;by_cases ej:j=i;subst ej;rw[Cc ho] at hy;cases hy;exact hle _ (Xu e he hb);have hj2:L.getD j false=true:=by rw[<- pL j ej];exact hj
       exact hle _ (hI.closed j y hy hj2 e he hb)
     have abN:eQ (λj=>(L.setIfInBounds i true).getD j false) ops.size=fuel:=by
       have:=(oV (L:=λj=>L.getD j false) (M:=λj=>(L.setIfInBounds i true).getD j false) dI hMi pL ops.size).1 hlt;omega
     have YK:=pH (f0:=f0) (vals:=vals) (L:=λj=>L.getD j false) (M:=λj=>(L.setIfInBounds i true).getD j false) G9 hI.closed ho dI hMi pL
     have arZ:∀(k':Nat) (u:Value) (w':World) (c':Cx),k'<=ops.size->(∀l,XL ops l->((L.setIfInBounds i true).getD l false=true↔l < k'))->Ext kK w0 c' w'->Mon c w c' w' ->
         (∀j y,ops[j]?=some y->BX y.op=true->(L.setIfInBounds i true).getD j false=false->rk ops j < nh->c'.CN[kK.CN.length+rk ops j]?=some none)->St G c' w' (Mr k')->Rp c' w' (vals i) u->wpAny P .any ops Q fuel (L.setIfInBounds i true) (a.put o.dst u) w':=by
       intro k' u w' c' hk' aX VU hm' hh' Mb hu;refine ih _ _ _ ⟨by simp[hI.size],Xq,⟨c',k',hk',aX,VU,Mb,?_,hh'⟩,by cases o.dst<;>exact hI.defers⟩ abN
       rw[YK];exact N1 (hfr.Dp hm') hu
     have step:∀(k':Nat) (u:Value) (w':World) (c':Cx),k'<=ops.size->(∀l,XL ops l->((L.setIfInBounds i true).getD l false=true↔l < k'))->Ext c w c' w'->St G c' w' (Mr k')->Rp c' w' (vals i) u->wpAny P .any ops Q fuel (L.setIfInBounds i true) (a.put o.dst u) w':=by
       intro k' u w' c' hk' aX VU Mb hu;refine arZ k' u w' c' hk' aX (hx.trans VU) VU.mon (λj y hy bB hj hjn=>?_) Mb hu;have hji:j≠i:=λe=>by subst e;rw[hMi] at hj;cases hj
       rw[pL j hji] at hj;exact VU.atX (mB j y hy bB hj hjn)
     have fV:∀x∈o.op.operands,YF G c w (H9 f0 (Cf ops) vals (λ_=>true) i) a.eval x:=by
       intro x hxo v hv;cases x with
       | tmp t =>
         have abS:t∈o.looksAt ops:=by
           unfold Oper.looksAt;rw[List.mem_append];left;rw[List.mem_filterMap];exact⟨.tmp t,Array.mem_toList_iff.2 hxo,rfl⟩
         have he:=RC (f0:=f0) (vals:=vals) G9 hI.closed ho dI Xu abS
         have:A8 G (H9 f0 (Cf ops) vals (λj=>L.getD j false) ops.size) (.tmp t)=some v:=by
           rw[<- hv];simp only[A8,List.getD_eq_getElem?_getD,he]
         exact El FW hfr this
       | const z=>exact El (fr:=H9 f0 (Cf ops) vals (λj=>L.getD j false) ops.size) FW hfr hv
       | global g=>exact El (fr:=H9 f0 (Cf ops) vals (λj=>L.getD j false) ops.size) FW hfr hv
       | func f=>exact El (fr:=H9 f0 (Cf ops) vals (λj=>L.getD j false) ops.size) FW hfr hv
     have Vu:Cs ops (H9 f0 (Cf ops) vals (λ_=>true) i) o=Region.wanted o (yielded ops a.tmps):=by
       refine M4 (c:=c) (w:=w) (λj want hg d hd=>⟨_,hfr,?_⟩);refine RC G9 hI.closed ho dI Xu ?_;unfold Oper.looksAt;rw[List.mem_append];right;rw[hg];simp[hd]
     have aT:L6 P ops o (wpAny P .any ops Q fuel (L.setIfInBounds i true)) Q a w->wpOp P ops Q i (wpAny P .any ops Q fuel (L.setIfInBounds i true)) a w:=by
       intro h;unfold wpOp;rw[ho];unfold L6 at h;simp only;split;rename_i hw;rw[if_pos hw] at h;exact .inl h;rename_i hw;rw[if_neg hw] at h;exact h
     refine aT ?_;cases hqo:calm o.op with
     | false =>
       have hki:Mr k=Mr i:=by
         rcases Nat.le_total k i with auM | auM
         exact oA hqs i auM (by omega) (λm h1 h2 hm=>by
           obtain⟨y,hy,qA⟩:=hm;have:=UG G9 hI.closed hy ho Xu h2 (qK qA hqo);have:=(Wf m ⟨y,hy,qA⟩).1 this;omega)
         exact(oA hqs k auM hk (λm h1 h2 hm=>by
           obtain⟨y,hy,qA⟩:=hm;have hLm:=(Wf m ⟨y,hy,qA⟩).2 h2;by_cases e:m=i;subst e;rw[dI] at hLm;cases hLm;have:=PI G9 hI.closed ho hy dI (by omega) (qK hqo qA);rw[this] at hLm;cases hLm)).symm
       rw[hki] at FW;refine hl i o ho hqo c w a _ _ FW fV Vu ?_;intro u w' c' VU Mb hu;refine step (i+1) u w' c' (by omega) (λl xE=>?_) VU Mb hu;by_cases e:l=i;subst e;rw[hMi];simp;rw[pL l e,Wf l xE];obtain⟨y,hy,qA⟩:=xE;constructor;intro hlt';have hLl:=(Wf l ⟨y,hy,qA⟩).2 hlt';rcases Nat.lt_or_ge l i with h1 | h1
       omega;have:=PI G9 hI.closed ho hy dI (by omega) (qK hqo qA);rw[this] at hLl;cases hLl;intro hlt';have:=UG G9 hI.closed hy ho Xu (by omega) (qK qA hqo);exact(Wf l ⟨y,hy,qA⟩).1 this
     | true =>
       have aX:∀l,XL ops l->((L.setIfInBounds i true).getD l false=true↔l < k):=by
         intro l xE
         have hne:l≠i:=by
           intro e;subst e;obtain⟨y,hy,qA⟩:=xE;rw[ho] at hy;cases hy;rw[hqo] at qA;cases qA
         rw[pL l hne];exact Wf l xE
       have YN:Win ops i k:=by
         refine⟨λl xE hd=>?_,λl xE hd=>?_⟩;exact(Wf l xE).1 (W8 hI.closed (Cc ho) Xu hd);rcases Nat.lt_or_ge l k with h1 | h1
         exfalso;have hLl:=(Wf l xE).2 h1;obtain⟨y,hy,qA⟩:=xE;have:=W8 hI.closed (Cc hy) (hI.closed l y (Cc hy) hLl) hd;rw[dI] at this;cases this;exact h1
       unfold L6;rcases W5 hqo with hqo | ⟨e,hoe⟩
       obtain⟨_,Su⟩:=hq i o ho hqo;rcases Su with ⟨hw,hv⟩ | ⟨hw,hv⟩
       rw[<- Vu,hw];simp only[Bool.false_eq_true,if_false];exact step k undef w c hk aX (Ext.refl c w) FW (by rw[hv];exact .sc rfl);rw[<- Vu,hw];simp only[if_true];have aAD:=aB FW fV (λ_=>rfl) (hv k hk YN);obtain⟨u,w',c',hr,VU,Mb,hu⟩:=aAD;unfold Oper.wp;rcases hr with hr | ⟨hr,rfl⟩
       rw[hr];exact step k u w' c' hk aX VU Mb hu;rw[hr];exact step k undef w' c' hk aX VU Mb hu;obtain⟨_,Su⟩:=ha i o e ho hoe;rcases Su with ⟨hw,hv⟩ | ⟨hw,z,hz,hrk,hv,aAE⟩
       rw[<- Vu,hw];simp only[Bool.false_eq_true,if_false];exact step k undef w c hk aX (Ext.refl c w) FW (by rw[hv];exact .sc rfl);rw[<- Vu,hw];simp only[if_true];have hia:BX o.op=true:=by rw[hoe];rfl
       obtain⟨u,w',c',hr,hm',Mb,hu,aHL,aHY⟩:=kZ (ρ:=a.eval) FW hoe hz (mB i o ho hia dI hrk) (aAE k hk YN);unfold Oper.wp;rw[hr];refine arZ k u w' c' hk aX (aHL kK w0 hx (by omega)) hm' (λj y hy bB hj hjn=>?_) Mb (by rw[hv];exact hu);have hji:j≠i:=λe=>by subst e;rw[hMi] at hj;cases hj
       rw[pL j hji] at hj;have hne:rk ops j≠rk ops i:=λe=>hji (axA hy ho bB hia e);rw[aHY _ (by omega)];exact mB j y hy bB hj hjn
end
end AI
namespace AI
open Go Go.RowKit
def bQ{G:A6}{c:Cx}{w:World}{s:AS}{fr:List AV}{a:Act}(hs:St G c w s)(hf:Cz c w fr a.tmps.toList)(x:Operand):YF G c w fr a.eval x:=λ_ hv=>El hs hf hv
def Ln{P:Program}{ops:Array Oper}{o:Oper}{i:Nat}{l:List Nat}{Q:Exit->Act->World->Prop}{a:Act}{w:World}(ho:ops[i]?=some o)(h:L6 P ops o (wpOps P ops Q l) Q a w):wpOps P ops Q (i::l) a w:=by
 unfold wpOps;rw[ho];unfold L6 at h;simp only;split;rename_i hw;rw[if_pos hw] at h;exact .inl h;rename_i hw;rw[if_neg hw] at h;exact h
def Sa.Pa{G:A6}{c:Cx}{w:World}{e:AX}{fr':List AV}{s':AS}{e':Exit}{a':Act}{w':World}(h:Sa G c w e fr' s' e' a' w')(he:e≠.normal):e'≠.normal:=by
 obtain⟨c',_,_,_,h4⟩:=h;cases e with
 | normal=>exact absurd rfl he
 | exit id=>intro h5;rw[h4.1] at h5;cases h5
 | ret=>intro h5;rw[h4.1] at h5;cases h5
 | pan v=>obtain⟨u,h5,_⟩:=h4;intro h6;rw[h5] at h6;cases h6
def Uj{K:Act->World->Prop}{Q:Exit->Act->World->Prop}{e:Exit}{a:Act}{w:World}(he:e≠.normal)(h:Q e a w):Exit.then K Q e a w:=by
 cases e<;>first | exact absurd rfl he | exact h
structure aqG(P:Program)(G:A6)(X:VO)(H:SD):Prop where
 mixed:P.follows .mixedOrders=true
 ext:∀f args s r s',X f args s r s'->Sound P G (.call f args s r s')
 auN:∀f args g Xi k,H f args=some (g,Xi,k)->∀s r s' r',Sound P G (.call g Xi s r s')->k r=some r'->Sound P G (.call f args s r' s')
def sound{P:Program}{G:A6}{X:VO}{H:SD}(hg:aqG P G X H){jd:Jd}(h:J P G X H jd):Sound P G jd:=by
 induction h with
 | sem h=>exact h hg.mixed
 | Yt hw _ ih=>intro cx w a Q hs hf hd hQ;obtain⟨c2,x,h1,h2⟩:=hw cx w _ hs hf;exact ih c2 w a Q h1 h2 hd (λe a w hp=>hQ e a w (hp.ext x))
 | asJ hw _ ih=>obtain⟨n,ih⟩:=ih;exact⟨n,λcx w a Q hs hf hd hQ=>by obtain⟨c2,x,h1,h2⟩:=hw cx w _ hs hf;exact ih c2 w a Q h1 h2 hd (λe a w hp=>hQ e a w (hp.ext x))⟩
 | nG _ _ hv ih =>
   intro cx w a K Q hs Is hwa hK;exact ih cx w a K Q hs Is hwa (λu w' c' x st hu=>hK u w' c' x st (hv _ _ _ hu))
 | bP _ _ hv ih =>
   intro cx w a K Q hs Is hwa hK;exact ih cx w a K Q hs Is hwa (λu w' c' x st hu=>hK u w' c' x (hv _ _ st) hu)
 | @scope c fr fr2 fr' s s2 s' e _ he hsc ih =>
   intro cx w a Q hs hf hd hQ;refine ih cx w a Q hs hf hd ?_;rintro e' a' w' ⟨c',hx,hs',QH,h4⟩;cases e with
   | normal=>obtain⟨rfl,h5⟩:=h4;obtain⟨c2,x2,Ty,f2⟩:=hsc cx w c' w' _ hx hs hs' h5;exact hQ _ _ _ ⟨c2,x2,Ty,QH,rfl,f2⟩
   | exit id=>obtain⟨rfl,h5⟩:=h4;obtain⟨c2,x2,Ty,f2⟩:=hsc cx w c' w' _ hx hs hs' h5;exact hQ _ _ _ ⟨c2,x2,Ty,QH,rfl,f2⟩
   | ret=>obtain⟨rfl,h5⟩:=h4;obtain⟨c2,x2,Ty,f2⟩:=hsc cx w c' w' _ hx hs hs' h5;exact hQ _ _ _ ⟨c2,x2,Ty,QH,rfl,f2⟩
   | pan v=>exact absurd rfl (he v)
 | skip=>intro cx w a Q hs hf hd hQ;exact wp_skip (hQ _ _ _ ⟨cx,Ext.refl _ _,hs,hd,rfl,hf⟩)
 | exit=>intro cx w a Q hs hf hd hQ;exact wp_exit (hQ _ _ _ ⟨cx,Ext.refl _ _,hs,hd,rfl,hf⟩)
 | ret=>intro cx w a Q hs hf hd hQ;exact wp_ret (hQ _ _ _ ⟨cx,Ext.refl _ _,hs,hd,rfl,hf⟩)
 | seq _ _ mM uS =>
   intro cx w a Q hs hf hd hQ;refine wp_seq (mM cx w a _ hs hf hd ?_);rintro e' a' w' ⟨c',hx,hs',QH,rfl,fR⟩;exact uS c' w' a' Q hs' fR QH (λe2 a2 w2 h2=>hQ e2 a2 w2 (h2.ext hx))
 | nW _ he mM =>
   intro cx w a Q hs hf hd hQ;refine wp_seq (mM cx w a _ hs hf hd ?_);intro e' a' w' hp;exact Uj (hp.Pa he) (hQ _ _ _ hp)
 | @cond q x y t fr fr' s s' e hq _ ih =>
   intro cx w a Q hs hf hd hQ;have hr:=El hs hf hq
   have Is:a.eval q=.bool t:=by
     generalize a.eval q=v at hr;cases hr;rfl
   exact wp_cond Is (ih cx w a Q hs hf hd hQ)
 | @block id c fr fr' s s' e _ ih =>
   intro cx w a Q hs hf hd hQ;refine wp_block (ih cx w a _ hs hf hd ?_);rintro e' a' w' ⟨c',hx,hs',QH,h4⟩;cases e with
   | normal=>obtain⟨rfl,h5⟩:=h4;exact hQ _ _ _ ⟨c',hx,hs',QH,rfl,h5⟩
   | exit Qp =>
     obtain⟨rfl,h5⟩:=h4;show if Qp=id then Q .normal a' w' else Q (.exit Qp) a' w'
     by_cases hid:Qp=id;rw[if_pos hid];refine hQ _ _ _ ⟨c',hx,hs',QH,?_⟩;simp only[EG,hid,if_true];exact⟨trivial,h5⟩;rw[if_neg hid];refine hQ _ _ _ ⟨c',hx,hs',QH,?_⟩;simp only[EG,hid,if_false];exact⟨trivial,h5⟩
   | ret=>obtain⟨rfl,h5⟩:=h4;exact hQ _ _ _ ⟨c',hx,hs',QH,rfl,h5⟩
   | pan v=>obtain⟨u,rfl,h5⟩:=h4;exact hQ _ _ _ ⟨c',hx,hs',QH,u,rfl,h5⟩
 | loop _ ih =>
   intro cx w a Q hs hf hd hQ;obtain⟨n,hn⟩:=ih;exact wp_loop_rounds n (hn cx w a Q hs hf hd hQ)
 | loopN _ _ mM uS =>
   obtain⟨n,hn⟩:=uS;refine⟨n+1,?_⟩;intro cx w a Q hs hf hd hQ;rw[rounds_succ];refine mM cx w a _ hs hf hd ?_;rintro e' a' w' ⟨c',hx,hs',QH,rfl,fR⟩;exact hn c' w' a' Q hs' fR QH (λe2 a2 w2 h2=>hQ e2 a2 w2 (h2.ext hx))
 | loopX _ he mM =>
   refine⟨1,?_⟩;intro cx w a Q hs hf hd hQ;rw[rounds_succ];refine mM cx w a _ hs hf hd ?_;intro e' a' w' hp;exact Uj (hp.Pa he) (hQ _ _ _ hp)
 | region _ ih =>
   intro cx w a Q hs hf hd hQ;exact wp_region (ih cx w a Q hs hf hd hQ)
 | adT=>intro cx w a Q hs hf hd hQ;exact hQ _ _ _ ⟨cx,Ext.refl _ _,hs,hd,rfl,hf⟩
 | @qX ops i l o v fr fr' s s1 s' e ho _ _ mM uS =>
   intro cx w a Q hs hf hd hQ;refine Ln ho (mM cx w a _ _ hs (λx _=>bQ hs hf x) (M4 (c:=cx) (w:=w) (λ_ _ _ _ _=>⟨fr,hf,rfl⟩)) ?_);intro u w' c' hx hs' hu;exact uS c' w' (a.put o.dst u) Q hs' (N1 (hf.mono hx) hu) (by cases o.dst<;>exact hd) (λe2 a2 w2 h2=>hQ e2 a2 w2 (h2.ext hx))
 | @adU ops i l o v fr s s1 ho _ mM =>
   intro cx w a Q hs hf hd hQ;refine Ln ho (mM cx w a _ _ hs (λx _=>bQ hs hf x) (M4 (c:=cx) (w:=w) (λ_ _ _ _ _=>⟨fr,hf,rfl⟩)) ?_);intro u w' c' hx hs' hu;exact hQ _ _ _ ⟨c',hx,hs',hd,u,rfl,hu⟩
 | @No ops o fr s s' v hw h =>
   intro cx w a K Q hs Is hwa hK;unfold L6;rw[<- hwa,hw];simp only[if_true];obtain⟨u,w',c',hr,hx,hs',hu⟩:=aB hs Is (λ_=>rfl) h;unfold Oper.wp;rcases hr with hr | ⟨hr,rfl⟩
   rw[hr];exact hK u w' c' hx hs' hu;rw[hr];exact hK undef w' c' hx hs' hu
 | @adS ops o fr s s' cl x y t tx a b v hw ho H8 hxs DN ha hb h =>
   intro cx w ac K Q hs Is hwa hK;unfold L6;rw[<- hwa,hw];simp only[if_true];have e1:cl.args=#[x,y]:=by apply Array.ext';rw[hxs]
   have e2:cl.argTypes=#[t,tx]:=by apply Array.ext';rw[DN]
   have fT:∀z∈[x,y],z∈o.op.operands:=λz hz=>by rw[ho];simp only[Op.operands,Call.operands,e1,Array.mem_append];exact .inr (by simpa using hz)
   obtain⟨u,w',c',hr,hx,hs',hu⟩:=h cx w _ _ o.type hs (Is x (fT x (by simp)) a ha) (Is y (fT y (by simp)) b hb);unfold Oper.wp
   have hr2:(execOp ac.eval o).run P w=.ok (.value u) w':=by
     simp[execOp,ho,resolve,H8,e1,e2,invoke,builtin,hr]
   rw[hr2];exact hK u w' c' hx hs' hu
 | @nF ops o fr s hw =>
   intro cx w a K Q hs Is hwa hK;unfold L6;rw[<- hwa,hw];simp only[Bool.false_eq_true,if_false];exact hK undef w cx (Ext.refl _ _) hs (.sc rfl)
 | @Rh ops o fr s s' f args r hw h _ ih =>
   intro cx w a K Q hs Is hwa hK;unfold L6;rw[<- hwa,hw];simp only[if_true];obtain⟨vs,hr,Gh⟩:=aB hs Is (λ_=>rfl) h;unfold Oper.wp;rw[hr];refine(ih cx w vs hs Gh).mono ?_;rintro e w' ⟨c',hx,hs',h4⟩;cases r with
   | ret v=>obtain⟨u,rfl,hu⟩:=h4;exact hK u w' c' hx hs' hu
   | pan v=>obtain⟨u,rfl,hu⟩:=h4;exact hK u w' c' hx hs' hu
 | @arO ops o fr s v hw h =>
   intro cx w a K Q hs Is hwa hK;unfold L6;rw[<- hwa,hw];simp only[if_true];obtain⟨u,hr,hu⟩:=aB hs Is (λ_=>rfl) h;unfold Oper.wp;rw[hr];exact hK u w cx (Ext.refl _ _) hs hu
 | @draw id ops f0 s0 rs vals Mr h0 G9 hl hq ha ihl =>
   intro cx w a Q hs hf hd hQ;refine wp_region_any hg.mixed ?_;obtain⟨x,st⟩:=hs.same (eK w);obtain⟨c2,x2,Ty,Ra⟩:=st.holds rs;rw[<- h0] at Ty;rw[hs.len] at ha;refine zT (nh:=rs.length) G9 ihl hq cx w ha Q hQ ops.size _ a _ ⟨by simp,?_,⟨c2,0,Nat.zero_le _,?_,x.trans x2,Ty,?_,?_⟩,hd⟩ ?_;intro i o ho hL;exfalso;simp only[Array.getD_eq_getD_getElem?,Array.getElem?_replicate] at hL;split at hL<;>simp at hL
   intro l _;simp only[Array.getD_eq_getD_getElem?,Array.getElem?_replicate];split<;>simp
   · have:H9 f0 (Cf ops) vals (λj=>(Array.replicate ops.size false).getD j false) ops.size=f0:=by
       have key:∀n,H9 f0 (Cf ops) vals (λj=>(Array.replicate ops.size false).getD j false) n=f0:=by
         intro n
         induction n with
         | zero=>rfl
         | succ n ih =>
           simp only[H9,ih];rw[if_neg];simp only[Array.getD_eq_getD_getElem?,Array.getElem?_replicate];split<;>simp
       exact key _
     rw[this];exact hf.mono (x.trans x2)
   intro j y _ _ _ hj;rw[Ra,List.getElem?_append_right (by omega)];simp[List.getElem?_replicate];omega
   · have key:∀n,eQ (λj=>(Array.replicate ops.size false).getD j false) n=n:=by
       intro n
       induction n with
       | zero=>rfl
       | succ n ih =>
         simp only[eQ,ih]
         have:(Array.replicate ops.size false).getD n false=false:=by
           simp only[Array.getD_eq_getD_getElem?,Array.getElem?_replicate];split<;>simp
         simp only[this];simp
     exact key _
 | @body f fn c args fr' s s' s2 e v hf hb _ he hr hk ih =>
   intro cx w vs hs Gh;have hl:=Gh.len;refine calls_of_wp hf hb (ih cx w _ _ hs ?_ rfl ?_);simp only[Array.toList_append,Array.toList_replicate];rw[List.size_toArray,hl];exact Gh.append (Cz.replicate (.sc rfl) _);rintro e' a' w' ⟨c',hx,hs',QH,h4⟩
   have dK:St G c' w' s2:=by
     rcases hk with rfl | rfl
     exact hs'.cut _;exact hs'
   rcases he with rfl | rfl
   obtain⟨rfl,h5⟩:=h4;obtain⟨u,h6,h7⟩:=QV hs' h5 hr;exact⟨QH,u,h6,c',hx,dK,u,rfl,h7⟩;obtain⟨rfl,h5⟩:=h4;obtain⟨u,h6,h7⟩:=QV hs' h5 hr;exact⟨QH,u,h6,c',hx,dK,u,rfl,h7⟩
 | @aqK f fn c args fr' s s' v hf hb _ ih =>
   intro cx w vs hs Gh;have hl:=Gh.len;refine calls_of_wp hf hb (ih cx w _ _ hs ?_ rfl ?_);simp only[Array.toList_append,Array.toList_replicate];rw[List.size_toArray,hl];exact Gh.append (Cz.replicate (.sc rfl) _);rintro e' a' w' ⟨c',hx,hs',QH,u,rfl,h5⟩;exact⟨QH,c',hx,hs'.cut _,u,rfl,h5⟩
 | ext h=>exact hg.ext _ _ _ _ _ h
 | auN hh _ hk ih=>exact hg.auN _ _ _ _ _ hh _ _ _ _ ih hk
end AI
namespace AI
open Go Go.RowKit
def aiY:Value->Value->Bool
 | .int k a,.int k' b=>k == k'&&a == b
 | .bool a,.bool b=>a == b
 | .string a,.string b=>a.data.toList == b.data.toList
 | .nilIface,.nilIface=>true
 | .nilFunc,.nilFunc=>true
 | .pointer none,.pointer none=>true
 | .map none,.map none=>true
 | .tuple a,.tuple b=>a.size == 0&&b.size == 0
 | _,_=>false
def oR{a b:Value}(h:aiY a b=true):a=b:=by
 unfold aiY at h;split at h;simp at h;rw[h.1,h.2];simp at h;rw[h];simp only[beq_iff_eq] at h;rename_i x y;have:x=y:=ByteArray.ext (Array.ext' h);rw[this];rfl;rfl;rfl;rfl;rename_i x y;simp at h;rw[h.1,h.2];cases h
mutual
def SJ:AV->AV->Bool
 | .sc a,.sc b=>aiY a b
 | .agg a,.agg b=>WZ a b
 | .Df a,.Df b=>WZ a b
 | .sl o n a,.sl p m b=>decide (o=p)&&n == m&&WZ a b
 | .msl a b c,.msl x y z=>a == x&&b == y&&c == z
 | .el a,.el b=>WZ a b
 | .ptr a b,.ptr x y=>a == x&&b == y
 | .fn f a b,.fn g x y=>decide (f=g)&&WZ a x&&WZ b y
 | .ifc t a,.ifc u b=>t == u&&SJ a b
 | .mp a,.mp b=>a == b
 | _,_=>false
def WZ:List AV->List AV->Bool
 | [],[]=>true
 | a::as,b::bs=>SJ a b&&WZ as bs
 | _,_=>false
end
mutual
def oQ:∀{a b:AV},SJ a b=true->a=b
 | .sc a,b,h=>by cases b<;>simp[SJ] at h;rw[oR h]
 | .agg a,b,h=>by cases b<;>simp[SJ] at h;rw[N2 h]
 | .Df a,b,h=>by cases b<;>simp[SJ] at h;rw[N2 h]
 | .sl o n a,b,h=>by cases b<;>simp[SJ] at h;rw[h.1.1,h.1.2,N2 h.2]
 | .msl _ _ _,b,h=>by cases b<;>simp[SJ] at h;rw[h.1.1,h.1.2,h.2]
 | .el a,b,h=>by cases b<;>simp[SJ] at h;rw[N2 h]
 | .ptr _ _,b,h=>by cases b<;>simp[SJ] at h;rw[h.1,h.2]
 | .fn f a c,b,h=>by cases b<;>simp[SJ] at h;rw[h.1.1,N2 h.1.2,N2 h.2]
 | .ifc t a,b,h=>by cases b<;>simp[SJ] at h;rw[h.1,oQ h.2]
 | .mp _,b,h=>by cases b<;>simp[SJ] at h;rw[h]
 | .any,b,h=>by cases b<;>simp[SJ] at h
def N2:∀{a b:List AV},WZ a b=true->a=b
 | [],b,h=>by cases b<;>simp[WZ] at h;rfl
 | a::as,b,h=>by cases b<;>simp[WZ] at h;rw[oQ h.1,N2 h.2]
end
def reads:Op->Bool
 | .load .. | .lookup ..=>true
 | .call cl=>(match cl.callee with
   | .builtin .len=>true
   | _=>false)
 | _=>false
def U5{P:Program}{G:A6}{fr:List AV}{s:AS}{o:Oper}{r:AR}(hq:quiet o.op=true)(h:Pz P G fr s o=some r):∃v,r=.val v s:=by
 unfold Pz at h;split at h<;>rename_i ho<;>(try (rw[ho] at hq;simp[quiet] at hq;done))
 all_goals first
   | (obtain⟨v,_,rfl⟩:=map_some h;exact⟨_,rfl⟩)
   | (split at h
      all_goals first
        | (obtain⟨v,_,rfl⟩:=map_some h;exact⟨_,rfl⟩)
        | (cases h;done)
        | (cases h;exact⟨_,rfl⟩)
        | (split at h
           all_goals first
             | (cases h;done)
             | (cases h;exact⟨_,rfl⟩)))
   | (obtain⟨_,_,h2⟩:=bind_some h;obtain⟨v,_,rfl⟩:=map_some h2;exact⟨_,rfl⟩)
   | (rw[ho] at hq
      unfold Se at h;split at h
      all_goals first
        | (obtain⟨_,_,h2⟩:=bind_some h;obtain⟨v,_,rfl⟩:=map_some h2;exact⟨_,rfl⟩)
        | (rename_i H8;simp[quiet,H8] at hq;done)
        | (split at h
           all_goals first
             | (obtain⟨v,_,rfl⟩:=map_some h;exact⟨_,rfl⟩)
             | (cases h;done))
        | (cases h;done))
   | (cases h;done)
def Ta{P:Program}{G:A6}{fr:List AV}{s:AS}{o:Oper}{v:AV}{s':AS}(hq:quiet o.op=true)(hr:reads o.op=false)(h:Pz P G fr s o=some (.val v s'))(s2:AS):Pz P G fr s2 o=some (.val v s2):=by
 have e:=U5 hq h;obtain⟨v',e⟩:=e;injection e with e1 e2
 subst e1 e2;obtain⟨dst,op,ty,pos,after,guard⟩:=o;cases op<;>simp only[quiet,reads,Bool.false_eq_true] at hq hr<;>simp only[Pz] at h ⊢
 all_goals first
   | (obtain⟨v',h1,h2⟩:=map_some h;injection h2 with h2;subst h2;rw[h1];rfl)
   | (obtain⟨q,h0,h2⟩:=bind_some h;obtain⟨v',h1,h3⟩:=map_some h2;injection h3 with h3;subst h3;rw[h0,Option.bind_some,h1];rfl)
   | (split at h
      all_goals first
        | (obtain⟨v',h1,h2⟩:=map_some h;injection h2 with h2;subst h2;simp only[*,Option.map_some];done)
        | (cases h;done)
        | (cases h;simp only[*];done)
        | (split at h
           all_goals first
             | (cases h;done)
             | (cases h;simp[*];done)))
   | (cases hr;done)
   | (rename_i cl
      unfold Se at h ⊢;split at h
      all_goals first
        | (rename_i H8;simp[H8] at hr;done)
        | (rename_i H8;simp[H8] at hq;done)
        | (simp only;obtain⟨q,h0,h2⟩:=bind_some h;obtain⟨v',h1,h3⟩:=map_some h2;injection h3 with h3;subst h3;rw[h0,Option.bind_some,h1];rfl)
        | (cases h;done))
end AI
namespace AI
open Go Go.RowKit
inductive Tk where
 | code (c:Code) (fr:List AV) (s:AS)
 | loop (c:Code) (fr:List AV) (s:AS)
 | ops (ops:Array Oper) (l:List Oper) (fr:List AV) (s:AS)
 | draw (ops:Array Oper) (l:List Oper) (fr:List AV) (s:AS) (q:Nat)
 | op (ops:Array Oper) (o:Oper) (fr:List AV) (s:AS)
 | call (f:FuncId) (args:List AV) (s:AS)
inductive Rs where
 | code (e:AX) (fr:List AV) (s:AS)
 | call (r:CR) (s:AS)
 | tr (l:List (List AV×AS×AV)) (fr:List AV) (s:AS)
abbrev aqF:=FuncId->List AV->AS->Option (CR×AS)
def MC:List Oper->Nat->List Nat
 | [],_=>[]
 | o::os,i=>if calm o.op then MC os (i+1) else i::MC os (i+1)
def ahB(ms:List Nat)(ls:List Nat)(i k:Nat):Bool:=ls.all λl=>(!RA ms i l||decide (l < k))&&(!RA ms l i||decide (k<=l))
def rN(P:Program)(G:A6)(ms ls:List Nat)(i:Nat)(o:Oper)(fr:List AV)(v:AV):List AS->Nat->Bool
 | [],_=>true
 | s::ss,k=>(!ahB ms ls i k||(match Pz P G fr s o with
     | some (.val u _)=>SJ u v
     | _=>false))&&rN P G ms ls i o fr v ss (k+1)
def rR(P:Program)(G:A6)(ops:Array Oper)(ms ls:List Nat)(Mr:List AS):List Oper->List (List AV×AS×AV)->Nat->Bool
 | o::os,t::ts,i=>(!(quiet o.op&&reads o.op)||!Cs ops t.1 o||rN P G ms ls i o t.1 t.2.2 Mr 0)&&rR P G ops ms ls Mr os ts (i+1)
 | _,_,_=>true
def W1(ms ls:List Nat)(i id:Nat)(cs:List AV):List AS->Nat->Bool
 | [],_=>true
 | s::ss,k=>(!ahB ms ls i k||(match s.get id with
     | some (.cells ds)=>WZ ds cs
     | _=>false))&&W1 ms ls i id cs ss (k+1)
def SH(P:Program)(ops:Array Oper)(ms ls:List Nat)(Mr:List AS):List Oper->List (List AV×AS×AV)->Nat->Nat->Bool
 | o::os,t::ts,i,q=>(match o.op with
   | .alloc e=>(!Cs ops t.1 o||(match LJ P e with
     | some z=>W1 ms ls i q (cellsOf z) Mr 0
     | none=>false))&&SH P ops ms ls Mr os ts (i+1) (q+1)
   | _=>SH P ops ms ls Mr os ts (i+1) q)
 | _,_,_,_=>true
def rsv(P:Program):List Oper->Option (List AL)
 | []=>some []
 | o::l=>(match o.op with
   | .alloc e=>(match LJ P e,rsv P l with
     | some z,some r=>some (.cells (cellsOf z)::r)
     | _,_=>none)
   | _=>rsv P l)
def anR(P:Program)(G:A6)(ops:Array Oper)(tr:List (List AV×AS×AV))(sf:AS):Bool :=
 match MC ops.toList 0 with
 | []=>true
 | ls=>rR P G ops (Hs ops.toList []) ls (tr.map (·.2.1)++[sf]) ops.toList tr 0
def Wv(P:Program)(ops:Array Oper)(tr:List (List AV×AS×AV))(sf:AS)(q:Nat):List AL->Bool
 | []=>true
 | _=>SH P ops (Hs ops.toList []) (MC ops.toList 0) (tr.map (·.2.1)++[sf]) ops.toList tr 0 q
def axQ(P:Program)(G:A6)(ops:Array Oper)(tr:List (List AV×AS×AV))(sf:AS)(q:Nat)(r:List AL):Bool :=
 match anR P G ops tr sf with
 | true=>Wv P ops tr sf q r
 | false=>false
def azJ:AV->Bool
 | .ptr _ _ | .msl _ _ _ | .mp _ | .fn _ _ _=>true
 | _=>false
def atK:List AV->Bool
 | []=>false
 | a::l=>match azJ a with
   | true=>true
   | false=>atK l
def esc:AV->Bool
 | .agg l=>atK l
 | .Df l=>atK l
 | a=>azJ a
def fin(v:AV)(s:AS)(n:Nat):AS:=match esc v with
 | true=>s
 | false=>s.cut n
def Ow(ops:Array Oper)(fr:List AV)(o:Oper)(q:Nat):AV:=match Cs ops fr o with
 | true=>.ptr q 0
 | false=>.sc undef
inductive RT(P:Program)(G:A6)(X:VO)(H:SD)(ops:Array Oper):Nat->List Oper->List AV->AS->List (List AV×AS×AV)->List AV->AS->Prop where
 | nil {q:Nat} {fr:List AV} {s:AS}:RT P G X H ops q [] fr s [] fr s
 | cons {q:Nat} {o:Oper} {l:List Oper} {fr fr':List AV} {s s1 s':AS} {v:AV} {t:List (List AV×AS×AV)} (ha:BX o.op=false) (h:J P G X H (.op ops o fr s (.ret v) s1)) (k:RT P G X H ops q l (Ij fr o.dst v) s1 t fr' s'):RT P G X H ops q (o::l) fr s ((fr,s,v)::t) fr' s'
 | alloc {q:Nat} {o:Oper} {l:List Oper} {fr fr':List AV} {s s':AS} {t:List (List AV×AS×AV)} (ha:BX o.op=true) (k:RT P G X H ops (q+1) l (Ij fr o.dst (Ow ops fr o q)) s t fr' s'):RT P G X H ops q (o::l) fr s ((fr,s,Ow ops fr o q)::t) fr' s'
section
variable {P:Program} {G:A6} {X:VO} {H:SD} {ops:Array Oper}
def RT.len{q:Nat}{l:List Oper}{fr fr':List AV}{s s':AS}{t:List (List AV×AS×AV)}(h:RT P G X H ops q l fr s t fr' s'):t.length=l.length:=by
 induction h with
 | nil=>rfl
 | cons _ _ _ ih=>simp[ih]
 | alloc _ _ ih=>simp[ih]
def Fv(t:List (List AV×AS×AV))(sf:AS)(i:Nat):AS:=match t[i]? with
 | some x=>x.2.1
 | none=>sf
def JX(t:List (List AV×AS×AV))(i:Nat):AV:=match t[i]? with
 | some x=>x.2.2
 | none=>.sc undef
def RT.at{q:Nat}{l:List Oper}{fr fr':List AV}{s s':AS}{t:List (List AV×AS×AV)}(h:RT P G X H ops q l fr s t fr' s'):Fv t s' 0=s/\∀i o,l[i]?=some o->∃fi,t[i]?=some (fi,Fv t s' i,JX t i) /\
   ((BX o.op=false/\J P G X H (.op ops o fi (Fv t s' i) (.ret (JX t i)) (Fv t s' (i+1))))\/(BX o.op=true/\Fv t s' (i+1)=Fv t s' i/\JX t i=Ow ops fi o (q+kT l i))):=by
 induction h with
 | nil=>exact⟨rfl,λi o ho=>by simp at ho⟩
 | @cons q o l fr fr' s s1 s' v t ha h k ih =>
   refine⟨rfl,λi o' ho=>?_⟩;cases i with
   | zero =>
     simp at ho;subst ho;refine⟨fr,rfl,.inl ⟨ha,?_⟩⟩
     have:Fv ((fr,s,v)::t) s' 1=s1:=by
       have:=ih.1;unfold Fv at this ⊢;simpa using this
     rw[this];exact h
   | succ i =>
     obtain⟨fi,h1,h2⟩:=ih.2 i o' (by simpa using ho)
     refine⟨fi,?_,?_⟩;have:((fr,s,v)::t)[i+1]?=t[i]?:=by simp
     rw[this,h1];simp[Fv,JX];simp only[kT,ha,Nat.zero_add];simpa[Fv,JX] using h2
 | @alloc q o l fr fr' s s' t ha k ih =>
   refine⟨rfl,λi o' ho=>?_⟩;cases i with
   | zero =>
     simp at ho;subst ho;refine⟨fr,rfl,.inr ⟨ha,?_,?_⟩⟩;have:=ih.1;unfold Fv at this ⊢;simpa using this
     simp[JX,kT]
   | succ i =>
     obtain⟨fi,h1,h2⟩:=ih.2 i o' (by simpa using ho)
     refine⟨fi,?_,?_⟩;have:((fr,s,Ow ops fr o q)::t)[i+1]?=t[i]?:=by simp
     rw[this,h1];simp[Fv,JX];simp only[kT,ha];rw[<- Nat.add_assoc];simpa[Fv,JX] using h2
def RT.aQ{q:Nat}{l:List Oper}{fr fr':List AV}{s s':AS}{t:List (List AV×AS×AV)}(h:RT P G X H ops q l fr s t fr' s')(dst:Nat->Option Tmp)(vals:Nat->AV)(f0:List AV)(k:Nat)(hfr:fr=H9 f0 dst vals (λ_=>true) k)(hd:∀i o,l[i]?=some o->dst (k+i)=o.dst)(hv:∀i,vals (k+i)=JX t i\/l.length<=i) :
   fr'=H9 f0 dst vals (λ_=>true) (k+l.length)/\∀i x,t[i]?=some x->x.1=H9 f0 dst vals (λ_=>true) (k+i):=by
 have key:∀{q:Nat} {o:Oper} {l:List Oper} {fr fr':List AV} {s:AS} {v:AV} {t:List (List AV×AS×AV)}
     (_:∀(k:Nat),Ij fr o.dst v=H9 f0 dst vals (λ_=>true) k->(∀i o,l[i]?=some o->dst (k+i)=o.dst)->(∀i,vals (k+i)=JX t i\/l.length<=i)->fr'=H9 f0 dst vals (λ_=>true) (k+l.length)/\∀i x,t[i]?=some x->x.1=H9 f0 dst vals (λ_=>true) (k+i))
     (k:Nat),fr=H9 f0 dst vals (λ_=>true) k->(∀i o',(o::l)[i]?=some o'->dst (k+i)=o'.dst)->(∀i,vals (k+i)=JX ((fr,s,v)::t) i\/(o::l).length<=i) ->
     fr'=H9 f0 dst vals (λ_=>true) (k+(o::l).length)/\∀i x,((fr,s,v)::t)[i]?=some x->x.1=H9 f0 dst vals (λ_=>true) (k+i):=by
   intro q o l fr fr' s v t ih k hfr hd hv;have hd0:=hd 0 o rfl
   have hv0:vals k=v:=by
     rcases hv 0 with h0 | h0
     simpa[JX] using h0
     simp at h0
   have:=ih (k+1) (by simp only[H9,if_true];rw[hfr,<- hd0,hv0];rfl) (λi o' Vs=>by have:=hd (i+1) o' (by simpa using Vs);rwa[show k+1+i=k+(i+1) from by omega]) (λi=>by
     rcases hv (i+1) with h1 | h1
     left;rw[show k+1+i=k+(i+1) from by omega,h1];simp[JX];right;simp at h1;omega)
   refine⟨by rw[this.1];congr 1;simp;omega,λi x hx=>?_⟩;cases i with
   | zero=>simp at hx;subst hx;exact hfr
   | succ i =>
     have h2:=this.2 i x (by simpa using hx)
     rw[h2];congr 1;omega
 induction h generalizing k with
 | nil=>exact⟨hfr,λi x hx=>by simp at hx⟩
 | @cons q o l fr fr' s s1 s' v t ha h _ ih=>exact key (q:=q) (λk h1 h2 h3=>ih k h1 h2 h3) k hfr hd hv
 | @alloc q o l fr fr' s s' t ha _ ih=>exact key (q:=q) (λk h1 h2 h3=>ih k h1 h2 h3) k hfr hd hv
def apZ{i k:Nat}{ls:List Nat}(hls:∀l,l∈ls->XL ops l)(h:Win ops i k):ahB (Hs ops.toList []) ls i k=true:=by
 unfold ahB;rw[List.all_eq_true];intro l hl;have h1:=h.1 l (hls l hl);have h2:=h.2 l (hls l hl);cases hd1:RA (Hs ops.toList []) i l<;>cases hd2:RA (Hs ops.toList []) l i<;>simp_all
def bL{os:List Oper}{i l:Nat}(h:l∈MC os i):∃j o,l=i+j/\os[j]?=some o/\calm o.op=false:=by
 induction os generalizing i with
 | nil=>simp[MC] at h
 | cons x os ih =>
   simp only[MC] at h;split at h;obtain⟨j,o,h1,h2,h3⟩:=ih h;exact⟨j+1,o,by omega,by simpa using h2,h3⟩
   rename_i hq;rcases List.mem_cons.1 h with h | h
   exact⟨0,x,by omega,rfl,by simpa using hq⟩
   obtain⟨j,o,h1,h2,h3⟩:=ih h;exact⟨j+1,o,by omega,by simpa using h2,h3⟩
def Jz{o:Oper}{fr:List AV}{s s':AS}{v:AV}(hq:quiet o.op=true)(h:J P G X H (.op ops o fr s (.ret v) s')):s'=s/\((Cs ops fr o=false/\v=.sc undef)\/(Cs ops fr o=true/\Pz P G fr s o=some (.val v s))):=by
 cases h with
 | No hw h =>
   obtain⟨v',e⟩:=U5 hq h;injection e with e1 e2
   subst e2;exact⟨rfl,.inr ⟨hw,h⟩⟩
 | nF hw=>exact⟨rfl,.inl ⟨hw,rfl⟩⟩
 | Rh hw h hc =>
   obtain⟨v',e⟩:=U5 hq h;cases e
 | nG YD=>rw[hq] at YD;cases YD
 | bP YD=>rw[hq] at YD;cases YD
 | adS _ ho H8=>simp[quiet,ho,H8] at hq
def tS{ms ls:List Nat}{i id:Nat}{cs:List AV}{ss:List AS}{k0:Nat}(h:W1 ms ls i id cs ss k0=true){k:Nat}{s:AS}(hs:ss[k]?=some s)(hw:ahB ms ls i (k0+k)=true):s.get id=some (.cells cs):=by
 induction ss generalizing k0 k with
 | nil=>simp at hs
 | cons x ss ih =>
   simp only[W1,Bool.and_eq_true] at h;cases k with
   | zero =>
     simp at hs;subst hs;rw[Nat.add_zero] at hw;have h1:=h.1;rw[hw] at h1;simp only[Bool.not_true,Bool.false_or] at h1;split at h1;rename_i ds hu;rw[hu,N2 h1];cases h1
   | succ k=>exact ih h.2 (by simpa using hs) (by rwa[show k0+1+k=k0+(k+1) from by omega])
def tG{ms ls:List Nat}{Mr:List AS}{os:List Oper}{ts:List (List AV×AS×AV)}{i0 q:Nat}(h:SH P ops ms ls Mr os ts i0 q=true){i:Nat}{o:Oper}{e:TypeId}{x:List AV×AS×AV}(ho:os[i]?=some o)(hx:ts[i]?=some x)(he:o.op=.alloc e)(hw:Cs ops x.1 o=true):∃z,LJ P e=some z/\W1 ms ls (i0+i) (q+kT os i) (cellsOf z) Mr 0=true:=by
 induction os generalizing ts i0 i q with
 | nil=>simp at ho
 | cons y os ih =>
   cases ts with
   | nil=>simp at hx
   | cons t ts =>
     cases i with
     | zero =>
       simp at ho hx;subst ho hx;simp only[SH,he,hw,Bool.not_true,Bool.false_or,Bool.and_eq_true] at h;have h1:=h.1;split at h1;rename_i z hz;exact⟨z,hz,h1⟩;cases h1
     | succ i =>
       simp only[SH] at h;split at h;rename_i e' he';rw[Bool.and_eq_true] at h;have:=ih h.2 (by simpa using ho) (by simpa using hx)
       simp only[kT,he',BX];rwa[show i0+1+i=i0+(i+1) from by omega,Nat.add_assoc q] at this;rename_i hne;have:=ih h (by simpa using ho) (by simpa using hx)
       have kM:BX y.op=false:=by
         cases bB:BX y.op with
         | false=>rfl
         | true=>obtain⟨e',he'⟩:=Kb bB;exact absurd he' (hne e')
       simp only[kT,kM,Nat.zero_add];rwa[show i0+1+i=i0+(i+1) from by omega] at this
def anG{l:List Oper}{r:List AL}(h:rsv P l=some r):r.length=kT l l.length:=by
 induction l generalizing r with
 | nil=>simp[rsv] at h;subst h;rfl
 | cons o l ih =>
   simp only[rsv] at h;split at h;rename_i e he;split at h;rename_i z r' hz hr;cases h;simp only[List.length_cons,kT,he,BX,ih hr];omega;cases h;rename_i hne
   have kM:BX o.op=false:=by
     cases bB:BX o.op with
     | false=>rfl
     | true=>obtain⟨e',he'⟩:=Kb bB;exact absurd he' (hne e')
   simp only[List.length_cons,kT,kM,ih h];omega
def Qm{o:Oper}{e:TypeId}(h:o.op=.alloc e):quiet o.op=false:=by rw[h];rfl
end
end AI
namespace AI
open Go Go.RowKit
def inI:Int->Bool
 | .ofNat m=>Nat.ble m 9223372036854775807
 | .negSucc m=>Nat.ble m 9223372036854775807
def Ms(k:IntKind)(n:Int):Int:=match k with
 | .i64=>(match inI n with | true=>n | false=>IntKind.i64.wrap n)
 | k=>k.wrap n
def avN{n:Int}(h:inI n=true):IntKind.i64.wrap n=n:=by
 refine IntWalk.i64_in n ?_;cases n with
 | ofNat m =>
   have:=Nat.le_of_ble_eq_true h;have e:Int.ofNat m=(m:Int):=rfl;rw[e];have h2:(m:Int)<=9223372036854775807:=Int.ofNat_le.2 this;have h3:(0:Int)<=m:=Int.natCast_nonneg m;omega
 | negSucc m =>
   have:=Nat.le_of_ble_eq_true h;rw[Int.negSucc_eq];constructor;have e:(-9223372036854775808:Int)=-(9223372036854775807+1):=rfl;rw[e];have h2:(m:Int)<=9223372036854775807:=Int.ofNat_le.2 this;omega;have h2:(0:Int)<=m:=Int.natCast_nonneg m;omega
def Uw(k:IntKind)(n:Int):Ms k n=k.wrap n:=by
 cases k<;>try rfl
 simp only[Ms];cases h:inI n with
 | true=>exact(avN h).symm
 | false=>rfl
def xY:Int->Int->Int
 | .ofNat a,.ofNat b=>.ofNat (Nat.add a b)
 | a,b=>a+b
def Z8(a b:Int):xY a b=a+b:=by cases a<;>cases b<;>rfl
def aCC(a b:Nat):Int:=match Nat.ble b a with
 | true=>.ofNat (Nat.sub a b)
 | false=>(a:Int) - (b:Int)
def cP:Int->Int->Int
 | .ofNat a,.ofNat b=>aCC a b
 | a,b=>a - b
def cQ(a b:Int):cP a b=a - b:=by
 cases a<;>cases b<;>try rfl
 rename_i a b;simp only[cP,aCC];cases h:Nat.ble b a with
 | true =>
   have:=Nat.le_of_ble_eq_true h;show Int.ofNat (a - b)=(a:Int) - (b:Int);exact Int.ofNat_sub this
 | false=>rfl
def DV:Int->Int->Bool
 | .ofNat a,.ofNat b=>Nat.beq a b
 | .negSucc a,.negSucc b=>Nat.beq a b
 | _,_=>false
def Q6(a b:Int):DV a b=(a == b):=by
 cases a<;>cases b<;>simp only[DV]
 rename_i a b;rw[Bool.eq_iff_iff,beq_iff_eq,Int.ofNat.injEq];exact⟨λh=>Nat.eq_of_beq_eq_true h,λh=>by subst h;exact Nat.beq_refl a⟩;rw[Bool.eq_iff_iff,beq_iff_eq];exact⟨λh=>by simp at h,λh=>by cases h⟩;rw[Bool.eq_iff_iff,beq_iff_eq];exact⟨λh=>by simp at h,λh=>by cases h⟩;rename_i a b;rw[Bool.eq_iff_iff,beq_iff_eq,Int.negSucc.injEq];exact⟨λh=>Nat.eq_of_beq_eq_true h,λh=>by subst h;exact Nat.beq_refl a⟩
def SV:Int->Int->Bool
 | .ofNat a,.ofNat b=>Nat.ble a b
 | a,b=>decide (a<=b)
def XG(a b:Int):SV a b=decide (a<=b):=by
 cases a<;>cases b<;>try rfl
 rename_i a b;simp only[SV];rw[Bool.eq_iff_iff,decide_eq_true_iff];show _↔(a:Int)<=(b:Int);rw[Int.ofNat_le];exact⟨Nat.le_of_ble_eq_true,Nat.ble_eq_true_of_le⟩
def EK:Int->Int->Bool
 | .ofNat a,.ofNat b=>Nat.ble (Nat.succ a) b
 | a,b=>decide (a < b)
def Rf(a b:Int):EK a b=decide (a < b):=by
 cases a<;>cases b<;>try rfl
 rename_i a b;simp only[EK];rw[Bool.eq_iff_iff,decide_eq_true_iff];show _↔(a:Int) < (b:Int);rw[Int.ofNat_lt];exact⟨Nat.le_of_ble_eq_true,Nat.ble_eq_true_of_le⟩
def sameKind:IntKind->IntKind->Bool
 | .i64,.i64=>true
 | .u8,.u8=>true
 | _,_=>false
def VK{a b:IntKind}(h:sameKind a b=true):a=b:=by cases a<;>cases b<;>first | rfl | cases h
def akS(k:IntKind)(a b:Int):BinOp->Option Value
 | .add=>some (.int k (Ms k (xY a b)))
 | .sub=>some (.int k (Ms k (cP a b)))
 | .mul=>some (.int k (Ms k (a*b)))
 | .eql=>some (.bool (DV a b))
 | .neq=>some (.bool (!DV a b))
 | .lss=>some (.bool (EK a b))
 | .leq=>some (.bool (SV a b))
 | .gtr=>some (.bool (EK b a))
 | .geq=>some (.bool (SV b a))
 | _=>none
def akT{P:Program}{op:BinOp}{k:IntKind}{a b:Int}{t:TypeId}{xo yo:Operand}{v:Value}(h:akS k a b op=some v):pv P (do eqGuard op t xo yo (.int k a) (.int k b);binOp op t (.int k a) (.int k b))=some v/\scalar v=true:=by
 cases op<;>simp only[akS,Option.some.injEq,reduceCtorEq] at h<;>subst h<;>refine⟨?_,rfl⟩<;>simp[eqGuard,binOp,Op.intArith,Op.intCmp,pv,Uw,Z8,cQ,Q6,Rf,XG,bne,Bind.bind,Sem.bind,Pure.pure]
def BY:List UInt8->List UInt8->Bool
 | [],[]=>true
 | a::l,b::m=>(match Nat.beq a.toNat b.toNat with
   | true=>BY l m
   | false=>false)
 | _,_=>false
def UK(l m:List UInt8):BY l m=(l == m):=by
 induction l generalizing m with
 | nil=>cases m<;>rfl
 | cons a l ih =>
   cases m with
   | nil=>rfl
   | cons b m =>
     simp only[BY];cases h:Nat.beq a.toNat b.toNat with
     | true =>
       have:a=b:=UInt8.toNat_inj.1 (Nat.eq_of_beq_eq_true h);subst this;simp only[ih];simp
     | false =>
       have:a≠b:=λe=>by subst e;have:=Nat.ne_of_beq_eq_false h;exact this rfl
       simp[this]
def axS(x y:ByteArray):BinOp->Option Value
 | .eql=>some (.bool (BY x.data.toList y.data.toList))
 | .neq=>some (.bool (!BY x.data.toList y.data.toList))
 | op=>tL op x y
def anT(x y:ByteArray)(op:BinOp):axS x y op=tL op x y:=by cases op<;>simp only[axS,tL,UK]
def aeO(v:Option Value):Option AV:=match v with
 | some v=>(match scalar v with | true=>some (.sc v) | false=>none)
 | none=>none
def aeP(v:Option Value):aeO v=v.bind YX:=by
 cases v with
 | none=>rfl
 | some v=>simp only[aeO,Option.bind_some,YX];cases scalar v<;>rfl
def scF(P:Program)(op:BinOp)(t:TypeId)(xo yo:Operand)(x y:Value):Option AV :=
 match x with
 | .int k a=>(match y with
   | .int k' b=>(match sameKind k k' with
     | true=>(match akS k a b op with
       | some v=>some (.sc v)
       | none=>L7 P op t xo yo (.sc (.int k a)) (.sc (.int k' b)))
     | false=>L7 P op t xo yo (.sc (.int k a)) (.sc (.int k' b)))
   | y=>L7 P op t xo yo (.sc (.int k a)) (.sc y))
 | .string a=>(match y with
   | .string b=>aeO (axS a b op)
   | y=>L7 P op t xo yo (.sc (.string a)) (.sc y))
 | x=>L7 P op t xo yo (.sc x) (.sc y)
def WK(P:Program)(op:BinOp)(t:TypeId)(xo yo:Operand)(a b:AV):Option AV :=
 match a with
 | .sc x=>(match b with
   | .sc y=>scF P op t xo yo x y
   | b=>L7 P op t xo yo (.sc x) b)
 | a=>L7 P op t xo yo a b
def TG(P:Program)(op:BinOp)(t:TypeId)(xo yo:Operand)(a b:AV):WK P op t xo yo a b=L7 P op t xo yo a b:=by
 unfold WK;cases a with
 | sc x =>
   cases b with
   | sc y =>
     simp only[scF];cases x with
     | int k a =>
       cases y with
       | int k' b =>
         simp only;cases hk:sameKind k k' with
         | false=>rfl
         | true =>
           have:=VK hk;subst this;simp only;cases hf:akS k a b op with
           | none=>rfl
           | some v =>
             obtain⟨h1,h2⟩:=akT (P:=P) (t:=t) (xo:=xo) (yo:=yo) hf;simp[L7,Sd,Ul,h1,YX,h2]
       | _=>rfl
     | string a =>
       cases y with
       | string b=>simp only[aeP,anT];rfl
       | _=>rfl
     | _=>rfl
   | _=>rfl
 | _=>rfl
def adM:List UInt8->Nat->Option UInt8
 | [],_=>none
 | a::_,0=>some a
 | _::l,n+1=>adM l n
def alR(l:List UInt8)(n:Nat):adM l n=l[n]?:=by
 induction l generalizing n with
 | nil=>simp[adM]
 | cons a l ih=>cases n<;>simp[adM,ih]
def azB:Option UInt8->Option AV
 | some b=>some (.sc (.int .u8 (.ofNat b.toNat)))
 | none=>none
def V9(P:Program)(t:TypeId)(x ix:AV):Option AV :=
 match x with
 | .sc (.string s)=>(match P.underlying t with
   | some .string=>(match QC ix with
     | some i=>azB (adM s.data.toList i)
     | none=>none)
   | _=>K9 P t (.sc (.string s)) ix)
 | x=>K9 P t x ix
def kX(P:Program)(t:TypeId)(x ix:AV):V9 P t x ix=K9 P t x ix:=by
 unfold V9;cases x with
 | sc v =>
   cases v with
   | string s =>
     simp only;split
     · rename_i hu
       unfold K9;rw[hu];cases QC ix with
       | none=>rfl
       | some i =>
         simp only[alR];cases s.data.toList[i]?<;>rfl
     rfl
   | _=>rfl
 | _=>rfl
end AI
namespace AI
open Go Go.RowKit
def nth:List AV->Nat->AV
 | [],_=>.sc undef
 | a::_,0=>a
 | _::l,n+1=>nth l n
def awI(l:List AV)(n:Nat):nth l n=l.getD n (.sc undef):=by
 induction l generalizing n with
 | nil=>simp[nth]
 | cons a l ih=>cases n<;>simp[nth,ih]
def evG:Option (List AV)->Option AV
 | some cs=>some (.el cs)
 | none=>none
def AW(G:A6)(fr:List AV):Operand->Option AV
 | .tmp t=>some (nth fr t)
 | .const v=>VD v
 | .global g=>evG (G g)
 | .func f=>some (.fn (.func f) [] [])
def Cn(G:A6)(fr:List AV)(x:Operand):AW G fr x=A8 G fr x:=by
 cases x with
 | tmp t=>simp only[AW,A8,awI]
 | const v=>rfl
 | global g=>simp only[AW,A8];cases G g<;>rfl
 | func f=>rfl
def L5(s:AS):Option AV->Option AR
 | some v=>some (.val v s)
 | none=>none
def RN(s:AS)(o:Option AV):L5 s o=o.map (λv=>.val v s):=by cases o<;>rfl
def jK:Option AS->Option AR
 | some s=>some (.val (.sc undef) s)
 | none=>none
def apD(o:Option AS):jK o=o.map (λs=>.val (.sc undef) s):=by cases o<;>rfl
def wP:Option (AV×AS)->Option AR
 | some r=>some (.val r.1 r.2)
 | none=>none
def sP(o:Option (AV×AS)):wP o=o.map (λr=>.val r.1 r.2):=by cases o<;>rfl
def dD{α β:Type}(o:Option α)(f:α->Option β):Option β:=match o with
 | some a=>f a
 | none=>none
def aG{α β:Type}(o:Option α)(f:α->Option β):dD o f=o.bind f:=by cases o<;>rfl
def two{β:Type}(a b:Option AV)(f:AV->AV->Option β):Option β:=match a with
 | some x=>(match b with
   | some y=>f x y
   | none=>none)
 | none=>none
def three{β:Type}(a b d:Option AV)(f:AV->AV->AV->Option β):Option β:=match a with
 | some x=>(match b with
   | some y=>(match d with
     | some z=>f x y z
     | none=>none)
   | none=>none)
 | none=>none
def arQ(x y:Option AV):Option AV->Option AV
 | some (.sc (.bool t))=>(match t with | true=>x | false=>y)
 | _=>none
def adJ(s:AS):Option AV->Option AR
 | some z=>some (.val (.ptr s.nx 0) (s.new (.cells (cellsOf z))))
 | none=>none
def qQ(s:AS):Option AV->Option AR
 | some z=>(match Rb z with | true=>none | false=>some (.val (.ptr s.nx 0) (s.new (.cells (cellsOf z)))))
 | none=>none
def lG(s:AS):Option AV->Option AR
 | some v=>(match notNil v with | true=>some (.val v s) | false=>none)
 | none=>none
def mL(t:TypeId)(s:AS)(v:Option AV):Option TypeDesc->Option AR
 | some d=>(match v with
   | some v=>(match isIface d with | true=>none | false=>some (.val (.ifc t v) s))
   | none=>none)
 | none=>none
def func1(f:Fn)(s:AS)(b:Option (List AV)):Option (List AV)->Option AR
 | some a=>(match b with
   | some b=>some (.val (.fn f a b) s)
   | none=>none)
 | none=>none
def afC(P:Program)(s:AS)(t:TypeId)(l h m:Option (Option AV)):Option AV->Option AR
 | some a=>(match l with
   | some l=>(match h with
     | some h=>(match m with
       | some m=>L5 s (M1 P t a l h m)
       | none=>none)
     | none=>none)
   | none=>none)
 | none=>none
def aBI:Option AV->Option AR
 | some (.ifc t v)=>some (.pan (.ifc t v))
 | _=>none
def azI(P:Program)(as:Option (List AV)):Option AV->Option AR
 | some (.fn (.func g) first caps)=>(match as with
   | some as=>(match LK P g with | true=>some (.ent g (first++as++caps)) | false=>none)
   | none=>none)
 | _=>none
def aAZ(P:Program)(G:A6)(fr:List AV)(s:AS):List Operand->List TypeId->Option AR
 | [x],[t]=>L5 s (dD (AW G fr x) (VP P s t))
 | _,_=>none
def ayT(P:Program)(G:A6)(fr:List AV)(s:AS):List Operand->List TypeId->Option AR
 | [x,y],[t,tx]=>wP (two (AW G fr x) (AW G fr y) (Ky P s t tx))
 | _,_=>none
def arT(P:Program)(s:AS)(f:List Value->Sem Value):Option (List Value)->Option AR
 | some vs=>L5 s (Vm P (f vs))
 | none=>none
def arU(P:Program)(s:AS)(f:Value->Sem Value):Option Value->Option AR
 | some v=>L5 s (Vm P (f v))
 | none=>none
def QZ(P:Program)(G:A6)(fr:List AV)(s:AS)(o:Oper)(cl:Call):Builtin->Option AR
 | .len=>aAZ P G fr s cl.args.toList cl.argTypes.toList
 | .append=>ayT P G fr s cl.args.toList cl.argTypes.toList
 | .max=>arT P s (λvs=>Builtin.max_ cl.argTypes o.type vs.toArray) (dD (YJ G fr cl.args.toList) Ol)
 | .min=>arT P s (λvs=>Builtin.min_ cl.argTypes o.type vs.toArray) (dD (YJ G fr cl.args.toList) Ol)
 | _=>none
def Z7(P:Program)(G:A6)(fr:List AV)(s:AS)(o:Oper)(cl:Call):Option AR :=
 match cl.callee with
 | .builtin b=>QZ P G fr s o cl b
 | .value f=>azI P (YJ G fr cl.args.toList) (AW G fr f)
 | _=>none
def gJ(s:AS):Option Operand->Option AR
 | none=>some (.val (.mp s.nx) (s.new (.map [] 0)))
 | some _=>none
def TH(P:Program)(G:A6)(fr:List AV)(s:AS)(o:Oper):Option AR :=
 match o.op with
 | .move x=>L5 s (AW G fr x)
 | .assign x=>L5 s (AW G fr x)
 | .pick c a b=>L5 s (arQ (AW G fr a) (AW G fr b) (AW G fr c))
 | .alloc e=>adJ s (LJ P e)
 | .box _ x=>qQ s (AW G fr x)
 | .build t ps=>L5 s (dD (Lt G fr ps.toList) (WM P t))
 | .buildSlice t n ps=>L5 s (dD (Lt G fr ps.toList) (LH P t n))
 | .load t a=>L5 s (dD (AW G fr a) (I4 P s t))
 | .store t a x=>jK (two (AW G fr a) (AW G fr x) (J9 P s t))
 | .nilCheck x=>lG s (AW G fr x)
 | .binOp op t x y _=>L5 s (two (AW G fr x) (AW G fr y) (WK P op t x y))
 | .unOp op _ x=>arU P s (Op.unary op) (dD (AW G fr x) Yf)
 | .convert src dst x=>L5 s (dD (AW G fr x) (Vl P src dst))
 | .makeInterface t x=>mL t s (AW G fr x) (P.underlying t)
 | .makeFunc f first caps=>func1 f s (YJ G fr caps.toList) (YJ G fr first.toList)
 | .makeMap _ r=>gJ s r
 | .makeSlice t l c=>wP (two (AW G fr l) (AW G fr c) (I5 P s t))
 | .slice t x lo hi mx=>afC P s t (dG G fr lo) (dG G fr hi) (dG G fr mx) (AW G fr x)
 | .fieldAddr t x k=>L5 s (dD (AW G fr x) λa=>QR P t a k)
 | .field t x k=>L5 s (dD (AW G fr x) λa=>WQ P t a k)
 | .indexAddr t x i=>L5 s (two (AW G fr x) (AW G fr i) (C7 P t))
 | .index t x i=>L5 s (two (AW G fr x) (AW G fr i) (V9 P t))
 | .lookup t x k ok=>L5 s (two (AW G fr x) (AW G fr k) λa b=>IK P s t a b ok)
 | .mapUpdate t m k x=>jK (three (AW G fr m) (AW G fr k) (AW G fr x) (JZ P s t))
 | .insert t m k x=>jK (three (AW G fr m) (AW G fr k) (AW G fr x) (JZ P s t))
 | .mapEntry t m k=>wP (two (AW G fr m) (AW G fr k) (OX P s t))
 | .entryStore _ m st x=>jK (three (AW G fr m) (AW G fr st) (AW G fr x) (LI s))
 | .extract x k=>L5 s (dD (AW G fr x) λa=>QQ a k)
 | .call cl=>Z7 P G fr s o cl
 | .panic x=>aBI (AW G fr x)
 | _=>none
def tD(P:Program)(G:A6)(fr:List AV)(s:AS)(o:Oper)(cl:Call):Z7 P G fr s o cl=Se P G fr s o cl:=by
 unfold Z7 Se;cases hc:cl.callee with
 | value f =>
   simp only[Cn];cases A8 G fr f with
   | none=>rfl
   | some v =>
     cases v with
     | fn g a b =>
       cases g with
       | func g =>
         cases YJ G fr cl.args.toList with
         | none=>rfl
         | some as =>
           simp only[azI];cases LK P g<;>rfl
       | _=>rfl
     | _=>rfl
 | invoke r m=>rfl
 | builtin b =>
   cases b<;>try rfl
   · simp only[QZ]
     cases hx:cl.args.toList with
     | nil=>rfl
     | cons x xs =>
       cases xs with
       | nil=>rfl
       | cons y ys =>
         cases ys with
         | cons z zs=>rfl
         | nil =>
           cases ht:cl.argTypes.toList with
           | nil=>rfl
           | cons t ts =>
             cases ts with
             | nil=>rfl
             | cons u us =>
               cases us with
               | cons v vs=>rfl
               | nil =>
                 simp only[ayT,Cn];cases A8 G fr x<;>cases A8 G fr y<;>first | rfl | exact sP _
   · simp only[QZ]
     cases hx:cl.args.toList with
     | nil=>rfl
     | cons x xs =>
       cases xs with
       | cons y ys=>rfl
       | nil =>
         cases ht:cl.argTypes.toList with
         | nil=>rfl
         | cons t ts =>
           cases ts with
           | cons u us=>rfl
           | nil=>simp only[aAZ,Cn,aG];exact RN _ _
   simp only[QZ,aG];cases (YJ G fr cl.args.toList).bind Ol with
   | none=>rfl
   | some vs=>exact RN _ _
   simp only[QZ,aG];cases (YJ G fr cl.args.toList).bind Ol with
   | none=>rfl
   | some vs=>exact RN _ _
def Mx(P:Program)(G:A6)(fr:List AV)(s:AS)(o:Oper):TH P G fr s o=Pz P G fr s o:=by
 unfold TH Pz;cases ho:o.op<;>simp only[Cn,RN,apD,sP,aG,tD]
 case pick c a b =>
   cases A8 G fr c with
   | none=>rfl
   | some v =>
     cases v with
     | sc u=>cases u<;>first | rfl | (rename_i t;cases t<;>rfl)
     | _=>rfl
 case alloc e=>cases LJ P e<;>rfl
 case box e x =>
   cases A8 G fr x with
   | none=>rfl
   | some v=>cases v<;>rfl
 case store t a x=>cases A8 G fr a<;>cases A8 G fr x<;>rfl
 case nilCheck x =>
   cases A8 G fr x with
   | none=>rfl
   | some v=>simp only[lG];cases notNil v<;>rfl
 case binOp op t x y z=>cases A8 G fr x<;>cases A8 G fr y<;>first | rfl | (simp only[two,TG])
 case unOp op t x=>cases (A8 G fr x).bind Yf with
   | none=>rfl
   | some v=>exact RN _ _
 case makeInterface t x =>
   cases A8 G fr x with
   | none=>cases P.underlying t<;>rfl
   | some v =>
     cases P.underlying t with
     | none=>rfl
     | some d=>simp only[mL];cases isIface d<;>rfl
 case makeFunc f a b=>cases YJ G fr a.toList<;>cases YJ G fr b.toList<;>rfl
 case makeMap t r=>cases r<;>rfl
 case makeSlice t l c=>cases A8 G fr l<;>cases A8 G fr c<;>rfl
 case slice t x lo hi mx =>
   cases A8 G fr x<;>cases dG G fr lo<;>cases dG G fr hi<;>cases dG G fr mx<;>first | rfl | exact RN _ _
 case indexAddr t x i=>cases A8 G fr x<;>cases A8 G fr i<;>rfl
 case index t x i=>cases A8 G fr x<;>cases A8 G fr i<;>first | rfl | (simp only[two,kX])
 case lookup t x k ok=>cases A8 G fr x<;>cases A8 G fr k<;>rfl
 case mapUpdate t m k x=>cases A8 G fr m<;>cases A8 G fr k<;>cases A8 G fr x<;>rfl
 case insert t m k x=>cases A8 G fr m<;>cases A8 G fr k<;>cases A8 G fr x<;>rfl
 case mapEntry t m k=>cases A8 G fr m<;>cases A8 G fr k<;>rfl
 case entryStore t m k x=>cases A8 G fr m<;>cases A8 G fr k<;>cases A8 G fr x<;>rfl
 case panic x =>
   cases A8 G fr x with
   | none=>rfl
   | some v=>cases v<;>rfl
end AI
namespace AI
open Go Go.RowKit
abbrev Rec:=Tk->Option Rs
def aBY(r:Rec)(y:Code):Option Rs->Option Rs
 | some (.code e fr s)=>(match e with
   | .normal=>r (.code y fr s)
   | e=>some (.code e fr s))
 | _=>none
def aqO(r:Rec)(x y:Code)(fr:List AV)(s:AS):Option AV->Option Rs
 | some (.sc (.bool t))=>(match t with
   | true=>r (.code x fr s)
   | false=>r (.code y fr s))
 | _=>none
def yF(id:Nat):Option Rs->Option Rs
 | some (.code e fr s)=>some (.code (EG id e) fr s)
 | _=>none
def zF:Option Rs->Option Rs
 | some (.code e fr s)=>some (.code e fr s)
 | _=>none
def azH(P:Program)(G:A6)(ops:Array Oper)(q:Nat)(rs:List AL):Option Rs->Option Rs
 | some (.tr t fr s)=>(match axQ P G ops t s q rs with
   | true=>some (.code .normal fr s)
   | false=>none)
 | _=>none
def aAJ(P:Program)(G:A6)(r:Rec)(ops:Array Oper)(fr:List AV)(s:AS):Option (List AL)->Option Rs
 | some rs=>azH P G ops s.nx rs (r (.draw ops ops.toList fr (s.hold rs) s.nx))
 | none=>none
def azG(P:Program)(G:A6)(r:Rec)(ops:Array Oper)(fr:List AV)(s:AS):Bool->Option Rs
 | true=>aAJ P G r ops fr s (rsv P ops.toList)
 | false=>none
def rH(P:Program)(G:A6)(r:Rec)(ops:Array Oper)(fr:List AV)(s:AS):Bool->Option Rs
 | false=>zF (r (.ops ops ops.toList fr s))
 | true=>azG P G r ops fr s (LN ops)
def afI(P:Program)(G:A6)(r:Rec)(fr:List AV)(s:AS):Code->Option Rs
 | .skip=>some (.code .normal fr s)
 | .exit id=>some (.code (.exit id) fr s)
 | .ret=>some (.code .ret fr s)
 | .seq x y=>aBY r y (r (.code x fr s))
 | .cond q x y=>aqO r x y fr s (AW G fr q)
 | .block id c=>yF id (r (.code c fr s))
 | .loop c=>zF (r (.loop c fr s))
 | .region _ ops d=>rH P G r ops fr s d
 | _=>none
def arL(r:Rec)(c:Code):Option Rs->Option Rs
 | some (.code e fr s)=>(match e with
   | .normal=>r (.loop c fr s)
   | e=>some (.code e fr s))
 | _=>none
def aJN(r:Rec)(ops:Array Oper)(dst:Option Tmp)(l:List Oper)(fr:List AV):Option Rs->Option Rs
 | some (.call c s)=>(match c with
   | .ret v=>r (.ops ops l (Ij fr dst v) s)
   | .pan v=>some (.code (.pan v) fr s))
 | _=>none
def anS(r:Rec)(ops:Array Oper)(fr:List AV)(s:AS):List Oper->Option Rs
 | []=>some (.code .normal fr s)
 | o::l=>aJN r ops o.dst l fr (r (.op ops o fr s))
def trK(fr:List AV)(s:AS)(v:AV):Option Rs->Option Rs
 | some (.tr t UL s2)=>some (.tr ((fr,s,v)::t) UL s2)
 | _=>none
def ayB(r:Rec)(ops:Array Oper)(dst:Option Tmp)(l:List Oper)(fr:List AV)(s:AS)(q:Nat):Option Rs->Option Rs
 | some (.call (.ret v) s1)=>trK fr s v (r (.draw ops l (Ij fr dst v) s1 q))
 | _=>none
def asV(r:Rec)(ops:Array Oper)(o:Oper)(l:List Oper)(fr:List AV)(s:AS)(q:Nat)(v:AV):Option Rs:=trK fr s v (r (.draw ops l (Ij fr o.dst v) s (q+1)))
def ayA(r:Rec)(ops:Array Oper)(o:Oper)(l:List Oper)(fr:List AV)(s:AS)(q:Nat):Bool->Option Rs
 | true=>asV r ops o l fr s q (Ow ops fr o q)
 | false=>ayB r ops o.dst l fr s q (r (.op ops o fr s))
def iY(r:Rec)(ops:Array Oper)(fr:List AV)(s:AS)(q:Nat):List Oper->Option Rs
 | []=>some (.tr [] fr s)
 | o::l=>ayA r ops o l fr s q (BX o.op)
def azC:Option Rs->Option Rs
 | some (.call c s)=>some (.call c s)
 | _=>none
def opK(r:Rec)(s:AS):Option AR->Option Rs
 | some (.val v s1)=>some (.call (.ret v) s1)
 | some (.pan v)=>some (.call (.pan v) s)
 | some (.ent f args)=>azC (r (.call f args s))
 | none=>none
def aaU(ops:Array Oper)(fr:List AV):Option (Nat×Bool)->Bool
 | none=>true
 | some p=>(match (ops[p.1]?).bind (·.dst) with
   | some d=>(match nth fr d with
     | .sc (.bool b)=>b == p.2
     | _=>false)
   | none=>false)
def axR(P:Program)(G:A6)(r:Rec)(fr:List AV)(s:AS)(o:Oper):Bool->Option Rs
 | true=>opK r s (TH P G fr s o)
 | false=>some (.call (.ret (.sc undef)) s)
def aAL(k:CR->Option CR):Option Rs->Option Rs
 | some (.call c s)=>(match k c with
   | some c1=>some (.call c1 s)
   | none=>none)
 | _=>none
def aBO(s:AS)(n:Nat):Option AV->Option Rs
 | some v=>some (.call (.ret v) (fin v s n))
 | none=>none
def azA(P:Program)(fn:Func)(n:Nat):Option Rs->Option Rs
 | some (.code e fr s)=>(match e with
   | .normal=>aBO s n (Gg P s fn fr)
   | .ret=>aBO s n (Gg P s fn fr)
   | .pan v=>some (.call (.pan v) (s.cut n))
   | .exit _=>none)
 | _=>none
def ayZ(P:Program)(r:Rec)(fn:Func)(args:List AV)(s:AS):Option Code->Option Rs
 | some c=>azA P fn s.nx (r (.code c (args++List.replicate (fn.ntmps - args.length) (.sc undef)) s))
 | none=>none
def pF(P:Program)(r:Rec)(args:List AV)(s:AS):Option Func->Option Rs
 | some fn=>ayZ P r fn args s fn.body
 | none=>none
def aAK(P:Program)(r:Rec)(f:FuncId)(args:List AV)(s:AS):Option (FuncId×List AV×(CR->Option CR))->Option Rs
 | some (g,Xi,k)=>aAL k (r (.call g Xi s))
 | none=>pF P r args s P.funcs[f]?
def azK(P:Program)(H:SD)(r:Rec)(f:FuncId)(args:List AV)(s:AS):Option (CR×AS)->Option Rs
 | some (c,s1)=>some (.call c s1)
 | none=>aAK P r f args s (H f args)
def step(P:Program)(G:A6)(X:aqF)(H:SD)(r:Rec):Tk->Option Rs
 | .code c fr s=>afI P G r fr s c
 | .loop c fr s=>arL r c (r (.code c fr s))
 | .ops ops l fr s=>anS r ops fr s l
 | .draw ops l fr s q=>iY r ops fr s q l
 | .op ops o fr s=>axR P G r fr s o (aaU ops fr o.guard)
 | .call f args s=>azK P H r f args s (X f args s)
end AI
namespace AI
open Go Go.RowKit
def aJK(l:List AV):Nat->AV:=List.rec (motive:=λ_=>Nat->AV) (λ_=>.sc undef) (λa _ ih n=>Nat.rec (motive:=λ_=>AV) a (λk _=>ih k) n) l
def aJT(v:AV)(l:List AV):Nat->List AV:=List.rec (motive:=λ_=>Nat->List AV) (λ_=>[]) (λa t ih n=>Nat.rec (motive:=λ_=>List AV) (v::t) (λk _=>a::ih k) n) l
def ayU(fr:List AV)(dst:Option Tmp)(v:AV):List AV:=Option.rec (motive:=λ_=>List AV) fr (λd=>aJT v fr d) dst
abbrev Sm:=Program->A6->List AV->AS->Oper->Option AR
def atM(t:Tmp)(_:A6)(fr:List AV):Option AV:=some (aJK fr t)
def ajO(v:Value)(_:A6)(_:List AV):Option AV:=VD v
def atL(g:Nat)(G:A6)(_:List AV):Option AV:=evG (G g)
def aGN(f:FuncId)(_:A6)(_:List AV):Option AV:=some (.fn (.func f) [] [])
def evR(x:Operand):A6->List AV->Option AV:=Operand.rec (motive:=λ_=>A6->List AV->Option AV) atM ajO atL aGN x
def bR{α β:Type}(o:Option α)(f:α->Option β):Option β:=Option.rec (motive:=λ_=>Option β) none f o
def aBA(s:AS)(v:AV):Option AR:=some (.val v s)
def wQ(s:AS)(o:Option AV):Option AR:=bR o (aBA s)
def rO(x:Operand):Sm:=λ_ G fr s _=>wQ s (evR x G fr)
def anM(c a b:Operand):Sm:=λ_ G fr s _=>L5 s (arQ (AW G fr a) (AW G fr b) (AW G fr c))
def aeQ(e:TypeId):Sm:=λP _ _ s _=>adJ s (LJ P e)
def axG(_:TypeId)(x:Operand):Sm:=λ_ G fr s _=>qQ s (AW G fr x)
def aeR(t:TypeId)(ps:Array (Nat×Operand)):Sm:=λP G fr s _=>L5 s (dD (Lt G fr ps.toList) (WM P t))
def YY(t:TypeId)(n:Nat)(ps:Array (Nat×Operand)):Sm:=λP G fr s _=>L5 s (dD (Lt G fr ps.toList) (LH P t n))
def anK(t:TypeId)(a:Operand):Sm:=λP G fr s _=>wQ s (bR (evR a G fr) (I4 P s t))
def aeZ(t:TypeId)(a x:Operand):Sm:=λP G fr s _=>jK (two (AW G fr a) (AW G fr x) (J9 P s t))
def axI(x:Operand):Sm:=λ_ G fr s _=>lG s (AW G fr x)
def axF(op:BinOp)(t:TypeId)(x y:Operand)(_:TypeId):Sm:=λP G fr s _=>wQ s (bR (evR x G fr) (λa=>bR (evR y G fr) (λb=>WK P op t x y a b)))
def aBW(op:UnOp)(_:TypeId)(x:Operand):Sm:=λP G fr s _=>arU P s (Op.unary op) (dD (AW G fr x) Yf)
def anI(src dst:TypeId)(x:Operand):Sm:=λP G fr s _=>L5 s (dD (AW G fr x) (Vl P src dst))
def aeU(t:TypeId)(x:Operand):Sm:=λP G fr s _=>mL t s (AW G fr x) (P.underlying t)
def anJ(f:Fn)(first caps:Array Operand):Sm:=λ_ G fr s _=>func1 f s (YJ G fr caps.toList) (YJ G fr first.toList)
def axH(_:TypeId)(r:Option Operand):Sm:=λ_ _ _ s _=>gJ s r
def anL(t:TypeId)(l c:Operand):Sm:=λP G fr s _=>wP (two (AW G fr l) (AW G fr c) (I5 P s t))
def aeY(t:TypeId)(x:Operand)(lo hi mx:Option Operand):Sm:=λP G fr s _=>afC P s t (dG G fr lo) (dG G fr hi) (dG G fr mx) (AW G fr x)
def vT(t:TypeId)(x:Operand)(k:Nat):Sm:=λP G fr s _=>wQ s (bR (evR x G fr) λa=>QR P t a k)
def aeT(t:TypeId)(x:Operand)(k:Nat):Sm:=λP G fr s _=>L5 s (dD (AW G fr x) λa=>WQ P t a k)
def vU(t:TypeId)(x i:Operand):Sm:=λP G fr s _=>wQ s (bR (evR x G fr) (λa=>bR (evR i G fr) (λb=>C7 P t a b)))
def aeV(t:TypeId)(x i:Operand):Sm:=λP G fr s _=>wQ s (bR (evR x G fr) (λa=>bR (evR i G fr) (λb=>V9 P t a b)))
def vV(t:TypeId)(x k:Operand)(ok:Bool):Sm:=λP G fr s _=>L5 s (two (AW G fr x) (AW G fr k) λa b=>IK P s t a b ok)
def aeX(t:TypeId)(m k x:Operand):Sm:=λP G fr s _=>jK (three (AW G fr m) (AW G fr k) (AW G fr x) (JZ P s t))
def aeS(t:TypeId)(m k:Operand):Sm:=λP G fr s _=>wP (two (AW G fr m) (AW G fr k) (OX P s t))
def vS(_:TypeId)(m st x:Operand):Sm:=λ_ G fr s _=>jK (three (AW G fr m) (AW G fr st) (AW G fr x) (LI s))
def nV(x:Operand)(k:Nat):Sm:=λ_ G fr s _=>L5 s (dD (AW G fr x) λa=>QQ a k)
def anH(cl:Call):Sm:=λP G fr s o=>Z7 P G fr s o cl
def aeW(x:Operand):Sm:=λ_ G fr _ _=>aBI (AW G fr x)
def aBV:Sm:=λ_ _ _ _ _=>none
def aBG(op:Op):Sm:=match op with
 | .move x=>rO x
 | .assign x=>rO x
 | .pick c a b=>anM c a b
 | .alloc e=>aeQ e
 | .box e x=>axG e x
 | .build t ps=>aeR t ps
 | .buildSlice t n ps=>YY t n ps
 | .load t a=>anK t a
 | .store t a x=>aeZ t a x
 | .nilCheck x=>axI x
 | .binOp op t x y z=>axF op t x y z
 | .unOp op t x=>aBW op t x
 | .convert a b x=>anI a b x
 | .makeInterface t x=>aeU t x
 | .makeFunc f a b=>anJ f a b
 | .makeMap t r=>axH t r
 | .makeSlice t l c=>anL t l c
 | .slice t x lo hi mx=>aeY t x lo hi mx
 | .fieldAddr t x k=>vT t x k
 | .field t x k=>aeT t x k
 | .indexAddr t x i=>vU t x i
 | .index t x i=>aeV t x i
 | .lookup t x k ok=>vV t x k ok
 | .mapUpdate t m k x=>aeX t m k x
 | .insert t m k x=>aeX t m k x
 | .mapEntry t m k=>aeS t m k
 | .entryStore t m st x=>vS t m st x
 | .extract x k=>nV x k
 | .call cl=>anH cl
 | .panic x=>aeW x
 | _=>aBV
def aaV(ops:Array Oper)(fr:List AV)(g:Option (Nat×Bool)):Bool:=Option.rec (motive:=λ_=>Bool) true (λp=>aaU ops fr (some p)) g
def aBH(r:Rec)(ops:Array Oper)(dst:Option Tmp)(l:List Oper)(fr:List AV):Option Rs->Option Rs
 | some (.call c s)=>(match c with
   | .ret v=>r (.ops ops l (ayU fr dst v) s)
   | .pan v=>some (.code (.pan v) fr s))
 | _=>none
def rU(P:Program)(G:A6)(r:Rec)(fr:List AV)(s:AS)(o:Oper)(b:Bool):Option Rs:=Bool.rec (motive:=λ_=>Option Rs) (some (.call (.ret (.sc undef)) s)) (opK r s (aBG o.op P G fr s o)) b
def afJ(P:Program)(G:A6)(r:Rec)(ops:Array Oper)(fr:List AV)(s:AS)(l:List Oper):Option Rs:=List.rec (motive:=λ_=>Option Rs) (some (.code .normal fr s)) (λo l _=>aBH r ops o.dst l fr (rU P G r fr s o (aaV ops fr o.guard))) l
abbrev Ss:=Program->A6->Rec->List AV->AS->Option Rs
def axO:Ss:=λ_ _ _ fr s=>some (.code .normal fr s)
def axM(id:Nat):Ss:=λ_ _ _ fr s=>some (.code (.exit id) fr s)
def aBZ:Ss:=λ_ _ _ fr s=>some (.code .ret fr s)
def aCA(x y:Code):Ss:=λ_ _ r fr s=>aBY r y (r (.code x fr s))
def axL(q:Operand)(x y:Code):Ss:=λ_ G r fr s=>aqO r x y fr s (AW G fr q)
def anQ(id:Nat)(c:Code):Ss:=λ_ _ r fr s=>yF id (r (.code c fr s))
def axN(c:Code):Ss:=λ_ _ r fr s=>zF (r (.loop c fr s))
def afE(_:Nat)(ops:Array Oper)(d:Bool):Ss:=λP G r fr s=>rH P G r ops fr s d
def aJU:Ss:=λ_ _ _ _ _=>none
def ajJ(c:Code):Ss:=match c with
 | .skip=>axO
 | .exit id=>axM id
 | .ret=>aBZ
 | .seq x y=>aCA x y
 | .cond q x y=>axL q x y
 | .block id c=>anQ id c
 | .loop c=>axN c
 | .region id ops d=>afE id ops d
 | _=>aJU
def Oh(P:Program)(G:A6)(X:aqF)(H:SD)(r:Rec):Tk->Option Rs
 | .code c fr s=>ajJ c P G r fr s
 | .loop c fr s=>arL r c (r (.code c fr s))
 | .ops ops l fr s=>afJ P G r ops fr s l
 | .draw ops l fr s q=>iY r ops fr s q l
 | .op ops o fr s=>rU P G r fr s o (aaV ops fr o.guard)
 | .call f args s=>azK P H r f args s (X f args s)
end AI
namespace AI
open Go Go.RowKit
mutual
def plain:AV->Bool
 | .sc _=>true
 | .agg cs=>BA cs
 | .Df cs=>BA cs
 | .sl o _ cs=>(match o with | .row _ _=>false | _=>true)&&BA cs
 | .ifc _ v=>plain v
 | .el cs=>BA cs
 | .fn _ a b=>BA a&&BA b
 | .any=>true
 | _=>false
def BA:List AV->Bool
 | []=>true
 | a::l=>plain a&&BA l
end
mutual
def SY:AV->AV
 | .agg cs=>.agg (XK cs)
 | .Df cs=>.Df (XK cs)
 | .sl o n cs=>.sl (match o with | .row _ _=>.lost | o=>o) n (XK cs)
 | .ifc t v=>.ifc t (SY v)
 | .el cs=>.el (XK cs)
 | a=>a
def XK:List AV->List AV
 | []=>[]
 | a::l=>SY a::XK l
end
mutual
def aH:AV->Bool
 | .sc _=>true
 | .agg cs=>KA cs
 | .Df cs=>KA cs
 | .sl _ _ cs=>KA cs
 | .ifc _ v=>aH v
 | .el cs=>KA cs
 | .any=>true
 | _=>false
def KA:List AV->Bool
 | []=>true
 | a::l=>aH a&&KA l
end
section
variable {c c':Cx} {w w':World}
mutual
def Rp.plain(hv:∀g i v,Lq c w g i v->Lq c' w' g i v):∀{a:AV} {v:Value},AI.plain a=true->Rp c w a v->Rp c' w' a v:=by
 intro a v hp h;cases h with
 | sc h1=>exact .sc h1
 | agg h1=>exact .agg (Cz.plain hv hp h1)
 | Df h1=>exact .Df (Cz.plain hv hp h1)
 | @sl0 own A cap h1 =>
   simp only[AI.plain,Bool.and_eq_true] at hp;cases own with
   | full=>exact .sl0 h1
   | nil=>exact .sl0 h1
   | nn=>exact .sl0 h1
   | lost=>exact .sl0 h1
   | row r sz=>cases hp.1
 | @Kx own n cap g o cs hn h1 ho =>
   simp only[AI.plain,Bool.and_eq_true] at hp;refine .Kx hn (A9.plain hv hp.2 h1) ?_;cases own with
   | full=>exact ho
   | nil=>exact ho
   | nn=>exact ho
   | lost=>trivial
   | row r sz=>cases hp.1
 | msl hn h1=>cases hp
 | el h1=>exact .el (A9.plain hv hp h1)
 | ptr h1=>cases hp
 | fn h1 h2 =>
   simp only[AI.plain,Bool.and_eq_true] at hp;exact .fn (Cz.plain hv hp.1 h1) (Cz.plain hv hp.2 h2)
 | ifc h1=>exact .ifc (Rp.plain hv hp h1)
 | mp h1=>cases hp
 | any h1=>exact .any h1
 | raw=>first | (cases hp;done) | exact .raw
def Cz.plain(hv:∀g i v,Lq c w g i v->Lq c' w' g i v):∀{a:List AV} {v:List Value},AI.BA a=true->Cz c w a v->Cz c' w' a v:=by
 intro a v hp h;cases h with
 | nil=>exact .nil
 | cons h1 t =>
   simp only[AI.BA,Bool.and_eq_true] at hp;exact .cons (Rp.plain hv hp.1 h1) (Cz.plain hv hp.2 t)
def A9.plain(hv:∀g i v,Lq c w g i v->Lq c' w' g i v):∀{a:List AV} {g o:Nat},AI.BA a=true->A9 c w g o a->A9 c' w' g o a:=by
 intro a g o hp h;cases h with
 | nil=>exact .nil
 | cons fX h1 t =>
   simp only[AI.BA,Bool.and_eq_true] at hp;exact .cons (hv _ _ _ fX) (Rp.plain hv hp.1 h1) (A9.plain hv hp.2 t)
end
mutual
def Rp.SY(hv:∀g i v,Lq c w g i v->Lq c' w' g i v):∀{a:AV} {v:Value},aH a=true->Rp c w a v->Rp c' w' (AI.SY a) v:=by
 intro a v hp h;cases h with
 | sc h1=>exact .sc h1
 | agg h1=>exact .agg (Cz.SY hv hp h1)
 | Df h1=>exact .Df (Cz.SY hv hp h1)
 | @sl0 own A cap h1 =>
   cases own with
   | full=>exact .sl0 h1
   | nil=>exact .sl0 h1
   | nn=>exact .sl0 h1
   | lost=>exact .sl0 h1
   | row r sz=>exact .sl0 trivial
 | @Kx own n cap g o cs hn h1 ho =>
   have h2:=A9.SY hv hp h1;refine .Kx hn h2 ?_;cases own with
   | full=>exact ho
   | nil=>exact ho
   | nn=>exact ho
   | lost=>trivial
   | row r sz=>trivial
 | msl hn h1=>cases hp
 | el h1=>exact .el (A9.SY hv hp h1)
 | ptr h1=>cases hp
 | fn h1 h2=>cases hp
 | ifc h1=>exact .ifc (Rp.SY hv hp h1)
 | mp h1=>cases hp
 | any h1=>exact .any h1
 | raw=>first | (cases hp;done) | exact .raw
def Cz.SY(hv:∀g i v,Lq c w g i v->Lq c' w' g i v):∀{a:List AV} {v:List Value},KA a=true->Cz c w a v->Cz c' w' (AI.XK a) v:=by
 intro a v hp h;cases h with
 | nil=>exact .nil
 | cons h1 t =>
   simp only[AI.KA,Bool.and_eq_true] at hp;exact .cons (Rp.SY hv hp.1 h1) (Cz.SY hv hp.2 t)
def A9.SY(hv:∀g i v,Lq c w g i v->Lq c' w' g i v):∀{a:List AV} {g o:Nat},KA a=true->A9 c w g o a->A9 c' w' g o (AI.XK a):=by
 intro a g o hp h;cases h with
 | nil=>exact .nil
 | cons fX h1 t =>
   simp only[AI.KA,Bool.and_eq_true] at hp;exact .cons (hv _ _ _ fX) (Rp.SY hv hp.1 h1) (A9.SY hv hp.2 t)
end
end
def s0:AS:=⟨[],0,[],0⟩
end AI
namespace AI
open Go Go.RowKit
mutual
def under(n m:Nat):AV->Bool
 | .sc _=>true
 | .agg cs=>Fh n m cs
 | .Df cs=>Fh n m cs
 | .sl o _ cs=>(match o with | .row r _=>decide (r < m) | _=>true)&&Fh n m cs
 | .msl id _ _=>decide (id < n)
 | .el cs=>Fh n m cs
 | .ptr id _=>decide (id < n)
 | .fn _ a b=>Fh n m a&&Fh n m b
 | .ifc _ v=>under n m v
 | .mp id=>decide (id < n)
 | .any=>true
 | .raw _ _ _=>true
def Fh(n m:Nat):List AV->Bool
 | []=>true
 | a::l=>under n m a&&Fh n m l
end
mutual
def GZ(n m:Nat):∀{a:AV},plain a=true->under n m a=true
 | .sc _,_=>rfl
 | .agg cs,h=>by simp only[plain] at h;simp only[under];exact Ci n m h
 | .Df cs,h=>by simp only[plain] at h;simp only[under];exact Ci n m h
 | .sl o k cs,h=>by
   simp only[plain,Bool.and_eq_true] at h;simp only[under,Bool.and_eq_true];refine⟨?_,Ci n m h.2⟩;cases o with
   | row r sz=>cases h.1
   | _=>rfl
 | .msl _ _ _,h=>by cases h
 | .el cs,h=>by simp only[plain] at h;simp only[under];exact Ci n m h
 | .ptr _ _,h=>by cases h
 | .fn _ a b,h=>by
   simp only[plain,Bool.and_eq_true] at h;simp only[under,Bool.and_eq_true];exact⟨Ci n m h.1,Ci n m h.2⟩
 | .ifc _ v,h=>by simp only[plain] at h;simp only[under];exact GZ n m h
 | .mp _,h=>by cases h
 | .any,_=>rfl
 | .raw _ _ _,_=>rfl
def Ci(n m:Nat):∀{l:List AV},BA l=true->Fh n m l=true
 | [],_=>rfl
 | a::l,h=>by
   simp only[BA,Bool.and_eq_true] at h;simp only[Fh,Bool.and_eq_true];exact⟨GZ n m h.1,Ci n m h.2⟩
end
def Cx.upto(c:Cx)(n m:Nat):Cx:=⟨c.base,c.CN.take n,c.rows.take m,c.bad⟩
def EF{α:Type}{l:List α}{n i:Nat}{x:α}(h:(l.take n)[i]?=some x):l[i]?=some x/\i < n:=by
 rw[List.getElem?_take] at h;split at h;rename_i hi;exact⟨h,hi⟩;cases h
def Qe{α:Type}{l:List α}{n i:Nat}{x:α}(h:l[i]?=some x)(hi:i < n):(l.take n)[i]?=some x:=by
 rw[List.getElem?_take,if_pos hi];exact h
section
variable {c:Cx} {w:World} {n m:Nat}
def afA{g i:Nat}(h:(c.upto n m).YZ g i):c.YZ g i:=by
 rcases h with h | ⟨r,n,cap,sz,hr,h⟩ | h
 exact .inl (List.mem_of_mem_take h);exact .inr (.inl ⟨r,n,cap,sz,(EF hr).1,h⟩);exact .inr (.inr h)
def Ut{g i:Nat}{v:Value}(h:Lq c w g i v):Lq (c.upto n m) w g i v:=⟨h.1,λhs=>h.2.1 (afA hs),h.2.2⟩
mutual
def Rp.upto:∀{a:AV} {v:Value},under n m a=true->Rp c w a v->Rp (c.upto n m) w a v:=by
 intro a v hp h;cases h with
 | sc h1=>exact .sc h1
 | agg h1=>exact .agg (Cz.upto hp h1)
 | Df h1=>exact .Df (Cz.upto hp h1)
 | @sl0 own A cap h1 =>
   simp only[AI.under,Bool.and_eq_true] at hp;cases own with
   | full=>exact .sl0 h1
   | nil=>exact .sl0 h1
   | nn=>exact .sl0 h1
   | lost=>exact .sl0 trivial
   | row r sz =>
     have hr:r < m:=of_decide_eq_true hp.1;refine .sl0 ⟨h1.1,?_⟩;have:=h1.2;simp only[Cx.upto,List.length_take];omega
 | @Kx own k cap g o cs hn h1 ho =>
   simp only[AI.under,Bool.and_eq_true] at hp;refine .Kx hn (A9.upto hp.2 h1) ?_;cases own with
   | full=>exact ho
   | nil=>exact ho
   | nn=>exact ho
   | lost=>trivial
   | row r sz =>
     have hr:r < m:=of_decide_eq_true hp.1;refine⟨ho.1,ho.2.1,?_,λe=>ho.2.2.2.1 (EF e).1,λg' n' c' s' e=>ho.2.2.2.2 g' n' c' s' (EF e).1⟩;have:=ho.2.2.1;simp only[Cx.upto,List.length_take];omega
 | msl hn h1=>exact .msl hn (Qe h1 (of_decide_eq_true hp))
 | el h1=>exact .el (A9.upto hp h1)
 | ptr h1=>exact .ptr (Qe h1 (of_decide_eq_true hp))
 | fn h1 h2 =>
   simp only[AI.under,Bool.and_eq_true] at hp;exact .fn (Cz.upto hp.1 h1) (Cz.upto hp.2 h2)
 | ifc h1=>exact .ifc (Rp.upto hp h1)
 | mp h1=>exact .mp (Qe h1 (of_decide_eq_true hp))
 | any h1=>exact .any h1
 | raw=>exact .raw
def Cz.upto:∀{a:List AV} {v:List Value},Fh n m a=true->Cz c w a v->Cz (c.upto n m) w a v:=by
 intro a v hp h;cases h with
 | nil=>exact .nil
 | cons h1 t =>
   simp only[AI.Fh,Bool.and_eq_true] at hp;exact .cons (Rp.upto hp.1 h1) (Cz.upto hp.2 t)
def A9.upto:∀{a:List AV} {g o:Nat},Fh n m a=true->A9 c w g o a->A9 (c.upto n m) w g o a:=by
 intro a g o hp h;cases h with
 | nil=>exact .nil
 | cons fX h1 t =>
   simp only[AI.Fh,Bool.and_eq_true] at hp;exact .cons (Ut fX) (Rp.upto hp.1 h1) (A9.upto hp.2 t)
end
end
def TM:AV->Bool
 | .sc v=>Wa v
 | _=>true
def SK{c:Cx}{w:World}{a:AV}{v:Value}(h:Rp c w a v)(hd:TM a=true):Wa v=true:=by
 cases h<;>first | rfl | exact hd | assumption | (cases hd;done)
def oF:AV->AV
 | .sl _ n cs=>.sl .lost n cs
 | a=>a
inductive Fg(n m:Nat):List AV->List AV->Prop where
 | nil:Fg n m [] []
 | GF {a:AV} {l k:List AV} (h:under n m a=true) (t:Fg n m l k):Fg n m (a::l) (a::k)
 | drop {a:AV} {l k:List AV} (h:TM a=true) (t:Fg n m l k):Fg n m (a::l) (.any::k)
 | lost {o:Own} {j:Nat} {cs l k:List AV} (h:Fh n m cs=true) (t:Fg n m l k):Fg n m (.sl o j cs::l) (.sl .lost j cs::k)
def Fg.ok{n m:Nat}{l k:List AV}(h:Fg n m l k){c:Cx}{w:World}{vs:List Value}(hr:Cz c w l vs):Cz (c.upto n m) w k vs:=by
 induction h generalizing vs with
 | nil=>cases hr;exact .nil
 | GF h _ ih=>cases hr with | cons h1 t=>exact .cons (h1.upto h) (ih t)
 | drop h _ ih=>cases hr with | cons h1 t=>exact .cons (.any (SK h1 h)) (ih t)
 | @lost o j cs l k h _ ih =>
   cases hr with
   | cons h1 t =>
     refine .cons ?_ (ih t);cases h1 with
     | sl0 _=>exact .sl0 trivial
     | Kx hn hc ho=>exact .Kx hn (hc.upto h) trivial
def Wx(n m:Nat):List (Value×AV×Nat)->Bool
 | []=>true
 | e::l=>under n m e.2.1&&Wx n m l
def agK(n m:Nat):AL->Bool
 | .cells cs=>Fh n m cs
 | .map es _=>Wx n m es
def J7.upto{c:Cx}{w:World}{n m:Nat}:∀{es:List (Value×AV×Nat)} {fs:List MapEntry},Wx n m es=true->J7 c w es fs->J7 (c.upto n m) w es fs:=by
 intro es
 induction es with
 | nil=>intro fs _ h;cases h;exact .nil
 | cons e es ih =>
   intro fs hu h;obtain⟨x,a,b⟩:=e;simp only[Wx,Bool.and_eq_true] at hu;cases h with | cons h1 t=>exact .cons (h1.upto hu.1) (ih hu.2 t)
def EY.upto{c:Cx}{w:World}{n m:Nat}{b:AL}{o:Obj}(hb:agK n m b=true)(h:EY c w b o):EY (c.upto n m) w b o:=by
 cases h with
 | G5 ext h1=>exact .G5 ext (h1.upto hb)
 | map h1=>exact .map (h1.upto hb)
def Fits(n m:Nat)(a b:AV):Prop:=∀(c:Cx) (w:World) (v:Value),Rp c w a v->Rp (c.upto n m) w b v
def I3(n m:Nat)(a b:List AV):Prop:=∀(c:Cx) (w:World) (v:List Value),Cz c w a v->Cz (c.upto n m) w b v
def Sb(n m:Nat)(a b:List AV):Prop:=∀(c:Cx) (w:World) (g o:Nat),A9 c w g o a->A9 (c.upto n m) w g o b
def Qk(n m:Nat)(a b:AL):Prop:=∀(c:Cx) (w:World) (o:Obj),EY c w a o->EY (c.upto n m) w b o
def Fg.fits{n m:Nat}{l k:List AV}(h:Fg n m l k):I3 n m l k:=λ_ _ _ hr=>h.ok hr
def Fits.under{n m:Nat}{a:AV}(h:AI.under n m a=true):Fits n m a a:=λ_ _ _ hr=>hr.upto h
def I3.under{n m:Nat}{a:List AV}(h:AI.Fh n m a=true):I3 n m a a:=λ_ _ _ hr=>hr.upto h
def Sb.under{n m:Nat}{a:List AV}(h:AI.Fh n m a=true):Sb n m a a:=λ_ _ _ _ hr=>hr.upto h
def Qk.under{n m:Nat}{b:AL}(h:agK n m b=true):Qk n m b b:=λ_ _ _ hr=>hr.upto h
def Fits.plain{n m:Nat}{a:AV}(h:AI.plain a=true):Fits n m a a:=.under (GZ n m h)
def I3.plain{n m:Nat}{a:List AV}(h:BA a=true):I3 n m a a:=.under (Ci n m h)
def Sb.plain{n m:Nat}{a:List AV}(h:BA a=true):Sb n m a a:=.under (Ci n m h)
def Fits.sc{n m:Nat}{v:Value}:Fits n m (.sc v) (.sc v):=.under rfl
def Fits.drop{n m:Nat}{a:AV}(h:TM a=true):Fits n m a .any:=λ_ _ _ hr=>.any (SK hr h)
def Fits.agg{n m:Nat}{a b:List AV}(h:I3 n m a b):Fits n m (.agg a) (.agg b):=λ_ _ _ hr=>by cases hr with | agg h1=>exact .agg (h _ _ _ h1)
def Fits.Df{n m:Nat}{a b:List AV}(h:I3 n m a b):Fits n m (.Df a) (.Df b):=λ_ _ _ hr=>by cases hr with | Df h1=>exact .Df (h _ _ _ h1)
def Fits.lost{n m:Nat}{o:Own}{k:Nat}{a b:List AV}(h:Sb n m a b)(e:a=[]->b=[]):Fits n m (.sl o k a) (.sl .lost k b):=λ_ _ _ hr=>by
 cases hr with
 | sl0 _=>rw[e rfl];exact .sl0 trivial
 | Kx hn hc ho=>exact .Kx hn (h _ _ _ _ hc) trivial
def I3.nil{n m:Nat}:I3 n m [] []:=λ_ _ _ hr=>by cases hr;exact .nil
def I3.cons{n m:Nat}{a b:AV}{l k:List AV}(h:Fits n m a b)(t:I3 n m l k):I3 n m (a::l) (b::k):=λ_ _ _ hr=>by cases hr with | cons h1 t1=>exact .cons (h _ _ _ h1) (t _ _ _ t1)
def Sb.nil{n m:Nat}:Sb n m [] []:=λ_ _ _ _ hr=>by cases hr;exact .nil
def Sb.cons{n m:Nat}{a b:AV}{l k:List AV}(h:Fits n m a b)(t:Sb n m l k):Sb n m (a::l) (b::k):=λ_ _ _ _ hr=>by cases hr with | cons hv h1 t1=>exact .cons (Ut hv) (h _ _ _ h1) (t _ _ _ _ t1)
def Qk.cells{n m:Nat}{a b:List AV}(h:I3 n m a b):Qk n m (.cells a) (.cells b):=λ_ _ _ hr=>by cases hr with | G5 ext h1=>exact .G5 ext (h _ _ _ h1)
def ajV{G:A6}(hG:∀g cs,G g=some cs->BA cs=true){s s' s2:AS}{fr' fr2:List AV}(hn:s2.nx=s.nx)(hr:s2.nr=s.nr)
   (hd:I2 s2.h s2.nx) (auH:∀id b,look id s2.h=some b->∃b',look id s'.h=some b'/\Qk s.nx s.nr b' b) (hF:∀r n,DW r s2.F=some n->DW r s'.F=some n/\r < s.nr)
   (hf:I3 s.nx s.nr fr' fr2) (cx:Cx) (w:World) (c':Cx) (w':World) (vs:List Value) (hx:Ext cx w c' w') (hs:St G cx w s) (hs':St G c' w' s') (hfr:Cz c' w' fr' vs) :
   ∃c2,Ext cx w c2 w'/\St G c2 w' s2/\Cz c2 w' fr2 vs:=by
 have Ra:c'.CN.take s.nx=cx.CN:=by
   obtain⟨t,ht⟩:=hx.CN;rw[<- ht,hs.len,List.take_left]
 have hrl:(c'.rows.take s.nr).length=cx.rows.length:=by
   have:=hx.Ip;rw[List.length_take,hs.Ip];omega
 refine⟨c'.upto s.nx s.nr,⟨?_,?_,λr x Wg h=>?_,λg i v hv=>Ut (hx.Y2 g i v hv),hx.below,hx.base,hx.bad,λg hg=>hx.YU g (List.mem_of_mem_take hg),λr g n cap sz h=>hx.YV r g n cap sz (EF h).1,hx.GF⟩,?_,hf _ _ _ hfr⟩;show cx.CN <+: c'.CN.take s.nx;rw[Ra];exact List.prefix_refl _;show cx.rows.length<=(c'.rows.take s.nr).length;omega;exact hx.rows r x Wg (EF h).1;refine⟨?_,hd,λi j g h1 h2=>hs'.nodup i j g (EF h1).1 (EF h2).1,λg hg=>hs'.low g (List.mem_of_mem_take hg),λid g b h1 h2=>?_,?_,λr g n cap sz h=>?_,λr n h=>?_,λg hg=>hs'.L0 g (List.mem_of_mem_take hg),hs'.L8,λr r' g n cap sz n' cap' MP h h'=>hs'.Ig r r' g n cap sz n' cap' MP (EF h).1 (EF h').1,λg cs hg=>(hs'.Ma g cs hg).upto (Ci _ _ (hG g cs hg)),hs'.PB⟩;show s2.nx=(c'.CN.take s.nx).length;rw[Ra,hn,hs.len];obtain⟨b',h3,h4⟩:=auH id b h2;obtain⟨o,ho,hb⟩:=hs'.box id g b' (EF h1).1 h3;exact⟨o,ho,h4 _ _ _ hb⟩;show s2.nr=(c'.rows.take s.nr).length;rw[hrl,hr,hs.Ip];obtain⟨a1,a2,a3,a4⟩:=hs'.row r g n cap sz (EF h).1;exact⟨a1,a2,λhm=>a3 (List.mem_of_mem_take hm),a4⟩;obtain⟨h1,h2⟩:=hF r n h;rcases hs'.Ix r n h1 with ⟨h3,h4⟩ | ⟨g,cap,sz,h3⟩
 exact .inl ⟨Qe h3 h2,h4⟩;exact .inr ⟨g,cap,sz,Qe h3 h2⟩
end AI
namespace AI
open Go Go.RowKit
section
variable {P:Program} {G:A6} {X:VO} {H:SD}
def W(P:Program)(G:A6)(X:VO)(H:SD)(c:Code)(fr:List AV)(s:AS)(Q:AX->List AV->AS->Prop):Prop:=∃e fr' s',J P G X H (.code c fr s e fr' s')/\Q e fr' s'
def WL(P:Program)(G:A6)(X:VO)(H:SD)(c:Code)(fr:List AV)(s:AS)(Q:AX->List AV->AS->Prop):Prop:=∃e fr' s',J P G X H (.loop c fr s e fr' s')/\Q e fr' s'
def WC(P:Program)(G:A6)(X:VO)(H:SD)(f:FuncId)(args:List AV)(s:AS)(Q:CR->AS->Prop):Prop:=∃r s',J P G X H (.call f args s r s')/\Q r s'
def asD(P:Program)(G:A6)(X:VO)(H:SD)(y:Code)(Q:AX->List AV->AS->Prop):AX->List AV->AS->Prop
 | .normal,fr,s=>W P G X H y fr s Q
 | e,fr,s=>Q e fr s
def Ew(id:Nat)(Q:AX->List AV->AS->Prop):AX->List AV->AS->Prop:=λe fr s=>Q (EG id e) fr s
def Sg(P:Program)(fn:Func)(n:Nat)(Q:CR->AS->Prop):AX->List AV->AS->Prop
 | .normal,fr,s=>∃v,Gg P s fn fr=some v/\Q (.ret v) (s.cut n)
 | .ret,fr,s=>∃v,Gg P s fn fr=some v/\Q (.ret v) (s.cut n)
 | .pan v,_,s=>Q (.pan v) (s.cut n)
 | _,_,_=>False
def W.mono{c:Code}{fr:List AV}{s:AS}{Q R:AX->List AV->AS->Prop}(h:W P G X H c fr s Q)(k:∀e fr s,Q e fr s->R e fr s):W P G X H c fr s R:=by
 obtain⟨e,fr',s',h1,h2⟩:=h;exact⟨e,fr',s',h1,k _ _ _ h2⟩
def WC.mono{f:FuncId}{args:List AV}{s:AS}{Q R:CR->AS->Prop}(h:WC P G X H f args s Q)(k:∀r s,Q r s->R r s):WC P G X H f args s R:=by
 obtain⟨r,s',h1,h2⟩:=h;exact⟨r,s',h1,k _ _ h2⟩
def ayP{x y:Code}{fr:List AV}{s:AS}{Q:AX->List AV->AS->Prop}(h:W P G X H x fr s (asD P G X H y Q)):W P G X H (.seq x y) fr s Q:=by
 obtain⟨e,UL,s1,h1,h2⟩:=h;cases e with
 | normal =>
   obtain⟨e2,fr2,s2,h3,h4⟩:=h2;exact⟨e2,fr2,s2,.seq h1 h3,h4⟩
 | exit id=>exact⟨_,_,_,.nW h1 (by simp),h2⟩
 | ret=>exact⟨_,_,_,.nW h1 (by simp),h2⟩
 | pan v=>exact⟨_,_,_,.nW h1 (by simp),h2⟩
def aiT{q:Operand}{x y:Code}{fr:List AV}{s:AS}{Q:AX->List AV->AS->Prop}(hq:A8 G fr q=some (.sc (.bool true)))(h:W P G X H x fr s Q):W P G X H (.cond q x y) fr s Q:=by
 obtain⟨e,UL,s1,h1,h2⟩:=h;exact⟨e,UL,s1,.cond hq h1,h2⟩
def aiS{q:Operand}{x y:Code}{fr:List AV}{s:AS}{Q:AX->List AV->AS->Prop}(hq:A8 G fr q=some (.sc (.bool false)))(h:W P G X H y fr s Q):W P G X H (.cond q x y) fr s Q:=by
 obtain⟨e,UL,s1,h1,h2⟩:=h;exact⟨e,UL,s1,.cond hq h1,h2⟩
def oN{id:Nat}{c:Code}{fr:List AV}{s:AS}{Q:AX->List AV->AS->Prop}(h:W P G X H c fr s (Ew id Q)):W P G X H (.block id c) fr s Q:=by
 obtain⟨e,UL,s1,h1,h2⟩:=h;exact⟨_,UL,s1,.block h1,h2⟩
def asU{c:Code}{fr:List AV}{s:AS}{Q:AX->List AV->AS->Prop}(h:WL P G X H c fr s Q):W P G X H (.loop c) fr s Q:=by
 obtain⟨e,UL,s1,h1,h2⟩:=h;exact⟨_,UL,s1,.loop h1,h2⟩
def drop_cons{α:Type}{o:α}{l m:List α}{k:Nat}(h:o::l=m.drop k):m[k]?=some o/\l=m.drop (k+1):=by
 constructor;have:=congrArg (λx=>x[0]?) h;simpa using this.symm
 have:=congrArg List.tail h;rw[List.tail_drop] at this;exact this
def Ay{f:FuncId}{fn:Func}{c:Code}{args:List AV}{s:AS}{Q:CR->AS->Prop}(hf:P.funcs[f]?=some fn)(hb:fn.body=some c)(h:W P G X H c (args++List.replicate (fn.ntmps - args.length) (.sc undef)) s (Sg P fn s.nx Q)):WC P G X H f args s Q:=by
 obtain⟨e,UL,s1,h1,h2⟩:=h;cases e with
 | normal=>obtain⟨v,h3,h4⟩:=h2;exact⟨_,_,.body hf hb h1 (.inl rfl) h3 (.inl rfl),h4⟩
 | ret=>obtain⟨v,h3,h4⟩:=h2;exact⟨_,_,.body hf hb h1 (.inr rfl) h3 (.inl rfl),h4⟩
 | pan v=>exact⟨_,_,.aqK hf hb h1,h2⟩
 | exit id=>exact h2.elim
end
end AI
namespace AI
open Go Go.RowKit
abbrev XS(P:Program)(G:A6):VO:=λf args s r s'=>Sound P G (.call f args s r s')
def H0:SD:=λ_ _=>none
def Q9{P:Program}{G:A6}(h:P.follows .mixedOrders=true):aqG P G (XS P G) H0:=⟨h,λ_ _ _ _ _ h=>h,λ_ _ _ _ _ h=>by cases h⟩
def Pure(P:Program)(G:A6)(f:FuncId)(args:List AV)(v:AV):Prop:=∀s,Sound P G (.call f args s (.ret v) s)
def rows{α:Type}(f:α->List AV)(l:List α):List AV:=l.flatMap f
def RH{α:Type}{f:α->List AV}{k:Nat}(hf:∀x,(f x).length=k){l:List α}{i:Nat}{x:α}(h:l[i]?=some x):(rows f l).drop (i*k)=f x++rows f (l.drop (i+1)):=by
 induction l generalizing i with
 | nil=>simp at h
 | cons y l ih =>
   cases i with
   | zero=>simp at h;subst h;simp[rows]
   | succ i =>
     have:=ih (i:=i) (by simpa using h)
     have e:rows f (y::l)=f y++rows f l:=by simp[rows]
     rw[e,List.drop_append,hf y,show(i+1)*k - k=i*k by rw[Nat.add_mul];omega,List.drop_eq_nil_of_le (by rw[hf y,Nat.add_mul];omega),List.nil_append,this];simp
def Iy{α:Type}{f:α->List AV}{k:Nat}(hf:∀x,(f x).length=k)(l:List α):(rows f l).length=l.length*k:=by
 induction l with
 | nil=>simp[rows]
 | cons y l ih =>
   have e:rows f (y::l)=f y++rows f l:=by simp[rows]
   rw[e,List.length_append,hf y,ih,List.length_cons,Nat.add_mul];omega
def Og{α:Type}(f:α->List AV)(l m:List α):rows f (l++m)=rows f l++rows f m:=by simp[rows]
def Gc{α:Type}(f:α->List AV)(x:α)(m:List α):rows f (x::m)=f x++rows f m:=by simp[rows]
def nQ{α:Type}{f:α->List AV}{l:List α}(h:∀x∈l,BA (f x)=true):BA (rows f l)=true:=by
 have Tx:∀a b:List AV,BA a=true->BA b=true->BA (a++b)=true:=by
   intro a b ha hb
   induction a with
   | nil=>exact hb
   | cons x a ih =>
     simp only[BA,Bool.and_eq_true,List.cons_append] at ha ⊢;exact⟨ha.1,ih ha.2⟩
 induction l with
 | nil=>rfl
 | cons y l ih=>rw[Gc];exact Tx _ _ (h y List.mem_cons_self) (ih λx hx=>h x (List.mem_cons_of_mem _ hx))
def mN{P:Program}{α:Type}{f:α->List AV}{k:Nat}{t elem:TypeId}{e:TypeInfo}(hu:P.underlying t=some (.slice elem))(he:P.info? elem=some e)(hk:e.size=k)(hf:∀x,(f x).length=k){own:Own}{l:List α}{i:Nat}{x:α}(h:l[i]?=some x) :
   C7 P t (.sl own l.length (rows f l)) (.sc (.int .i64 (i:Int)))=some (.el (f x++rows f (l.drop (i+1)))):=by
 have hi:=(List.getElem?_eq_some_iff.1 h).1
 have hn:QC (.sc (.int .i64 (i:Int)))=some i:=by
   unfold QC;simp
 unfold C7;rw[hu,hn];simp only[he,hk,if_pos hi,RH hf h]
def ahD{i:Nat}(h:i<=9223372036854775807):IntKind.i64.wrap (i:Int)=(i:Int):=by
 refine IntWalk.i64_in _ ?_;omega
end AI
namespace AI
open Go Go.RowKit
section
variable {G:A6}
inductive NZ where
 | t (tmp sz:Nat)
 | b (id i sz:Nat)
 | l (tmp:Nat)
 | lb (id i:Nat)
def alP:AV->Bool
 | .sl .full n cs=>(match n with | 0=>(match cs with | []=>true | _=>false) | _=>false)
 | _=>false
def nz1(fr:List AV)(s:AS):NZ->Option (List AV×AS)
 | .t k sz=>(match fr[k]? with
   | some a=>(match alP a with
     | true=>some (fr.set k (.sl (.row s.nr sz) 0 []),s.tok)
     | false=>none)
   | none=>none)
 | .b id i sz=>(match look id s.h with
   | some (.cells cs)=>(match cs[i]? with
     | some a=>(match alP a with
       | true=>some (fr,⟨Qw id (.cells (cs.set i (.sl (.row s.nr sz) 0 []))) s.h,s.nx,(s.nr,0)::s.F,s.nr+1⟩)
       | false=>none)
     | none=>none)
   | _=>none)
 | .l k=>(match fr[k]? with
   | some a=>some (fr.set k (oF a),s)
   | none=>none)
 | .lb id i=>(match look id s.h with
   | some (.cells cs)=>(match cs[i]? with
     | some a=>some (fr,⟨Qw id (.cells (cs.set i (oF a))) s.h,s.nx,s.F,s.nr⟩)
     | none=>none)
   | _=>none)
def nzs:List NZ->List AV->AS->Option (List AV×AS)
 | [],fr,s=>some (fr,s)
 | z::l,fr,s=>(match nz1 fr s z with
   | some (fr,s)=>nzs l fr s
   | none=>none)
def Wkn(G:A6)(fr:List AV)(s:AS)(fr2:List AV)(s2:AS):Prop:=∀(cx:Cx) (w:World) (vs:List Value),St G cx w s->Cz cx w fr vs->∃zH,Ext cx w zH w/\St G zH w s2/\Cz zH w fr2 vs
def Wkn.refl{fr:List AV}{s:AS}:Wkn G fr s fr s:=λcx w vs h1 h2=>⟨cx,Ext.refl _ _,h1,h2⟩
def Wkn.trans{fr fr2 fr3:List AV}{s s2 s3:AS}(h:Wkn G fr s fr2 s2)(k:Wkn G fr2 s2 fr3 s3):Wkn G fr s fr3 s3:=λcx w vs h1 h2=>by
 obtain⟨c2,x2,s2,r2⟩:=h cx w vs h1 h2;obtain⟨c3,x3,s3,r3⟩:=k c2 w vs s2 r2;exact⟨c3,x2.trans x3,s3,r3⟩
def qU{a:AV}(h:alP a=true){c:Cx}{w:World}{v:Value}(hr:Rp c w a v){r sz:Nat}(hl:r < c.rows.length):Rp c w (.sl (.row r sz) 0 []) v:=by
 unfold alP at h;split at h
 · split at h
   · split at h
     · cases hr with
       | sl0 h0=>exact .sl0 ⟨h0,hl⟩
       | Kx hn hc ho =>
         have:_=0:=ho;subst this;exact .sl0 ⟨rfl,hl⟩
     cases h
   cases h
 cases h
def ZP{a:AV}{c:Cx}{w:World}{v:Value}(hr:Rp c w a v):Rp c w (oF a) v:=by
 cases hr with
 | sl0 _=>exact .sl0 trivial
 | Kx hn hc ho=>exact .Kx hn hc trivial
 | sc h=>exact .sc h
 | agg h=>exact .agg h
 | Df h=>exact .Df h
 | msl h1 h2=>exact .msl h1 h2
 | el h=>exact .el h
 | ptr h=>exact .ptr h
 | fn h1 h2=>exact .fn h1 h2
 | ifc h=>exact .ifc h
 | mp h=>exact .mp h
 | any h=>exact .any h
 | raw=>exact .raw
def Cz.anN{c:Cx}{w:World}{as:List AV}{vs:List Value}(h:Cz c w as vs){i:Nat}{a b:AV}(ha:as[i]?=some a)(hb:∀v,Rp c w a v->Rp c w b v):Cz c w (as.set i b) vs:=by
 induction as generalizing vs i with
 | nil=>simp at ha
 | cons x as ih =>
   cases h with
   | cons h1 t =>
     cases i with
     | zero=>simp at ha;subst ha;exact .cons (hb _ h1) t
     | succ i=>exact .cons h1 (ih t (by simpa using ha))
def St.nM{c:Cx}{w:World}{s:AS}(h:St G c w s){id:Nat}{b b2:AL}(hb:look id s.h=some b)(hk:∀o,EY c w b o->EY c w b2 o):St G c w ⟨Qw id b2 s.h,s.nx,s.F,s.nr⟩ :=
 ⟨h.len,Ym h.desc,h.nodup,h.low,λQp g b' h1 h2=>by
   rcases Yn h2 with ⟨rfl,rfl⟩ | ⟨_,h3⟩
   obtain⟨o,ho,uL⟩:=h.box _ g b h1 hb;exact⟨o,ho,hk o uL⟩;exact h.box Qp g b' h1 h3,h.Ip,h.row,h.Ix,h.L0,h.L8,h.Ig,h.Ma,h.PB⟩
def awK{fr fr2:List AV}{s s2:AS}{z:NZ}(h:nz1 fr s z=some (fr2,s2)):Wkn G fr s fr2 s2:=by
 intro cx w vs hs hr;cases z with
 | t k sz =>
   simp only[nz1] at h;split at h;rename_i a ha;split at h;rename_i hn;cases h;obtain⟨x,st⟩:=hs.tok;refine⟨_,x,st,(hr.mono x).anN ha (λv hv=>qU hn hv ?_)⟩;simp[hs.Ip];cases h;cases h
 | b id i sz =>
   simp only[nz1] at h;split at h;rename_i cs hb;split at h;rename_i a ha;split at h;rename_i hn;cases h;obtain⟨x,st⟩:=hs.tok;refine⟨_,x,st.nM (b:=.cells cs) hb (λo ho=>?_),hr.mono x⟩;cases ho with
   | G5 ext h1=>exact .G5 ext (h1.anN ha (λv hv=>qU hn hv (by simp[hs.Ip])))
   cases h;cases h;cases h
 | l k =>
   simp only[nz1] at h;split at h;rename_i a ha;cases h;exact⟨cx,Ext.refl _ _,hs,hr.anN ha (λv hv=>ZP hv)⟩;cases h
 | lb id i =>
   simp only[nz1] at h;split at h;rename_i cs hb;split at h;rename_i a ha;cases h;refine⟨cx,Ext.refl _ _,hs.nM (b:=.cells cs) hb (λo ho=>?_),hr⟩;cases ho with
   | G5 ext h1=>exact .G5 ext (h1.anN ha (λv hv=>ZP hv))
   cases h;cases h
def nB:∀{l:List NZ} {fr fr2:List AV} {s s2:AS},nzs l fr s=some (fr2,s2)->Wkn G fr s fr2 s2:=by
 intro l
 induction l with
 | nil=>intro fr fr2 s s2 h;simp only[nzs] at h;cases h;exact .refl
 | cons z l ih =>
   intro fr fr2 s s2 h;simp only[nzs] at h;split at h;rename_i f1 s1 h1;exact(awK h1).trans (ih h);cases h
end
end AI
namespace AI
open Go Go.RowKit
def eqV:Value->Value->Bool
 | .string a,.string b=>BY a.data.toList b.data.toList
 | .int k a,.int k' b=>(match sameKind k k' with | true=>DV a b | false=>false)
 | a,b=>aiY a b
def atJ{a b:Value}(h:eqV a b=true):a=b:=by
 unfold eqV at h;split at h;rename_i x y;rw[UK,beq_iff_eq] at h;have:x=y:=ByteArray.ext (Array.ext' h);rw[this];split at h;rename_i hk;rw[Q6,beq_iff_eq] at h;rw[VK hk,h];cases h;exact oR h
def aqQ:Own->Own->Bool
 | .full,.full=>true
 | .lost,.lost=>true
 | .nil,.nil=>true
 | .nn,.nn=>true
 | _,_=>false
def aaE{a b:Own}(h:aqQ a b=true):a=b:=by cases a<;>cases b<;>first | rfl | cases h
mutual
def aN:AV->AV->Bool
 | .sc a,.sc b=>eqV a b
 | .agg a,.agg b=>eqL a b
 | .Df a,.Df b=>eqL a b
 | .sl o n a,.sl p m b=>(match aqQ o p with
   | true=>(match Nat.beq n m with | true=>eqL a b | false=>false)
   | false=>false)
 | .ifc t a,.ifc u b=>(match Nat.beq t u with | true=>aN a b | false=>false)
 | _,_=>false
def eqL:List AV->List AV->Bool
 | [],[]=>true
 | a::as,b::bs=>(match aN a b with | true=>eqL as bs | false=>false)
 | _,_=>false
end
mutual
def aaC:∀{a b:AV},aN a b=true->a=b
 | .sc a,b,h=>by
   cases b<;>first
     | (simp only[aN] at h;rw[atJ h])
     | (simp[aN] at h;done)
 | .agg a,b,h=>by
   cases b<;>first
     | (simp only[aN] at h;rw[aO h])
     | (simp[aN] at h;done)
 | .Df a,b,h=>by
   cases b<;>first
     | (simp only[aN] at h;rw[aO h])
     | (simp[aN] at h;done)
 | .sl o n a,b,h=>by
   cases b<;>first
     | (simp only[aN] at h
        split at h;rename_i h1;split at h;rename_i h2;rw[aaE h1,beq_true h2,aO h];cases h;cases h)
     | (simp[aN] at h;done)
 | .ifc t a,b,h=>by
   cases b<;>first
     | (simp only[aN] at h
        split at h;rename_i h1;rw[beq_true h1,aaC h];cases h)
     | (simp[aN] at h;done)
 | .msl _ _ _,b,h=>by simp[aN] at h
 | .el _,b,h=>by simp[aN] at h
 | .ptr _ _,b,h=>by simp[aN] at h
 | .fn _ _ _,b,h=>by simp[aN] at h
 | .mp _,b,h=>by simp[aN] at h
 | .any,b,h=>by simp[aN] at h
def aO:∀{a b:List AV},eqL a b=true->a=b
 | [],b,h=>by cases b<;>first | rfl | (simp[eqL] at h;done)
 | a::as,b,h=>by
   cases b<;>first
     | (simp[eqL] at h;done)
     | (simp only[eqL] at h
        split at h;rename_i h1;rw[aaC h1,aO h];cases h)
end
structure Ent where
 f:Nat
 args:List AV
 box:Option (List AV×List AV)
 v:AV
def xO(P:Program)(G:A6)(e:Ent):Prop:=match e.box with
 | none=>∀s,Sound P G (.call e.f e.args s (.ret e.v) s)
 | some (cs,cs')=>∀s id,s.get id=some (.cells cs)->Sound P G (.call e.f (.ptr id 0::e.args) s (.ret e.v) (s.put id (.cells cs')))
def aKO.cons{P:Program}{G:A6}{e:Ent}{l:List Ent}(he:xO P G e)(hl:∀e∈l,xO P G e):∀e'∈e::l,xO P G e':=λe' h=>by
 rcases List.mem_cons.1 h with h | h
 rw[h];exact he;exact hl e' h
end AI
namespace AI
open Go Go.RowKit
inductive Hn where
 | k
 | b (b:Bool)
 | i (z:Int)
 | w (v:AV)
 | a (v:AV) (s:AS)
 | ae (v:AV)
 | af (v:AV)
 | m (s:AS)
 | l (v:AV)
 | s (s:AS)
 | c (v:AV) (s:AS)
 | o (v:AV)
 | z (c:Nat)
 | p (v:AV) (s:AS)
 | g (sz k:Nat) (cs:List AV)
 | u (v:AV) (pre:List (Nat×AL)) (tp:List (Nat×Nat)) (Qf:List (Nat×AL)) (tu:List (Nat×Nat))
 | q (v:AV) (pre:List (Nat×AL)) (tp:List (Nat×Nat)) (Qf:List (Nat×AL)) (tu:List (Nat×Nat))
 | n (l:List NZ)
 | x (b:AL) (v:AV)
 | y (b b2:AL)
 | lb (m:AL) (v:AV)
 | sb (m m2:AL)
 | mb (n:Nat) (m:AL)
 | za
 | zq (c:Nat)
 | cn (v:AV) (h:List (Nat×AL)) (dn:Nat) (F:List (Nat×Nat)) (dr:Nat)
 | f (id:Nat) (b b2:AL)
inductive Cd where
 | eqb (B b:Bool)
 | eqi (X z:Int)
 | idx (t:TypeId) (a b v:AV)
 | bin (op:BinOp) (t:TypeId) (x y:Operand) (a b v:AV)
 | call (f:FuncId) (args:List AV) (s:AS) (v:AV)
 | Tx (s:AS) (t tx:TypeId) (a b v:AV) (s1:AS)
 | ix (t:TypeId) (a b v:AV)
 | lk (s:AS) (t:TypeId) (a b:AV) (ok:Bool) (v:AV)
 | ms (s:AS) (t:TypeId) (a b v:AV) (s1:AS)
 | aqN (f:FuncId) (args:List AV) (s:AS) (v:AV) (s1:AS)
 | ld (s:AS) (t:TypeId) (a v:AV)
 | st (s:AS) (t:TypeId) (a x:AV) (s1:AS)
 | mk (s:AS) (t:TypeId) (a b v:AV) (s1:AS)
 | sli (t:TypeId) (a:AV) (l h m:Option AV) (v:AV)
 | aqM (f:FuncId) (args:List AV) (s:AS) (v:AV) (s1:AS)
 | pur (f:FuncId) (args:List AV) (v:AV)
 | Zg (t tx:TypeId) (own:Own) (n:Nat) (cs:List AV) (b:AV) (sz k:Nat) (cs2:List AV)
 | eqn (k n:Nat)
 | EM (f:FuncId) (args:List AV) (r:CR) (pre:List (Nat×AL)) (tp:List (Nat×Nat)) (Qf:List (Nat×AL)) (tu:List (Nat×Nat))
 | oZ (a b:List (Option AL)) (c d:List (Option Nat))
 | lkB (b:AL) (t:TypeId) (k:AV) (ok:Bool) (v:AV)
 | msB (b:AL) (t:TypeId) (k v:AV) (b2:AL)
 | ldB (b:AL) (t:TypeId) (off:Nat) (v:AV)
 | stB (b:AL) (t:TypeId) (off:Nat) (x:AV) (b2:AL)
 | mkB (t:TypeId) (a x:AV) (n:Nat) (m:AL)
 | apB (t tx:TypeId) (a b:AV) (n:Nat) (m:AL)
 | Y9 (f:FuncId) (args:List AV) (nx nr:Nat) (v:AV) (h:List (Nat×AL)) (dn:Nat) (F:List (Nat×Nat)) (dr:Nat)
 | rd (nr:Nat) (b b2:AL)
 | cv (t t2:TypeId) (a v:AV)
 | apf (t tx:TypeId) (a b v:AV)
def AS.Vd(s:AS):List (Nat×AL)->AS
 | []=>s
 | e::l=>(s.put e.1 e.2).Vd l
def AS.Sr(s:AS):List (Nat×Nat)->AS
 | []=>s
 | e::l=>(AS.mk s.h s.nx (vW e.1 e.2 s.F) s.nr).Sr l
def Xj(s:AS):List (Nat×AL)->List (Option AL)
 | []=>[]
 | e::l=>s.get e.1::Xj s l
def NP:List (Nat×AL)->List (Option AL)
 | []=>[]
 | e::l=>some e.2::NP l
def Ze(F:List (Nat×Nat)):List (Nat×Nat)->List (Option Nat)
 | []=>[]
 | e::l=>DW e.1 F::Ze F l
def Om:List (Nat×Nat)->List (Option Nat)
 | []=>[]
 | e::l=>some e.2::Om l
def Cd.ok(P:Program)(G:A6):Cd->Prop
 | .eqb B b=>B=b
 | .eqi X z=>X=z
 | .idx t a b v=>C7 P t a b=some v
 | .bin op t x y a b v=>L7 P op t x y a b=some v
 | .call f args s v=>Sound P G (.call f args s (.ret v) s)
 | .Tx s t tx a b v s1=>∃v0,Ky P s t tx a b=some (v0,s1)/\∀c w u,Rp c w v0 u->Rp c w v u
 | .ix t a b v=>K9 P t a b=some v
 | .lk s t a b ok v=>IK P s t a b ok=some v
 | .ms s t a b v s1=>JZ P s t a b v=some s1
 | .aqN f args s v s1=>Sound P G (.call f args s (.ret v) s1)
 | .ld s t a v=>I4 P s t a=some v
 | .st s t a x s1=>J9 P s t a x=some s1
 | .mk s t a b v s1=>I5 P s t a b=some (v,s1)
 | .sli t a l h m v=>M1 P t a l h m=some v
 | .aqM f args s v s1=>Sound P G (.call f args s (.pan v) s1)
 | .pur f args v=>∀s,Sound P G (.call f args s (.ret v) s)
 | .Zg t tx own n cs b sz k cs2=>∀s:AS,Nn sz s.F n own=true->∃cs0,Ky P s t tx (.sl own n cs) b=some (.sl (arP s sz own) k cs0,s.to k own)/\∀c w u o,Rp c w (.sl o k cs0) u->Rp c w (.sl o k cs2) u
 | .eqn k n=>k=n
 | .EM f args r pre tp Qf tu=>∀s:AS,Xj s pre=NP pre->Ze s.F tp=Om tp->Sound P G (.call f args s r ((s.Vd Qf).Sr tu))
 | .oZ a b c d=>a=b/\c=d
 | .lkB b t k ok v=>∀(s:AS) (id:Nat),s.get id=some b->IK P s t (.mp id) k ok=some v
 | .msB b t k v b2=>∀(s:AS) (id:Nat),s.get id=some b->JZ P s t (.mp id) k v=some (s.put id b2)
 | .ldB b t off v=>∀(s:AS) (id:Nat),s.get id=some b->I4 P s t (.ptr id off)=some v
 | .stB b t off x b2=>∀(s:AS) (id:Nat),s.get id=some b->J9 P s t (.ptr id off) x=some (s.put id b2)
 | .mkB t a x n m=>∀s:AS,∃m0,I5 P s t a x=some (.msl s.nx 0 n,s.new m0)/\∀(cx:Cx) (w:World) (o:Obj),EY cx w m0 o->EY cx w m o
 | .apB t tx a b n m=>∀s:AS,asL P G t tx a b s (.msl s.nx 0 n) (s.new m)
 | .Y9 f args nx nr v h dn F dr=>∀s:AS,s.nx=nx->s.nr=nr->Sound P G (.call f args s (.ret v) ⟨h++s.h,s.nx+dn,F++s.F,s.nr+dr⟩)
 | .apf t tx a b v=>∀s:AS,∃v0,Ky P s t tx a b=some (v0,s)/\∀c w u,Rp c w v0 u->Rp c w v u
 | .cv t t2 a v=>Vl P t t2 a=some v
 | .rd nr b b2=>∀(cx:Cx) (w:World) (o:Obj),nr < cx.rows.length->EY cx w b o->EY cx w b2 o
def QB(P:Program)(G:A6):List Cd->Prop
 | []=>True
 | c::l=>c.ok P G/\QB P G l
def QB.Tx{P:Program}{G:A6}{l m:List Cd}(h:QB P G (l++m)):QB P G l/\QB P G m:=by
 induction l with
 | nil=>exact⟨trivial,h⟩
 | cons c l ih=>exact⟨⟨h.1,(ih h.2).1⟩,(ih h.2).2⟩
abbrev HO:=Option (AV×AS×List Hn×List Cd)
def KE(s1:Option AR)(hs:List Hn):HO:=match s1 with
 | some (.val v s)=>some (v,s,hs,[])
 | _=>none
def azR(P:Program)(op:BinOp)(t:TypeId)(x y:Operand)(a b:AV)(s:AS):List Hn->HO
 | .k::hs=>(match WK P op t x y a b with
   | some v=>some (v,s,hs,[])
   | none=>none)
 | .b c::hs=>(match WK P op t x y a b with
   | some (.sc (.bool B))=>some (.sc (.bool c),s,hs,[.eqb B c])
   | _=>none)
 | .i z::hs=>(match WK P op t x y a b with
   | some (.sc (.int k X))=>some (.sc (.int k z),s,hs,[.eqi X z])
   | _=>none)
 | .w v::hs=>some (v,s,hs,[.bin op t x y a b v])
 | _=>none
def azU(P:Program)(t:TypeId)(a b:AV)(s:AS):List Hn->HO
 | .k::hs=>(match C7 P t a b with
   | some v=>some (v,s,hs,[])
   | none=>none)
 | .w v::hs=>some (v,s,hs,[.idx t a b v])
 | _=>none
def Xm(s:AS)(r:Option AR):List Hn->HO
 | .w v::hs=>(match r with
   | some (.ent f args)=>some (v,s,hs,[.pur f args v])
   | _=>none)
 | .a v s1::hs=>(match r with
   | some (.ent f args)=>some (v,s1,hs,[.aqN f args s v s1])
   | _=>none)
 | .u v pre tp Qf tu::hs=>(match r with
   | some (.ent f args)=>some (v,(s.Vd Qf).Sr tu,hs,[.EM f args (.ret v) pre tp Qf tu,.oZ (Xj s pre) (NP pre) (Ze s.F tp) (Om tp)])
   | _=>none)
 | .cn v h dn F dr::hs=>(match r with
   | some (.ent f args)=>some (v,⟨h++s.h,s.nx+dn,F++s.F,s.nr+dr⟩,hs,[.Y9 f args s.nx s.nr v h dn F dr])
   | _=>none)
 | _=>none
def aaW(s:AS)(t tx:TypeId)(a b:AV):List Hn->HO
 | .mb n m::hs=>some (.msl s.nx 0 n,s.new m,hs,[.apB t tx a b n m])
 | .a v s1::hs=>some (v,s1,hs,[.Tx s t tx a b v s1])
 | .ae v::hs=>some (v,s,hs,[.Tx s t tx a b v s])
 | .af v::hs=>some (v,s,hs,[.apf t tx a b v])
 | .g sz k cs2::hs=>(match a with
   | .sl .full n cs=>some (.sl (.row s.nr sz) k cs2,s.add k,hs,[.Zg t tx .full n cs b sz k cs2])
   | .sl (.row r z) n cs=>(match DW r s.F with
     | some m=>(match Nat.beq z sz with
       | true=>some (.sl (.row r sz) k cs2,s.grow r k,hs,[.Zg t tx (.row r z) n cs b sz k cs2,.eqn m n])
       | false=>none)
     | none=>none)
   | _=>none)
 | _=>none
def azV(P:Program)(t:TypeId)(a b:AV)(s:AS):List Hn->HO
 | .k::hs=>(match K9 P t a b with
   | some v=>some (v,s,hs,[])
   | none=>none)
 | .w v::hs=>some (v,s,hs,[.ix t a b v])
 | _=>none
def aqU(t:TypeId)(a b:AV)(ok:Bool)(s:AS):List Hn->HO
 | .w v::hs=>some (v,s,hs,[.lk s t a b ok v])
 | .x m v::hs=>(match a with
   | .mp id=>some (v,s,hs,[.lkB m t b ok v,.oZ [s.get id] [some m] [] []])
   | _=>none)
 | _=>none
def auA(t:TypeId)(a b v:AV)(s:AS):List Hn->HO
 | .m s1::hs=>some (.sc undef,s1,hs,[.ms s t a b v s1])
 | .y m m2::hs=>(match a with
   | .mp id=>some (.sc undef,s.put id m2,hs,[.msB m t b v m2,.oZ [s.get id] [some m] [] []])
   | _=>none)
 | _=>none
def aaZ(t:TypeId)(a:Option AV)(s:AS)(r:Option AR):List Hn->HO
 | .l v::hs=>(match a with
   | some a=>some (v,s,hs,[.ld s t a v])
   | none=>none)
 | .lb m v::hs=>(match a with
   | some (.ptr id off)=>some (v,s,hs,[.ldB m t off v,.oZ [s.get id] [some m] [] []])
   | _=>none)
 | hs=>KE r hs
def lS(t:TypeId)(a x:Option AV)(s:AS)(r:Option AR):List Hn->HO
 | .s s1::hs=>(match a,x with
   | some a,some x=>some (.sc undef,s1,hs,[.st s t a x s1])
   | _,_=>none)
 | .sb m m2::hs=>(match a,x with
   | some (.ptr id off),some x=>some (.sc undef,s.put id m2,hs,[.stB m t off x m2,.oZ [s.get id] [some m] [] []])
   | _,_=>none)
 | hs=>KE r hs
def abB(t:TypeId)(a x:Option AV)(s:AS)(r:Option AR):List Hn->HO
 | .c v s1::hs=>(match a,x with
   | some a,some x=>some (v,s1,hs,[.mk s t a x v s1])
   | _,_=>none)
 | .mb n m::hs=>(match a,x with
   | some a,some x=>some (.msl s.nx 0 n,s.new m,hs,[.mkB t a x n m])
   | _,_=>none)
 | hs=>KE r hs
def auB(t:TypeId)(a:Option AV)(l h m:Option (Option AV))(s:AS)(r:Option AR):List Hn->HO
 | .o v::hs=>(match a,l,h,m with
   | some a,some l,some h,some m=>some (v,s,hs,[.sli t a l h m v])
   | _,_,_,_=>none)
 | hs=>KE r hs
def aqS(P:Program)(t t2:TypeId)(a:AV)(s:AS):List Hn->HO
 | .w v::hs=>some (v,s,hs,[.cv t t2 a v])
 | hs=>(match Vl P t t2 a with
   | some v=>some (v,s,hs,[])
   | none=>none)
def uF(P:Program)(G:A6)(fr:List AV)(s:AS)(o:Oper)(hs:List Hn):HO :=
 match o.op with
 | .binOp op t x y _=>(match AW G fr x with
   | some a=>(match AW G fr y with
     | some b=>azR P op t x y a b s hs
     | none=>none)
   | none=>none)
 | .indexAddr t x i=>(match AW G fr x with
   | some a=>(match AW G fr i with
     | some b=>azU P t a b s hs
     | none=>none)
   | none=>none)
 | .index t x i=>(match AW G fr x with
   | some a=>(match AW G fr i with
     | some b=>azV P t a b s hs
     | none=>none)
   | none=>none)
 | .convert t t2 x=>(match AW G fr x with
   | some (.sl o n cs)=>aqS P t t2 (.sl o n cs) s hs
   | _=>KE (TH P G fr s o) hs)
 | .lookup t x k ok=>(match AW G fr x with
   | some a=>(match AW G fr k with
     | some b=>aqU t a b ok s hs
     | none=>none)
   | none=>none)
 | .mapUpdate t m k x=>(match AW G fr m with
   | some a=>(match AW G fr k with
     | some b=>(match AW G fr x with
       | some v=>auA t a b v s hs
       | none=>none)
     | none=>none)
   | none=>none)
 | .load t x=>aaZ t (A8 G fr x) s (TH P G fr s o) hs
 | .store t x y=>lS t (A8 G fr x) (A8 G fr y) s (TH P G fr s o) hs
 | .makeSlice t x y=>abB t (A8 G fr x) (A8 G fr y) s (TH P G fr s o) hs
 | .slice t x lo hi mx=>auB t (A8 G fr x) (dG G fr lo) (dG G fr hi) (dG G fr mx) s (TH P G fr s o) hs
 | .call cl=>(match cl.callee with
   | .value _=>Xm s (TH P G fr s o) hs
   | .builtin .append=>(match cl.args.toList,cl.argTypes.toList with
     | [x,y],[t,tx]=>(match AW G fr x with
       | some a=>(match AW G fr y with
         | some b=>aaW s t tx a b hs
         | none=>none)
       | none=>none)
     | _,_=>none)
   | _=>KE (TH P G fr s o) hs)
 | _=>KE (TH P G fr s o) hs
def Zj(P:Program)(G:A6)(ops:Array Oper)(fr:List AV)(s:AS)(o:Oper)(hs:List Hn):HO :=
 match Cs ops fr o with
 | true=>uF P G fr s o hs
 | false=>some (.sc undef,s,hs,[])
section
variable {P:Program} {G:A6} {ops:Array Oper}
def UM{r:Option AR}{hs hs':List Hn}{v:AV}{s:AS}{cd:List Cd}(h:KE r hs=some (v,s,hs',cd)):r=some (.val v s):=by
 unfold KE at h;split at h;cases h;rfl;cases h
def abA{t:TypeId}{a:Option AV}{r:Option AR}{hs hs':List Hn}{v:AV}{s s1:AS}{cd:List Cd}(h:aaZ t a s r hs=some (v,s1,hs',cd))(hc:QB P G cd):(∃a',a=some a'/\I4 P s t a'=some v/\s1=s)\/KE r hs=some (v,s1,hs',cd):=by
 unfold aaZ at h;split at h;split at h;cases h;exact .inl ⟨_,rfl,hc.1,rfl⟩;cases h;split at h;cases h;exact .inl ⟨_,rfl,hc.1 _ _ (List.cons.inj hc.2.1.1).1,rfl⟩;cases h;exact .inr h
def UN{t:TypeId}{a x:Option AV}{r:Option AR}{hs hs':List Hn}{v:AV}{s s1:AS}{cd:List Cd}(h:lS t a x s r hs=some (v,s1,hs',cd))(hc:QB P G cd):(∃a' x',a=some a'/\x=some x'/\J9 P s t a' x'=some s1/\v=.sc undef)\/KE r hs=some (v,s1,hs',cd):=by
 unfold lS at h;split at h;split at h;cases h;exact .inl ⟨_,_,rfl,rfl,hc.1,rfl⟩;cases h;split at h;cases h;exact .inl ⟨_,_,rfl,rfl,hc.1 _ _ (List.cons.inj hc.2.1.1).1,rfl⟩;cases h;exact .inr h
def abC{t:TypeId}{a x:Option AV}{r:Option AR}{hs hs':List Hn}{v:AV}{s s1:AS}{cd:List Cd}(h:abB t a x s r hs=some (v,s1,hs',cd))(hc:QB P G cd):(∃a' x',a=some a'/\x=some x'/\∃s0,I5 P s t a' x'=some (v,s0)/\∀cx w,St G cx w s0->St G cx w s1)\/KE r hs=some (v,s1,hs',cd):=by
 unfold abB at h;split at h;split at h;cases h;exact .inl ⟨_,_,rfl,rfl,_,hc.1,λ_ _ h=>h⟩;cases h;split at h;cases h;obtain⟨m0,h1,h2⟩:=hc.1 s;refine .inl ⟨_,_,rfl,rfl,_,h1,λcx w hs=>?_⟩;have:=hs.nM (id:=s.nx) (b:=m0) (b2:=_) (by simp[AS.new,look]) (λo ho=>h2 cx w o ho);simpa[AS.new,Qw] using this
 cases h;exact .inr h
def akF{t:TypeId}{a:Option AV}{l k m:Option (Option AV)}{r:Option AR}{hs hs':List Hn}{v:AV}{s s1:AS}{cd:List Cd}(h:auB t a l k m s r hs=some (v,s1,hs',cd))(hc:QB P G cd):(∃a' l' k' m',a=some a'/\l=some l'/\k=some k'/\m=some m'/\M1 P t a' l' k' m'=some v/\s1=s)\/KE r hs=some (v,s1,hs',cd):=by
 unfold auB at h;split at h;split at h;cases h;exact .inl ⟨_,_,_,_,rfl,rfl,rfl,rfl,hc.1,rfl⟩;cases h;exact .inr h
def atZ{fr:List AV}{s s1:AS}{o:Oper}{hs hs':List Hn}{v:AV}{cd:List Cd}(hw:Cs ops fr o=true)(h:uF P G fr s o hs=some (v,s1,hs',cd))(hc:QB P G cd):J P G (XS P G) H0 (.op ops o fr s (.ret v) s1):=by
 have S7:KE (TH P G fr s o) hs=some (v,s1,hs',cd)->J P G (XS P G) H0 (.op ops o fr s (.ret v) s1):=λh=>by
   have:=UM h;rw[Mx] at this;exact .No hw this
 unfold uF at h;split at h;rename_i op t x y z ho;rw[Cn,Cn] at h;split at h;rename_i a ha;split at h;rename_i b hb
 have fin:∀v',L7 P op t x y a b=some v'->s1=s->v=v'->J P G (XS P G) H0 (.op ops o fr s (.ret v) s1):=by
   intro v' h1 h2 h3;subst h2 h3;refine .No hw ?_;unfold Pz;rw[ho];simp only[ha,hb,h1,Option.map_some]
 unfold azR at h;rw[TG] at h;split at h;split at h;rename_i h1;cases h;exact fin _ h1 rfl rfl;cases h;split at h;rename_i h1;cases h;have e:_=_:=hc.1;subst e;exact fin _ h1 rfl rfl;cases h;split at h;rename_i h1;cases h;have e:_=_:=hc.1;subst e;exact fin _ h1 rfl rfl;cases h;cases h;exact fin _ hc.1 rfl rfl;cases h;cases h;cases h;rename_i t x i ho;rw[Cn,Cn] at h;split at h;rename_i a ha;split at h;rename_i b hb
 have fin:∀v',C7 P t a b=some v'->s1=s->v=v'->J P G (XS P G) H0 (.op ops o fr s (.ret v) s1):=by
   intro v' h1 h2 h3;subst h2 h3;refine .No hw ?_;unfold Pz;rw[ho];simp only[ha,hb,h1,Option.map_some]
 unfold azU at h;split at h;split at h;rename_i h1;cases h;exact fin _ h1 rfl rfl;cases h;cases h;exact fin _ hc.1 rfl rfl;cases h;cases h;cases h;rename_i t x i ho;rw[Cn,Cn] at h;split at h;rename_i a ha;split at h;rename_i b hb
 have fin:∀v',K9 P t a b=some v'->s1=s->v=v'->J P G (XS P G) H0 (.op ops o fr s (.ret v) s1):=by
   intro v' h1 h2 h3;subst h2 h3;refine .No hw ?_;unfold Pz;rw[ho];simp only[ha,hb,h1,Option.map_some]
 unfold azV at h;split at h;split at h;rename_i h1;cases h;exact fin _ h1 rfl rfl;cases h;cases h;exact fin _ hc.1 rfl rfl;cases h;cases h;cases h;rename_i t t2 x ho;rw[Cn] at h;split at h;rename_i ow n cs ha
 have fin:∀v',Vl P t t2 (.sl ow n cs)=some v'->s1=s->v=v'->J P G (XS P G) H0 (.op ops o fr s (.ret v) s1):=by
   intro v' h1 h2 h3;subst h2 h3;refine .No hw ?_;unfold Pz;rw[ho];simp only[ha,Option.bind_some,h1,Option.map_some]
 unfold aqS at h;split at h;cases h;exact fin _ hc.1 rfl rfl;split at h;rename_i h1;cases h;exact fin _ h1 rfl rfl;cases h;exact S7 h;rename_i t x k ok ho;rw[Cn,Cn] at h;split at h;rename_i a ha;split at h;rename_i b hb
 have h1:IK P s t a b ok=some v/\s1=s:=by
   unfold aqU at h;split at h;cases h;exact⟨hc.1,rfl⟩;split at h;cases h;refine⟨hc.1 _ _ ?_,rfl⟩;have h2:=hc.2.1.1;simpa using h2
   cases h;cases h
 obtain⟨h1,rfl⟩:=h1;refine .No hw ?_;unfold Pz;rw[ho];simp only[ha,hb,h1,Option.map_some];cases h;cases h;rename_i t m k x ho;rw[Cn,Cn,Cn] at h;split at h;rename_i a ha;split at h;rename_i b hb;split at h;rename_i x' hx
 have h1:JZ P s t a b x'=some s1/\v=.sc undef:=by
   unfold auA at h;split at h;cases h;exact⟨hc.1,rfl⟩;split at h;cases h;refine⟨hc.1 _ _ ?_,rfl⟩;have h2:=hc.2.1.1;simpa using h2
   cases h;cases h
 obtain⟨h1,rfl⟩:=h1;refine .No hw ?_;unfold Pz;rw[ho];simp only[ha,hb,hx,h1,Option.map_some];cases h;cases h;cases h;rename_i t x ho;rcases abA h hc with ⟨a,ha,h1,rfl⟩ | h1
 refine .No hw ?_;unfold Pz;rw[ho];simp only[ha,Option.bind_some,h1,Option.map_some];exact S7 h1;rename_i t x y ho;rcases UN h hc with ⟨a,b,ha,hb,h1,rfl⟩ | h1
 refine .No hw ?_;unfold Pz;rw[ho];simp only[ha,hb,h1,Option.map_some];exact S7 h1;rename_i t x y ho;rcases abC h hc with ⟨a,b,ha,hb,s0,h1,h2⟩ | h1
 refine .bP ?_ (.No (s':=s0) hw ?_) h2;simp only[quiet,ho];unfold Pz;rw[ho];simp only[ha,hb,h1,Option.map_some];exact S7 h1;rename_i t x lo hi mx ho;rcases akF h hc with ⟨a,l,k,m,ha,hl,hk,hm,h1,rfl⟩ | h1
 refine .No hw ?_;unfold Pz;rw[ho];simp only[ha,hl,hk,hm,h1,Option.map_some];exact S7 h1;rename_i cl ho;split at h;unfold Xm at h;split at h;split at h;rename_i h1;cases h;rw[Mx] at h1;exact .Rh hw h1 (.ext (hc.1 s));cases h;split at h;rename_i h1;cases h;rw[Mx] at h1;exact .Rh hw h1 (.ext hc.1);cases h;split at h;rename_i h1;cases h;rw[Mx] at h1;exact .Rh hw h1 (.ext (hc.1 s hc.2.1.1 hc.2.1.2));cases h;split at h;rename_i h1;cases h;rw[Mx] at h1;exact .Rh hw h1 (.ext (hc.1 s rfl rfl));cases h;cases h;rename_i H8;split at h;rename_i x y t tx hxs DN;rw[Cn,Cn] at h;split at h;rename_i a ha;split at h;rename_i b hb
 have fin:∀v0,Ky P s t tx a b=some (v0,s1)->(∀c w u,Rp c w v0 u->Rp c w v u)->J P G (XS P G) H0 (.op ops o fr s (.ret v) s1):=by
   intro v0 h1 h2;refine .nG (v:=v0) ?_ (.No hw ?_) h2;simp only[quiet,ho,H8];unfold Pz;rw[ho];simp only[Se,H8,hxs,DN,ha,hb,h1,Option.map_some]
 unfold aaW at h;split at h;cases h;exact .adS hw ho H8 hxs DN ha hb (hc.1 s);cases h;obtain⟨v0,h1,h2⟩:=hc.1;exact fin v0 h1 h2;cases h;obtain⟨v0,h1,h2⟩:=hc.1;exact fin v0 h1 h2;cases h;obtain⟨v0,h1,h2⟩:=hc.1 s;exact fin v0 h1 h2;split at h;cases h;obtain⟨cs0,h1,h2⟩:=hc.1 s rfl;exact fin _ h1 (λc w u=>h2 c w u _);rename_i r z n cs;split at h;rename_i m hm;split at h;rename_i hz;have hz:=beq_true hz;subst hz;cases h;have e:m=n:=hc.2.1;subst e;obtain⟨cs0,h1,h2⟩:=hc.1 s (by simp[Nn,hm]);exact fin _ h1 (λc w u=>h2 c w u _);cases h;cases h;cases h;cases h;cases h;cases h;cases h;exact S7 h;exact S7 h
def OB{fr:List AV}{s s1:AS}{o:Oper}{hs hs':List Hn}{v:AV}{cd:List Cd}(h:Zj P G ops fr s o hs=some (v,s1,hs',cd))(hc:QB P G cd):J P G (XS P G) H0 (.op ops o fr s (.ret v) s1):=by
 unfold Zj at h;split at h;rename_i hw;exact atZ hw h hc;rename_i hw;cases h;exact .nF hw
end
end AI
