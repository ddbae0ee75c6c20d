/- Part of a proof: see the last text. -/
import Derived.Test.YtpbkhogolfegfaaGreatDoorPid
import Derived.LoopN
set_option linter.unusedVariables false
set_option linter.unusedSimpArgs false
set_option linter.defProp false
noncomputable section
namespace AI
open Go Go.RowKit
inductive AX where
 | normal
 | exit (id:Nat)
 | ret
 | pan (v:AV)
inductive CR where
 | ret (v:AV)
 | pan (v:AV)
def CC(ops:Array Oper)(fr:List AV)(o:Oper):Bool:=match o.guard with
 | none=>true
 | some (j,want)=>match (ops[j]?).bind (·.dst) with
   | some d=>match fr[d]? with
     | some (.sc (.bool b))=>b == want
     | _=>false
   | none=>false
def EZ(id:Nat):AX->AX
 | .exit Rq=>if Rq=id then .normal else .exit Rq
 | e=>e
def UB(P:Program)(s:AS)(fr:List AV):ResultVar->Option AV
 | .tmp t=>some (fr.getD t (.sc undef))
 | .cell t ty=>KY P s ty (fr.getD t (.sc undef))
def PR(P:Program)(s:AS)(fr:List AV):List ResultVar->Option (List AV)
 | []=>some []
 | r::rs=>match UB P s fr r,PR P s fr rs with
   | some a,some as=>some (a::as)
   | _,_=>none
def JF(P:Program)(s:AS)(fn:Func)(fr:List AV):Option AV:=match PR P s fr fn.results.toList with
 | some [a]=>some a
 | some as=>some (.CZ as)
 | none=>none
inductive Jd where
 | code (c:Code) (fr:List AV) (s:AS) (e:AX) (fr':List AV) (s':AS)
 | loop (c:Code) (fr:List AV) (s:AS) (e:AX) (fr':List AV) (s':AS)
 | ops (ops:Array Oper) (l:List Nat) (fr:List AV) (s:AS) (e:AX) (fr':List AV) (s':AS)
 | op (ops:Array Oper) (o:Oper) (fr:List AV) (s:AS) (r:CR) (s':AS)
 | call (f:FuncId) (args:List AV) (s:AS) (r:CR) (s':AS)
def Cl(ops:Array Oper)(i:Nat):Option Tmp:=(ops[i]?).bind (·.dst)
def YN(ops:Array Oper)(i:Nat):Prop:=∃o,ops[i]?=some o/\calm o.op=false
def Win(ops:Array Oper)(i k:Nat):Prop:=(∀l,YN ops l->SK (Ik ops.toList []) i l=true->l < k)/\(∀l,YN ops l->SK (Ik ops.toList []) l i=true->k<=l)
abbrev WR:=FuncId->List AV->AS->CR->AS->Prop
abbrev Ty:=FuncId->List AV->Option (FuncId×List AV×(CR->Option CR))
def aAQ(P:Program)(G:Bc)(t tx:TypeId)(a b:AV)(s:AS)(v:AV)(s':AS):Prop:=∀(c:Cx) (w:World) (va vb:Value) (ty:TypeId),St G c w s->Rp c w a va->Rp c w b vb ->
 ∃u w' c',(Builtin.append_ #[t,tx] ty #[va,vb]).run P w=.ok u w'/\Ext c w c' w'/\St G c' w' s'/\Rp c' w' v u
def aHG(G:Bc)(c:Cx)(w:World)(r:CR)(s':AS)(e:Ending)(w':World):Prop :=
 ∃c',Ext c w c' w'/\St G c' w' s'/\match r with
   | .ret v=>∃u,e=.returned u/\Rp c' w' v u
   | .pan v=>∃u,e=.panicked [{ v:=u,recovered:=false }]/\Rp c' w' v u
def Te(G:Bc)(c:Cx)(w:World)(e:AX)(fr':List AV)(s':AS)(e':Exit)(a':Act)(w':World):Prop :=
 ∃c',Ext c w c' w'/\St G c' w' s'/\a'.defers=[]/\match e with
   | .normal=>e'=.normal/\CU c' w' fr' a'.tmps.toList
   | .exit id=>e'=.exit id/\CU c' w' fr' a'.tmps.toList
   | .ret=>e'=.ret/\CU c' w' fr' a'.tmps.toList
   | .pan v=>∃u,e'=.panic [{ v:=u,recovered:=false }]/\Rp c' w' v u
def Te.ext{G:Bc}{c c1:Cx}{w w1:World}{e:AX}{fr':List AV}{s':AS}{e':Exit}{a':Act}{w':World}(x:Ext c w c1 w1)(h:Te G c1 w1 e fr' s' e' a' w'):Te G c w e fr' s' e' a' w':=by
 obtain⟨c',h1,h2⟩:=h;exact⟨c',x.trans h1,h2⟩
def OG(P:Program)(ops:Array Oper)(o:Oper)(K:Act->World->Prop)(Q:Exit->Act->World->Prop)(a:Act)(w:World):Prop :=
 if Region.wanted o (yielded ops a.tmps) then o.wp P a w K Q else K (a.put o.dst undef) w
def Sound(P:Program)(G:Bc):Jd->Prop
 | .code c fr s e fr' s'=>∀(cx:Cx) (w:World) (a:Act) (Q:Exit->Act->World->Prop),St G cx w s->CU cx w fr a.tmps.toList->a.defers=[]->(∀e' a' w',Te G cx w e fr' s' e' a' w'->Q e' a' w')->c.wp P Q a w
 | .loop c fr s e fr' s'=>∃n,∀(cx:Cx) (w:World) (a:Act) (Q:Exit->Act->World->Prop),St G cx w s->CU cx w fr a.tmps.toList->a.defers=[]->(∀e' a' w',Te G cx w e fr' s' e' a' w'->Q e' a' w')->Code.rounds P c Q n a w
 | .ops ops l fr s e fr' s'=>∀(cx:Cx) (w:World) (a:Act) (Q:Exit->Act->World->Prop),St G cx w s->CU cx w fr a.tmps.toList->a.defers=[]->(∀e' a' w',Te G cx w e fr' s' e' a' w'->Q e' a' w')->wpOps P ops Q l a w
 | .op ops o fr s r s'=>∀(cx:Cx) (w:World) (a:Act) (K:Act->World->Prop) (Q:Exit->Act->World->Prop),St G cx w s->(∀x∈o.op.operands,ZK G cx w fr a.eval x)->CC ops fr o=Region.wanted o (yielded ops a.tmps) ->
     (match r with
       | .ret v=>∀u w' c',Ext cx w c' w'->St G c' w' s'->Rp c' w' v u->K (a.put o.dst u) w'
       | .pan v=>∀u w' c',Ext cx w c' w'->St G c' w' s'->Rp c' w' v u->Q (.panic [{ v:=u,recovered:=false }]) a w')->OG P ops o K Q a w
 | .call f args s r s'=>∀(cx:Cx) (w:World) (vs:List Value),St G cx w s->CU cx w args vs->Calls P f vs.toArray w (aHG G cx w r s')
inductive J(P:Program)(G:Bc)(X:WR)(H:Ty):Jd->Prop where
 | skip {fr:List AV} {s:AS}:J P G X H (.code .skip fr s .normal fr s)
 | exit {id:Nat} {fr:List AV} {s:AS}:J P G X H (.code (.exit id) fr s (.exit id) fr s)
 | ret {fr:List AV} {s:AS}:J P G X H (.code .ret fr s .ret fr s)
 | seq {x y:Code} {fr Wr fr':List AV} {s s1 s':AS} {e:AX} (h1:J P G X H (.code x fr s .normal Wr s1)) (h2:J P G X H (.code y Wr s1 e fr' s')):J P G X H (.code (.seq x y) fr s e fr' s')
 | qI {x y:Code} {fr fr':List AV} {s s':AS} {e:AX} (h1:J P G X H (.code x fr s e fr' s')) (he:e≠.normal):J P G X H (.code (.seq x y) fr s e fr' s')
 | cond {q:Operand} {x y:Code} {t:Bool} {fr fr':List AV} {s s':AS} {e:AX} (hq:Bg G fr q=some (.sc (.bool t))) (h:J P G X H (.code (if t then x else y) fr s e fr' s')):J P G X H (.code (.cond q x y) fr s e fr' s')
 | block {id:Nat} {c:Code} {fr fr':List AV} {s s':AS} {e:AX} (h:J P G X H (.code c fr s e fr' s')):J P G X H (.code (.block id c) fr s (EZ id e) fr' s')
 | loop {c:Code} {fr fr':List AV} {s s':AS} {e:AX} (h:J P G X H (.loop c fr s e fr' s')):J P G X H (.code (.loop c) fr s e fr' s')
 | loopN {c:Code} {fr Wr fr':List AV} {s s1 s':AS} {e:AX} (h1:J P G X H (.code c fr s .normal Wr s1)) (h2:J P G X H (.loop c Wr s1 e fr' s')):J P G X H (.loop c fr s e fr' s')
 | loopX {c:Code} {fr fr':List AV} {s s':AS} {e:AX} (h1:J P G X H (.code c fr s e fr' s')) (he:e≠.normal):J P G X H (.loop c fr s e fr' s')
 | region {id:Nat} {ops:Array Oper} {fr fr':List AV} {s s':AS} {e:AX} (h:J P G X H (.ops ops (List.range ops.size) fr s e fr' s')):J P G X H (.code (.region id ops false) fr s e fr' s')
 | afH {ops:Array Oper} {fr:List AV} {s:AS}:J P G X H (.ops ops [] fr s .normal fr s)
 | tE {ops:Array Oper} {i:Nat} {l:List Nat} {o:Oper} {v:AV} {fr fr':List AV} {s s1 s':AS} {e:AX} (ho:ops[i]?=some o) (h:J P G X H (.op ops o fr s (.ret v) s1)) (t:J P G X H (.ops ops l (Jw fr o.dst v) s1 e fr' s')):J P G X H (.ops ops (i::l) fr s e fr' s')
 | afI {ops:Array Oper} {i:Nat} {l:List Nat} {o:Oper} {v:AV} {fr:List AV} {s s1:AS} (ho:ops[i]?=some o) (h:J P G X H (.op ops o fr s (.pan v) s1)):J P G X H (.ops ops (i::l) fr s (.pan v) fr s1)
 | Oa {ops:Array Oper} {o:Oper} {fr:List AV} {s s':AS} {v:AV} (hw:CC ops fr o=true) (h:QC P G fr s o=some (.val v s')):J P G X H (.op ops o fr s (.ret v) s')
 | pN {ops:Array Oper} {o:Oper} {fr:List AV} {s s':AS} {v v2:AV} (hq:quiet o.op=false) (h:J P G X H (.op ops o fr s (.ret v) s')) (hv:∀cx w u,Rp cx w v u->Rp cx w v2 u):J P G X H (.op ops o fr s (.ret v2) s')
 | eU {ops:Array Oper} {o:Oper} {fr:List AV} {s s1 s2:AS} {v:AV} (hq:quiet o.op=false) (h:J P G X H (.op ops o fr s (.ret v) s1)) (hs:∀cx w,St G cx w s1->St G cx w s2):J P G X H (.op ops o fr s (.ret v) s2)
 | afG {ops:Array Oper} {o:Oper} {fr:List AV} {s s':AS} {cl:Call} {x y:Operand} {t tx:TypeId} {a b v:AV} (hw:CC ops fr o=true) (ho:o.op=.call cl) (H9:cl.callee=.builtin .append) (hx:cl.args.toList=[x,y]) (ht:cl.argTypes.toList=[t,tx]) (ha:Bg G fr x=some a) (hb:Bg G fr y=some b) (h:aAQ P G t tx a b s v s'):J P G X H (.op ops o fr s (.ret v) s')
 | pM {ops:Array Oper} {o:Oper} {fr:List AV} {s:AS} (hw:CC ops fr o=false):J P G X H (.op ops o fr s (.ret (.sc undef)) s)
 | Sj {ops:Array Oper} {o:Oper} {fr:List AV} {s s':AS} {f:FuncId} {args:List AV} {r:CR} (hw:CC ops fr o=true) (h:QC P G fr s o=some (.ent f args)) (hc:J P G X H (.call f args s r s')):J P G X H (.op ops o fr s r s')
 | atK {ops:Array Oper} {o:Oper} {fr:List AV} {s:AS} {v:AV} (hw:CC ops fr o=true) (h:QC P G fr s o=some (.pan v)):J P G X H (.op ops o fr s (.pan v) s)
 | draw {id:Nat} {ops:Array Oper} {f0:List AV} {s0:AS} (rs:List Bl) (vals:Nat->AV) (Nk:Nat->AS) (h0:Nk 0=s0.hold rs) (Hx:MJ ops=true)
     (hl:∀i o,ops[i]?=some o->calm o.op=false->J P G X H (.op ops o (IA f0 (Cl ops) vals (λ_=>true) i) (Nk i) (.ret (vals i)) (Nk (i+1))))
     (hq:∀i o,ops[i]?=some o->quiet o.op=true->Nk (i+1)=Nk i/\((CC ops (IA f0 (Cl ops) vals (λ_=>true) i) o=false/\vals i=.sc undef)\/(CC ops (IA f0 (Cl ops) vals (λ_=>true) i) o=true/\∀k,k<=ops.size->Win ops i k->QC P G (IA f0 (Cl ops) vals (λ_=>true) i) (Nk k) o=some (.val (vals i) (Nk k)))))
     (ha:∀i o e,ops[i]?=some o->o.op=.alloc e->Nk (i+1)=Nk i/\((CC ops (IA f0 (Cl ops) vals (λ_=>true) i) o=false/\vals i=.sc undef)\/(CC ops (IA f0 (Cl ops) vals (λ_=>true) i) o=true/\∃z,ME P e=some z/\rk ops i < rs.length/\vals i=.ptr (s0.nx+rk ops i) 0/\∀k,k<=ops.size->Win ops i k->(Nk k).get (s0.nx+rk ops i)=some (.cells (cellsOf z))))) :
     J P G X H (.code (.region id ops true) f0 s0 .normal (IA f0 (Cl ops) vals (λ_=>true) ops.size) (Nk ops.size))
 | body {f:FuncId} {fn:Func} {c:Code} {args fr':List AV} {s s' s2:AS} {e:AX} {v:AV} (hf:P.funcs[f]?=some fn) (hb:fn.body=some c) (h:J P G X H (.code c (args++List.replicate (fn.ntmps - args.length) (.sc undef)) s e fr' s')) (he:e=.normal\/e=.ret) (hr:JF P s' fn fr'=some v) (hk:s2=s'.cut s.nx\/s2=s'):J P G X H (.call f args s (.ret v) s2)
 | asH {f:FuncId} {fn:Func} {c:Code} {args fr':List AV} {s s':AS} {v:AV} (hf:P.funcs[f]?=some fn) (hb:fn.body=some c) (h:J P G X H (.code c (args++List.replicate (fn.ntmps - args.length) (.sc undef)) s (.pan v) fr' s')):J P G X H (.call f args s (.pan v) (s'.cut s.nx))
 | ext {f:FuncId} {args:List AV} {s s':AS} {r:CR} (h:X f args s r s'):J P G X H (.call f args s r s')
 | Zz {c:Code} {fr fr2 fr':List AV} {s s2 s':AS} {e:AX} (hw:∀cx w vs,St G cx w s->CU cx w fr vs->∃cx2,Ext cx w cx2 w/\St G cx2 w s2/\CU cx2 w fr2 vs) (h:J P G X H (.code c fr2 s2 e fr' s')):J P G X H (.code c fr s e fr' s')
 | auI {c:Code} {fr fr2 fr':List AV} {s s2 s':AS} {e:AX} (hw:∀cx w vs,St G cx w s->CU cx w fr vs->∃cx2,Ext cx w cx2 w/\St G cx2 w s2/\CU cx2 w fr2 vs) (h:J P G X H (.loop c fr2 s2 e fr' s')):J P G X H (.loop c fr s e fr' s')
 | scope {c:Code} {fr fr2 fr':List AV} {s s2 s':AS} {e:AX} (h:J P G X H (.code c fr s e fr' s')) (he:∀v,e≠.pan v) (hs:∀cx w c' w' vs,Ext cx w c' w'->St G cx w s->St G c' w' s'->CU c' w' fr' vs->∃c2,Ext cx w c2 w'/\St G c2 w' s2/\CU c2 w' fr2 vs):J P G X H (.code c fr s e fr2 s2)
 | awN {f g:FuncId} {args Yn:List AV} {k:CR->Option CR} {s s':AS} {r r':CR} (hh:H f args=some (g,Yn,k)) (h:J P G X H (.call g Yn s r s')) (hk:k r=some r'):J P G X H (.call f args s r' s')
 | sem {c:Code} {fr fr':List AV} {s s':AS} {e:AX} (h:P.follows .mixedOrders=true->Sound P G (.code c fr s e fr' s')):J P G X H (.code c fr s e fr' s')
def NU{ops:Array Oper}{fr:List AV}{o:Oper}{c:Cx}{w:World}{tmps:Array Value}(h:∀j want,o.guard=some (j,want)->∀d,(ops[j]?).bind (·.dst)=some d->∃M,CU c w M tmps.toList/\M[d]?=fr[d]?):CC ops fr o=Region.wanted o (yielded ops tmps):=by
 unfold CC Region.wanted;cases hg:o.guard with
 | none=>rfl
 | some p =>
   obtain⟨j,want⟩:=p;simp only;unfold yielded;cases hd:(ops[j]?).bind (·.dst) with
   | none=>simp
   | some d =>
     obtain⟨M,hM,he⟩:=h j want hg d hd;simp only[Option.bind_some];rw[<- he];cases hm:M[d]? with
     | none =>
       have hl:=hM.len;have h1:=List.getElem?_eq_none_iff.1 hm;have h2:tmps[d]?=none:=Array.getElem?_eq_none (by rw[<- Array.length_toList];omega);simp[h2]
     | some b =>
       obtain⟨u,hu,hr⟩:=hM.get hm;rw[Array.getElem?_toList] at hu;rw[hu];cases hr with
       | sc hs=>cases u<;>simp
       | any hs=>cases u<;>first | (simp[Xf] at hs;done) | simp
       | _=>simp
def xN(tmps:Array Value):ResultVar->Sem Value
 | .tmp t=>pure (tmps.getD t undef)
 | .cell a t=>do loadVar t (<- asAddr (tmps.getD a undef))
def T9(fn:Func)(tmps:Array Value):results fn tmps=(do
 let vs <- fn.results.mapM (xN tmps)
 pure (if h:vs.size=1 then vs[0] else .tuple vs)):=by
 unfold results;congr 2
def hO{P:Program}{G:Bc}{c:Cx}{w:World}{s:AS}{fr:List AV}{tmps:Array Value}(hs:St G c w s)(hf:CU c w fr tmps.toList){r:ResultVar}{v:AV}(h:UB P s fr r=some v) :
   ∃u,(xN tmps r).run P w=.ok u w/\Rp c w v u:=by
 have ht:∀t,Rp c w (fr.getD t (.sc undef)) (tmps.getD t undef):=λt=>Gf (G:=G) (s:=s) (a:=⟨tmps,[]⟩) (x:=.tmp t) hs hf rfl;cases r with
 | tmp t=>simp only[UB,Option.some.injEq] at h;subst h;exact⟨_,rfl,ht t⟩
 | cell t ty =>
   obtain⟨u,h1,h2⟩:=gY hs h (ht t);refine⟨u,?_,h2⟩;have hr:=ht t;simp only[Instr.loadAt,Sem.run_bind] at h1;simp only[xN,Sem.run_bind];generalize tmps.getD t undef=x at hr h1;simp only[UB] at h;unfold KY at h;split at h;rename_i OI;rw[OI] at hr;cases hr;simpa[asAddr,Instr.sureAddr] using h1
   rename_i OI;rw[OI] at hr;cases hr;simpa[asAddr,Instr.sureAddr] using h1
   cases h
def hP{P:Program}{G:Bc}{c:Cx}{w:World}{s:AS}{fr:List AV}{tmps:Array Value}(hs:St G c w s)(hf:CU c w fr tmps.toList)(rs:List ResultVar){vs:List AV}(h:PR P s fr rs=some vs) :
   ∃us,(rs.mapM (xN tmps)).run P w=.ok us w/\CU c w vs us:=by
 induction rs generalizing vs with
 | nil=>simp[PR] at h;subst h;exact⟨[],rfl,.nil⟩
 | cons r rs ih =>
   simp only[PR] at h;split at h;rename_i a as h1 h2;cases h;obtain⟨u,hu,hr⟩:=hO hs hf h1;obtain⟨us,hus,hrs⟩:=ih h2;refine⟨u::us,?_,.cons hr hrs⟩;rw[List.mapM_cons];simp only[Sem.run_bind,hu,Result.andThen_ok,hus,Sem.run_pure];cases h
def Wm{P:Program}{G:Bc}{c:Cx}{w:World}{s:AS}{fr:List AV}{tmps:Array Value}{fn:Func}{v:AV}(hs:St G c w s)(hf:CU c w fr tmps.toList)(h:JF P s fn fr=some v):∃u,(results fn tmps).run P w=.ok u w/\Rp c w v u:=by
 unfold JF at h;cases hl:PR P s fr fn.results.toList with
 | none=>rw[hl] at h;cases h
 | some as =>
   rw[hl] at h;obtain⟨us,hus,hrs⟩:=hP hs hf _ hl;have hlen:=hrs.len
   have UQ:(results fn tmps).run P w=.ok (if h:us.toArray.size=1 then us.toArray[0] else .tuple us.toArray) w:=by
     rw[T9,Array.mapM_eq_mapM_toList];simp only[Sem.run_bind,Sem.run_map,hus,Result.andThen_ok,Sem.run_pure]
   rw[UQ];split at h;rename_i a OI;cases OI;cases h;cases hrs with
   | cons h1 t=>cases t;exact⟨_,rfl,h1⟩
   rename_i as' hne OI;cases OI;cases h
   have:¬us.toArray.size=1:=by
     intro h1;simp at h1;obtain⟨a,ha⟩:=List.length_eq_one_iff.1 (hlen.symm.trans h1);exact hne a ha
   rw[dif_neg this];exact⟨_,rfl,.CZ hrs⟩;rename_i OI;cases OI
end AI
namespace AI
open Go Go.RowKit
def iF(L:Nat->Bool):Nat->Nat
 | 0=>0
 | n+1=>iF L n+if L n then 0 else 1
def iH{L:Nat->Bool}:∀(n:Nat),iF L n=0->∀i,i < n->L i=true:=by
 intro n
 induction n with
 | zero=>intro _ i hi;omega
 | succ n ih =>
   intro h i hi;simp only[iF] at h;by_cases hn:i=n;subst hn;by_cases hL:L i=true;exact hL;simp[hL] at h;exact ih (by omega) i (by omega)
def rI{L M:Nat->Bool}{i:Nat}(h0:L i=false)(h1:M i=true)(hne:∀j,j≠i->M j=L j):∀(n:Nat),(i < n->iF L n=iF M n+1)/\(n<=i->iF L n=iF M n):=by
 intro n
 induction n with
 | zero=>exact⟨λh=>by omega,λ_=>rfl⟩
 | succ n ih =>
   refine⟨λh=>?_,λh=>?_⟩;simp only[iF];by_cases hn:n=i;subst hn;rw[ih.2 (Nat.le_refl _),h0,h1];simp;rw[ih.1 (by omega),hne n hn];omega;simp only[iF];rw[ih.2 (by omega),hne n (by omega)]
def qL{ops:Array Oper}{Nk:Nat->AS}(hq:∀i o,ops[i]?=some o->calm o.op=true->Nk (i+1)=Nk i){x:Nat}:∀(y:Nat),x<=y->y<=ops.size->(∀m,x<=m->m < y->¬YN ops m)->Nk x=Nk y:=by
 intro y
 induction y with
 | zero=>intro h _ _;have:x=0:=by omega
         subst this;rfl
 | succ y ih =>
   intro h hn hl;by_cases e:x=y+1;subst e;rfl;rw[ih (by omega) (by omega) (λm h1 h2=>hl m h1 (by omega))];have ho:ops[y]?=some (ops[y]'(by omega)):=Array.getElem?_eq_getElem (by omega);have hy:=hl y (by omega) (by omega);refine(hq y _ ho ?_).symm;cases hqq:calm (ops[y]'(by omega)).op with
   | true=>rfl
   | false=>exact absurd ⟨_,ho,hqq⟩ hy
def mem_ready{ops:Array Oper}{L:Array Bool}(hsz:L.size=ops.size){i:Nat}(h:i∈Region.ready .any ops L):∃o,ops[i]?=some o/\L.getD i false=false/\Met (λj=>L.getD j false) o/\i < ops.size:=by
 unfold Region.ready at h;rw[List.mem_filter,List.mem_range,Bool.and_eq_true] at h;obtain⟨h1,h2,h3⟩:=h;have ho:ops[i]?=some (ops[i]'h1):=Array.getElem?_eq_getElem h1;refine⟨_,ho,?_,λe he hb=>?_,h1⟩;have:i < L.size:=by omega
 simpa[this] using h2
 rw[ho] at h3;simp only[Option.map_some,Option.getD_some] at h3;rw[Array.all_eq_true_iff_forall_mem] at h3;have:=h3 e he;rw[hb] at this;simpa using this
def kR{ops:Array Oper}{L:Array Bool}(hsz:L.size=ops.size){i:Nat}{o:Oper}(ho:ops[i]?=some o)(hL:L.getD i false=false)(hm:Met (λj=>L.getD j false) o):i∈Region.ready .any ops L:=by
 have h1:=(Array.getElem?_eq_some_iff.1 ho).1;unfold Region.ready;rw[List.mem_filter,List.mem_range,Bool.and_eq_true];refine⟨h1,?_,?_⟩;have:i < L.size:=by omega
 simpa[this] using hL
 rw[ho];simp only[Option.map_some,Option.getD_some];rw[Array.all_eq_true_iff_forall_mem];intro e he;by_cases hb:Region.binds .any e=true;have:=hm e he hb;rw[hb];simpa using this
 simp[hb]
section
variable {P:Program} {G:Bc} {ops:Array Oper} {f0:List AV} {vals:Nat->AV} {Nk:Nat->AS}
structure Inv(G:Bc)(ops:Array Oper)(f0:List AV)(vals:Nat->AV)(Nk:Nat->AS)(mV:Cx)(w0:World)(nh:Nat)(L:Array Bool)(a:Act)(w:World):Prop where
 size:L.size=ops.size
 closed:NS ops.toList (λj=>L.getD j false)
 st:∃c k,k<=ops.size/\(∀l,YN ops l->(L.getD l false=true↔l < k))/\Ext mV w0 c w/\St G c w (Nk k)/\CU c w (IA f0 (Cl ops) vals (λj=>L.getD j false) ops.size) a.tmps.toList /\
   ∀j y,ops[j]?=some y->BX y.op=true->L.getD j false=false->rk ops j < nh->c.Dv[mV.Dv.length+rk ops j]?=some none
 defers:a.defers=[]
def looks{x y:Oper}{t:Nat}(hx:x.dst=some t)(hy:t∈y.looksAt ops):PU ops x y=true:=by
 simp[PU,hx,hy]
def ayC{x y:Oper}{t:Nat}(hx:t∈x.looksAt ops)(hy:y.dst=some t):PU ops x y=true:=by
 simp[PU,hx,hy]
def aEX{x y:Oper}{t:Nat}(hx:x.dst=some t)(hy:y.dst=some t):PU ops x y=true:=by
 simp[PU,hx,hy]
def sV{x y:Oper}(hx:calm x.op=false)(hy:calm y.op=false):PU ops x y=true:=by
 simp[PU,hx,hy]
def Ch{i:Nat}{o:Oper}(h:ops[i]?=some o):ops.toList[i]?=some o:=by rw[Array.getElem?_toList];exact h
def VD{L:Nat->Bool}(Hx:MJ ops=true)(hc:NS ops.toList L){i j:Nat}{x y:Oper}(hx:ops[i]?=some x)(hy:ops[j]?=some y)(hm:Met L y)(hlt:i < j)(H9:PU ops x y=true):L i=true :=
 Yb hc (Ch hy) hm (aW Hx hx hy hlt H9)
def QH{L:Nat->Bool}(Hx:MJ ops=true)(hc:NS ops.toList L){i j:Nat}{x y:Oper}(hx:ops[i]?=some x)(hy:ops[j]?=some y)(hL:L i=false)(hlt:i < j)(H9:PU ops x y=true):L j=false:=by
 cases h:L j with
 | false=>rfl
 | true =>
   have:=Yb hc (Ch hy) (hc j y (Ch hy) h) (aW Hx hx hy hlt H9);rw[hL] at this;cases this
def nV{i t:Nat}(h:Cl ops i=some t):∃o,ops[i]?=some o/\o.dst=some t:=by
 unfold Cl at h;cases ho:ops[i]? with
 | none=>rw[ho] at h;cases h
 | some o=>rw[ho] at h;exact⟨o,rfl,by simpa using h⟩
def SM{L:Nat->Bool}(Hx:MJ ops=true)(hc:NS ops.toList L){i:Nat}{o:Oper}(ho:ops[i]?=some o)(hL:L i=false)(hm:Met L o){t:Nat}(ht:t∈o.looksAt ops) :
   (IA f0 (Cl ops) vals L ops.size)[t]?=(IA f0 (Cl ops) vals (λ_=>true) i)[t]?:=by
 have hi:=(Array.getElem?_eq_some_iff.1 ho).1;rw[rU (j:=i) ops.size (by omega)];refine Yl i (λj hj hd=>?_);obtain⟨x,hx,hxd⟩:=nV hd;exact VD Hx hc hx ho hm hj (looks hxd ht);intro j hj _ hd;by_cases e:j=i;subst e;exact hL;obtain⟨y,hy,hyd⟩:=nV hd;exact QH Hx hc ho hy hL (by omega) (ayC ht hyd)
def rV{L M:Nat->Bool}(Hx:MJ ops=true)(hc:NS ops.toList L){i:Nat}{o:Oper}(ho:ops[i]?=some o)(hL:L i=false)(hM:M i=true)(hne:∀j,j≠i->M j=L j) :
   IA f0 (Cl ops) vals M ops.size=Jw (IA f0 (Cl ops) vals L ops.size) o.dst (vals i):=by
 have hi:=(Array.getElem?_eq_some_iff.1 ho).1;have hdi:Cl ops i=o.dst:=by unfold Cl;rw[ho];rfl
 apply List.ext_getElem?;intro t;by_cases hd:o.dst=some t;rw[rU (j:=i+1) ops.size (by omega)];simp only[IA,hM,if_true,hdi,hd];rw[OR,OR,Xk,Xk];intro j hj _ hdj;obtain⟨y,hy,hyd⟩:=nV hdj;rw[hne j (by omega)];exact QH Hx hc ho hy hL (by omega) (aEX hd hyd);rw[RZ hd];refine Yl ops.size (λj _ hdj=>hne j (λe=>hd ?_));rw[<- hdi,<- e];exact hdj
def Ext.avY{c:Cx}{w:World}{c':Cx}{w':World}(h:Ext c w c' w'){id:Nat}{y:Option Nat}(e:c.Dv[id]?=some y):c'.Dv[id]?=some y:=by
 obtain⟨t,ht⟩:=h.Dv;rw[<- ht,List.getElem?_append_left (List.getElem?_eq_some_iff.1 e).1];exact e
def abM{nh:Nat}(Hx:MJ ops=true)
   (hl:∀i o,ops[i]?=some o->calm o.op=false->Sound P G (.op ops o (IA f0 (Cl ops) vals (λ_=>true) i) (Nk i) (.ret (vals i)) (Nk (i+1))))
   (hq:∀i o,ops[i]?=some o->quiet o.op=true->Nk (i+1)=Nk i/\((CC ops (IA f0 (Cl ops) vals (λ_=>true) i) o=false/\vals i=.sc undef)\/(CC ops (IA f0 (Cl ops) vals (λ_=>true) i) o=true/\∀k,k<=ops.size->Win ops i k->QC P G (IA f0 (Cl ops) vals (λ_=>true) i) (Nk k) o=some (.val (vals i) (Nk k)))))
   (mV:Cx) (w0:World)
   (ha:∀i o e,ops[i]?=some o->o.op=.alloc e->Nk (i+1)=Nk i/\((CC ops (IA f0 (Cl ops) vals (λ_=>true) i) o=false/\vals i=.sc undef)\/(CC ops (IA f0 (Cl ops) vals (λ_=>true) i) o=true/\∃z,ME P e=some z/\rk ops i < nh/\vals i=.ptr (mV.Dv.length+rk ops i) 0/\∀k,k<=ops.size->Win ops i k->(Nk k).get (mV.Dv.length+rk ops i)=some (.cells (cellsOf z)))))
   (Q:Exit->Act->World->Prop) (hQ:∀e' a' w',Te G mV w0 .normal (IA f0 (Cl ops) vals (λ_=>true) ops.size) (Nk ops.size) e' a' w'->Q e' a' w') :
   ∀(fuel:Nat) (L:Array Bool) (a:Act) (w:World),Inv G ops f0 vals Nk mV w0 nh L a w->iF (λj=>L.getD j false) ops.size=fuel->wpAny P .any ops Q fuel L a w:=by
 have hqs:∀i o,ops[i]?=some o->calm o.op=true->Nk (i+1)=Nk i:=λi o h1 h2=>by
   rcases X6 h2 with h2 | ⟨e,h2⟩
   exact(hq i o h1 h2).1;exact(ha i o e h1 h2).1
 have fin:∀(L:Array Bool) (a:Act) (w:World),Inv G ops f0 vals Nk mV w0 nh L a w->(∀i,i < ops.size->L.getD i false=true)->Q .normal a w:=by
   intro L a w hI Hv;obtain⟨c,k,hk,hlk,hx,Gr,hfr,_⟩:=hI.st;have aKY:Nk k=Nk ops.size:=qL hqs ops.size hk (Nat.le_refl _) (λm h1 h2 hm=>by have:=(hlk m hm).1 (Hv m h2);omega);rw[aKY] at Gr;refine hQ _ _ _ ⟨c,hx,Gr,hI.defers,rfl,?_⟩
   have:IA f0 (Cl ops) vals (λj=>L.getD j false) ops.size=IA f0 (Cl ops) vals (λ_=>true) ops.size:=by
     apply List.ext_getElem?;intro t;exact Yl ops.size (λi hi _=>Hv i hi)
   rw[<- this];exact hfr
 intro fuel
 induction fuel with
 | zero =>
   intro L a w hI hc;have Hv:=iH ops.size hc;refine⟨?_,fin L a w hI Hv⟩;apply List.eq_nil_iff_forall_not_mem.2;intro i hi;obtain⟨o,ho,h1,_,hlt⟩:=mem_ready hI.size hi;have:=Hv i hlt;rw[h1] at this;cases this
 | succ fuel ih =>
   intro L a w hI aKC;refine⟨λdU=>fin L a w hI (λi=>?_),λi hi=>?_⟩
   · induction i using Nat.strongRecOn with
     | _ i ihi =>
       intro hlt;cases gJ:L.getD i false with
       | true=>rfl
       | false =>
         exfalso;have ho:ops[i]?=some (ops[i]'hlt):=Array.getElem?_eq_getElem hlt
         have:=kR hI.size ho gJ (λe he hb=>by
           have h1:=jX Hx ho he hb;exact ihi e.on h1 (by omega))
         rw[dU] at this;cases this
   · obtain⟨o,ho,gJ,YA,hlt⟩:=mem_ready hI.size hi
     obtain⟨c,k,hk,hlk,hx,Gr,hfr,oN⟩:=hI.st
     have hMi:(L.setIfInBounds i true).getD i false=true:=by
       have:i < L.size:=by rw[hI.size];exact hlt
       simp[this]
     have sB:∀j,j≠i->(L.setIfInBounds i true).getD j false=L.getD j false:=by
       intro j hj;simp only[Array.getD_eq_getD_getElem?];rw[Array.getElem?_setIfInBounds_ne (λe=>hj e.symm)]
     have hle:∀j,L.getD j false=true->(L.setIfInBounds i true).getD j false=true:=by
       intro j hj;by_cases e:j=i;subst e;exact hMi;rw[sB j e];exact hj
     have Yu:NS ops.toList (λj=>(L.setIfInBounds i true).getD j false):=by
       intro j y hy hj e he hb;by_cases ej:j=i;subst ej;rw[Ch ho] at hy;cases hy;exact hle _ (YA e he hb);have hj2:L.getD j false=true:=by rw[<- sB j ej];exact hj
       exact hle _ (hI.closed j y hy hj2 e he hb)
     have adG:iF (λj=>(L.setIfInBounds i true).getD j false) ops.size=fuel:=by
       have:=(rI (L:=λj=>L.getD j false) (M:=λj=>(L.setIfInBounds i true).getD j false) gJ hMi sB ops.size).1 hlt;omega
     have awR:=rV (f0:=f0) (vals:=vals) (L:=λj=>L.getD j false) (M:=λj=>(L.setIfInBounds i true).getD j false) Hx hI.closed ho gJ hMi sB
     have atY:∀(k':Nat) (u:Value) (w':World) (c':Cx),k'<=ops.size->(∀l,YN ops l->((L.setIfInBounds i true).getD l false=true↔l < k'))->Ext mV w0 c' w'->Mon c w c' w' ->
         (∀j y,ops[j]?=some y->BX y.op=true->(L.setIfInBounds i true).getD j false=false->rk ops j < nh->c'.Dv[mV.Dv.length+rk ops j]?=some none)->St G c' w' (Nk k')->Rp c' w' (vals i) u->wpAny P .any ops Q fuel (L.setIfInBounds i true) (a.put o.dst u) w':=by
       intro k' u w' c' hk' dT YD hm' hh' Po hu;refine ih _ _ _ ⟨by simp[hI.size],Yu,⟨c',k',hk',dT,YD,Po,?_,hh'⟩,by cases o.dst<;>exact hI.defers⟩ adG
       rw[awR];exact SH (hfr.Dy hm') hu
     have step:∀(k':Nat) (u:Value) (w':World) (c':Cx),k'<=ops.size->(∀l,YN ops l->((L.setIfInBounds i true).getD l false=true↔l < k'))->Ext c w c' w'->St G c' w' (Nk k')->Rp c' w' (vals i) u->wpAny P .any ops Q fuel (L.setIfInBounds i true) (a.put o.dst u) w':=by
       intro k' u w' c' hk' dT YD Po hu;refine atY k' u w' c' hk' dT (hx.trans YD) YD.mon (λj y hy eC hj hjn=>?_) Po hu;have hji:j≠i:=λe=>by subst e;rw[hMi] at hj;cases hj
       rw[sB j hji] at hj;exact YD.avY (oN j y hy eC hj hjn)
     have jF:∀x∈o.op.operands,ZK G c w (IA f0 (Cl ops) vals (λ_=>true) i) a.eval x:=by
       intro x hxo v hv;cases x with
       | tmp t =>
         have adM:t∈o.looksAt ops:=by
           unfold Oper.looksAt;rw[List.mem_append];left;rw[List.mem_filterMap];exact⟨.tmp t,Array.mem_toList_iff.2 hxo,rfl⟩
         have he:=SM (f0:=f0) (vals:=vals) Hx hI.closed ho gJ YA adM
         have:Bg G (IA f0 (Cl ops) vals (λj=>L.getD j false) ops.size) (.tmp t)=some v:=by
           rw[<- hv];simp only[Bg,List.getD_eq_getElem?_getD,he]
         exact Gf Gr hfr this
       | const z=>exact Gf (fr:=IA f0 (Cl ops) vals (λj=>L.getD j false) ops.size) Gr hfr hv
       | global g=>exact Gf (fr:=IA f0 (Cl ops) vals (λj=>L.getD j false) ops.size) Gr hfr hv
       | func f=>exact Gf (fr:=IA f0 (Cl ops) vals (λj=>L.getD j false) ops.size) Gr hfr hv
     have Wx:CC ops (IA f0 (Cl ops) vals (λ_=>true) i) o=Region.wanted o (yielded ops a.tmps):=by
       refine NU (c:=c) (w:=w) (λj want hg d hd=>⟨_,hfr,?_⟩);refine SM Hx hI.closed ho gJ YA ?_;unfold Oper.looksAt;rw[List.mem_append];right;rw[hg];simp[hd]
     have dO:OG P ops o (wpAny P .any ops Q fuel (L.setIfInBounds i true)) Q a w->wpOp P ops Q i (wpAny P .any ops Q fuel (L.setIfInBounds i true)) a w:=by
       intro h;unfold wpOp;rw[ho];unfold OG at h;simp only;split;rename_i hw;rw[if_pos hw] at h;exact .inl h;rename_i hw;rw[if_neg hw] at h;exact h
     refine dO ?_;cases hqo:calm o.op with
     | false =>
       have hki:Nk k=Nk i:=by
         rcases Nat.le_total k i with awM | awM
         exact qL hqs i awM (by omega) (λm h1 h2 hm=>by
           obtain⟨y,hy,sM⟩:=hm;have:=VD Hx hI.closed hy ho YA h2 (sV sM hqo);have:=(hlk m ⟨y,hy,sM⟩).1 this;omega)
         exact(qL hqs k awM hk (λm h1 h2 hm=>by
           obtain⟨y,hy,sM⟩:=hm;have hLm:=(hlk m ⟨y,hy,sM⟩).2 h2;by_cases e:m=i;subst e;rw[gJ] at hLm;cases hLm;have:=QH Hx hI.closed ho hy gJ (by omega) (sV hqo sM);rw[this] at hLm;cases hLm)).symm
       rw[hki] at Gr;refine hl i o ho hqo c w a _ _ Gr jF Wx ?_;intro u w' c' YD Po hu;refine step (i+1) u w' c' (by omega) (λl zZ=>?_) YD Po hu;by_cases e:l=i;subst e;rw[hMi];simp;rw[sB l e,hlk l zZ];obtain⟨y,hy,sM⟩:=zZ;constructor;intro hlt';have hLl:=(hlk l ⟨y,hy,sM⟩).2 hlt';rcases Nat.lt_or_ge l i with h1 | h1
       omega;have:=QH Hx hI.closed ho hy gJ (by omega) (sV hqo sM);rw[this] at hLl;cases hLl;intro hlt';have:=VD Hx hI.closed hy ho YA (by omega) (sV sM hqo);exact(hlk l ⟨y,hy,sM⟩).1 this
     | true =>
       have dT:∀l,YN ops l->((L.setIfInBounds i true).getD l false=true↔l < k):=by
         intro l zZ
         have hne:l≠i:=by
           intro e;subst e;obtain⟨y,hy,sM⟩:=zZ;rw[ho] at hy;cases hy;rw[hqo] at sM;cases sM
         rw[sB l hne];exact hlk l zZ
       have ZU:Win ops i k:=by
         refine⟨λl zZ hd=>?_,λl zZ hd=>?_⟩;exact(hlk l zZ).1 (Yb hI.closed (Ch ho) YA hd);rcases Nat.lt_or_ge l k with h1 | h1
         exfalso;have hLl:=(hlk l zZ).2 h1;obtain⟨y,hy,sM⟩:=zZ;have:=Yb hI.closed (Ch hy) (hI.closed l y (Ch hy) hLl) hd;rw[gJ] at this;cases this;exact h1
       unfold OG;rcases X6 hqo with hqo | ⟨e,hoe⟩
       obtain⟨_,To⟩:=hq i o ho hqo;rcases To with ⟨hw,hv⟩ | ⟨hw,hv⟩
       rw[<- Wx,hw];simp only[Bool.false_eq_true,if_false];exact step k undef w c hk dT (Ext.refl c w) Gr (by rw[hv];exact .sc rfl);rw[<- Wx,hw];simp only[if_true];have aCI:=cV Gr jF (λ_=>rfl) (hv k hk ZU);obtain⟨u,w',c',hr,YD,Po,hu⟩:=aCI;unfold Oper.wp;rcases hr with hr | ⟨hr,rfl⟩
       rw[hr];exact step k u w' c' hk dT YD Po hu;rw[hr];exact step k undef w' c' hk dT YD Po hu;obtain⟨_,To⟩:=ha i o e ho hoe;rcases To with ⟨hw,hv⟩ | ⟨hw,z,hz,hrk,hv,aCJ⟩
       rw[<- Wx,hw];simp only[Bool.false_eq_true,if_false];exact step k undef w c hk dT (Ext.refl c w) Gr (by rw[hv];exact .sc rfl);rw[<- Wx,hw];simp only[if_true];have hia:BX o.op=true:=by rw[hoe];rfl
       obtain⟨u,w',c',hr,hm',Po,hu,aKG,aKQ⟩:=nJ (ρ:=a.eval) Gr hoe hz (oN i o ho hia gJ hrk) (aCJ k hk ZU);unfold Oper.wp;rw[hr];refine atY k u w' c' hk dT (aKG mV w0 hx (by omega)) hm' (λj y hy eC hj hjn=>?_) Po (by rw[hv];exact hu);have hji:j≠i:=λe=>by subst e;rw[hMi] at hj;cases hj
       rw[sB j hji] at hj;have hne:rk ops j≠rk ops i:=λe=>hji (azI hy ho eC hia e);rw[aKQ _ (by omega)];exact oN j y hy eC hj hjn
end
end AI
namespace AI
open Go Go.RowKit
def eV{G:Bc}{c:Cx}{w:World}{s:AS}{fr:List AV}{a:Act}(hs:St G c w s)(hf:CU c w fr a.tmps.toList)(x:Operand):ZK G c w fr a.eval x:=λ_ hv=>Gf hs hf hv
def Qz{P:Program}{ops:Array Oper}{o:Oper}{i:Nat}{l:List Nat}{Q:Exit->Act->World->Prop}{a:Act}{w:World}(ho:ops[i]?=some o)(h:OG P ops o (wpOps P ops Q l) Q a w):wpOps P ops Q (i::l) a w:=by
 unfold wpOps;rw[ho];unfold OG at h;simp only;split;rename_i hw;rw[if_pos hw] at h;exact .inl h;rename_i hw;rw[if_neg hw] at h;exact h
def Te.P7{G:Bc}{c:Cx}{w:World}{e:AX}{fr':List AV}{s':AS}{e':Exit}{a':Act}{w':World}(h:Te G c w e fr' s' e' a' w')(he:e≠.normal):e'≠.normal:=by
 obtain⟨c',_,_,_,h4⟩:=h;cases e with
 | normal=>exact absurd rfl he
 | exit id=>intro h5;rw[h4.1] at h5;cases h5
 | ret=>intro h5;rw[h4.1] at h5;cases h5
 | pan v=>obtain⟨u,h5,_⟩:=h4;intro h6;rw[h5] at h6;cases h6
def Vh{K:Act->World->Prop}{Q:Exit->Act->World->Prop}{e:Exit}{a:Act}{w:World}(he:e≠.normal)(h:Q e a w):Exit.then K Q e a w:=by
 cases e<;>first | exact absurd rfl he | exact h
structure asB(P:Program)(G:Bc)(X:WR)(H:Ty):Prop where
 mixed:P.follows .mixedOrders=true
 ext:∀f args s r s',X f args s r s'->Sound P G (.call f args s r s')
 awN:∀f args g Yn k,H f args=some (g,Yn,k)->∀s r s' r',Sound P G (.call g Yn s r s')->k r=some r'->Sound P G (.call f args s r' s')
def sound{P:Program}{G:Bc}{X:WR}{H:Ty}(hg:asB P G X H){jd:Jd}(h:J P G X H jd):Sound P G jd:=by
 induction h with
 | sem h=>exact h hg.mixed
 | Zz hw _ ih=>intro cx w a Q hs hf hd hQ;obtain⟨c2,x,h1,h2⟩:=hw cx w _ hs hf;exact ih c2 w a Q h1 h2 hd (λe a w hp=>hQ e a w (hp.ext x))
 | auI hw _ ih=>obtain⟨n,ih⟩:=ih;exact⟨n,λcx w a Q hs hf hd hQ=>by obtain⟨c2,x,h1,h2⟩:=hw cx w _ hs hf;exact ih c2 w a Q h1 h2 hd (λe a w hp=>hQ e a w (hp.ext x))⟩
 | pN _ _ hv ih =>
   intro cx w a K Q hs IZ hwa hK;exact ih cx w a K Q hs IZ hwa (λu w' c' x st hu=>hK u w' c' x st (hv _ _ _ hu))
 | eU _ _ hv ih =>
   intro cx w a K Q hs IZ hwa hK;exact ih cx w a K Q hs IZ hwa (λu w' c' x st hu=>hK u w' c' x (hv _ _ st) hu)
 | @scope c fr fr2 fr' s s2 s' e _ he hsc ih =>
   intro cx w a Q hs hf hd hQ;refine ih cx w a Q hs hf hd ?_;rintro e' a' w' ⟨c',hx,hs',SP,h4⟩;cases e with
   | normal=>obtain⟨rfl,h5⟩:=h4;obtain⟨c2,x2,Xx,f2⟩:=hsc cx w c' w' _ hx hs hs' h5;exact hQ _ _ _ ⟨c2,x2,Xx,SP,rfl,f2⟩
   | exit id=>obtain⟨rfl,h5⟩:=h4;obtain⟨c2,x2,Xx,f2⟩:=hsc cx w c' w' _ hx hs hs' h5;exact hQ _ _ _ ⟨c2,x2,Xx,SP,rfl,f2⟩
   | ret=>obtain⟨rfl,h5⟩:=h4;obtain⟨c2,x2,Xx,f2⟩:=hsc cx w c' w' _ hx hs hs' h5;exact hQ _ _ _ ⟨c2,x2,Xx,SP,rfl,f2⟩
   | pan v=>exact absurd rfl (he v)
 | skip=>intro cx w a Q hs hf hd hQ;exact wp_skip (hQ _ _ _ ⟨cx,Ext.refl _ _,hs,hd,rfl,hf⟩)
 | exit=>intro cx w a Q hs hf hd hQ;exact wp_exit (hQ _ _ _ ⟨cx,Ext.refl _ _,hs,hd,rfl,hf⟩)
 | ret=>intro cx w a Q hs hf hd hQ;exact wp_ret (hQ _ _ _ ⟨cx,Ext.refl _ _,hs,hd,rfl,hf⟩)
 | seq _ _ oV ih2 =>
   intro cx w a Q hs hf hd hQ;refine wp_seq (oV cx w a _ hs hf hd ?_);rintro e' a' w' ⟨c',hx,hs',SP,rfl,Yv⟩;exact ih2 c' w' a' Q hs' Yv SP (λe2 a2 w2 h2=>hQ e2 a2 w2 (h2.ext hx))
 | qI _ he oV =>
   intro cx w a Q hs hf hd hQ;refine wp_seq (oV cx w a _ hs hf hd ?_);intro e' a' w' hp;exact Vh (hp.P7 he) (hQ _ _ _ hp)
 | @cond q x y t fr fr' s s' e hq _ ih =>
   intro cx w a Q hs hf hd hQ;have hr:=Gf hs hf hq
   have IZ:a.eval q=.bool t:=by
     generalize a.eval q=v at hr;cases hr;rfl
   exact wp_cond IZ (ih cx w a Q hs hf hd hQ)
 | @block id c fr fr' s s' e _ ih =>
   intro cx w a Q hs hf hd hQ;refine wp_block (ih cx w a _ hs hf hd ?_);rintro e' a' w' ⟨c',hx,hs',SP,h4⟩;cases e with
   | normal=>obtain⟨rfl,h5⟩:=h4;exact hQ _ _ _ ⟨c',hx,hs',SP,rfl,h5⟩
   | exit Rq =>
     obtain⟨rfl,h5⟩:=h4;show if Rq=id then Q .normal a' w' else Q (.exit Rq) a' w'
     by_cases hid:Rq=id;rw[if_pos hid];refine hQ _ _ _ ⟨c',hx,hs',SP,?_⟩;simp only[EZ,hid,if_true];exact⟨trivial,h5⟩;rw[if_neg hid];refine hQ _ _ _ ⟨c',hx,hs',SP,?_⟩;simp only[EZ,hid,if_false];exact⟨trivial,h5⟩
   | ret=>obtain⟨rfl,h5⟩:=h4;exact hQ _ _ _ ⟨c',hx,hs',SP,rfl,h5⟩
   | pan v=>obtain⟨u,rfl,h5⟩:=h4;exact hQ _ _ _ ⟨c',hx,hs',SP,u,rfl,h5⟩
 | loop _ ih =>
   intro cx w a Q hs hf hd hQ;obtain⟨n,hn⟩:=ih;exact wp_loop_rounds n (hn cx w a Q hs hf hd hQ)
 | loopN _ _ oV ih2 =>
   obtain⟨n,hn⟩:=ih2;refine⟨n+1,?_⟩;intro cx w a Q hs hf hd hQ;rw[rounds_succ];refine oV cx w a _ hs hf hd ?_;rintro e' a' w' ⟨c',hx,hs',SP,rfl,Yv⟩;exact hn c' w' a' Q hs' Yv SP (λe2 a2 w2 h2=>hQ e2 a2 w2 (h2.ext hx))
 | loopX _ he oV =>
   refine⟨1,?_⟩;intro cx w a Q hs hf hd hQ;rw[rounds_succ];refine oV cx w a _ hs hf hd ?_;intro e' a' w' hp;exact Vh (hp.P7 he) (hQ _ _ _ hp)
 | region _ ih =>
   intro cx w a Q hs hf hd hQ;exact wp_region (ih cx w a Q hs hf hd hQ)
 | afH=>intro cx w a Q hs hf hd hQ;exact hQ _ _ _ ⟨cx,Ext.refl _ _,hs,hd,rfl,hf⟩
 | @tE ops i l o v fr fr' s s1 s' e ho _ _ oV ih2 =>
   intro cx w a Q hs hf hd hQ;refine Qz ho (oV cx w a _ _ hs (λx _=>eV hs hf x) (NU (c:=cx) (w:=w) (λ_ _ _ _ _=>⟨fr,hf,rfl⟩)) ?_);intro u w' c' hx hs' hu;exact ih2 c' w' (a.put o.dst u) Q hs' (SH (hf.mono hx) hu) (by cases o.dst<;>exact hd) (λe2 a2 w2 h2=>hQ e2 a2 w2 (h2.ext hx))
 | @afI ops i l o v fr s s1 ho _ oV =>
   intro cx w a Q hs hf hd hQ;refine Qz ho (oV cx w a _ _ hs (λx _=>eV hs hf x) (NU (c:=cx) (w:=w) (λ_ _ _ _ _=>⟨fr,hf,rfl⟩)) ?_);intro u w' c' hx hs' hu;exact hQ _ _ _ ⟨c',hx,hs',hd,u,rfl,hu⟩
 | @Oa ops o fr s s' v hw h =>
   intro cx w a K Q hs IZ hwa hK;unfold OG;rw[<- hwa,hw];simp only[if_true];obtain⟨u,w',c',hr,hx,hs',hu⟩:=cV hs IZ (λ_=>rfl) h;unfold Oper.wp;rcases hr with hr | ⟨hr,rfl⟩
   rw[hr];exact hK u w' c' hx hs' hu;rw[hr];exact hK undef w' c' hx hs' hu
 | @afG ops o fr s s' cl x y t tx a b v hw ho H9 hxs D2 ha hb h =>
   intro cx w ac K Q hs IZ hwa hK;unfold OG;rw[<- hwa,hw];simp only[if_true];have e1:cl.args=#[x,y]:=by apply Array.ext';rw[hxs]
   have e2:cl.argTypes=#[t,tx]:=by apply Array.ext';rw[D2]
   have jE:∀z∈[x,y],z∈o.op.operands:=λz hz=>by rw[ho];simp only[Op.operands,Call.operands,e1,Array.mem_append];exact .inr (by simpa using hz)
   obtain⟨u,w',c',hr,hx,hs',hu⟩:=h cx w _ _ o.type hs (IZ x (jE x (by simp)) a ha) (IZ y (jE y (by simp)) b hb);unfold Oper.wp
   have hr2:(execOp ac.eval o).run P w=.ok (.value u) w':=by
     simp[execOp,ho,resolve,H9,e1,e2,invoke,builtin,hr]
   rw[hr2];exact hK u w' c' hx hs' hu
 | @pM ops o fr s hw =>
   intro cx w a K Q hs IZ hwa hK;unfold OG;rw[<- hwa,hw];simp only[Bool.false_eq_true,if_false];exact hK undef w cx (Ext.refl _ _) hs (.sc rfl)
 | @Sj ops o fr s s' f args r hw h _ ih =>
   intro cx w a K Q hs IZ hwa hK;unfold OG;rw[<- hwa,hw];simp only[if_true];obtain⟨vs,hr,IB⟩:=cV hs IZ (λ_=>rfl) h;unfold Oper.wp;rw[hr];refine(ih cx w vs hs IB).mono ?_;rintro e w' ⟨c',hx,hs',h4⟩;cases r with
   | ret v=>obtain⟨u,rfl,hu⟩:=h4;exact hK u w' c' hx hs' hu
   | pan v=>obtain⟨u,rfl,hu⟩:=h4;exact hK u w' c' hx hs' hu
 | @atK ops o fr s v hw h =>
   intro cx w a K Q hs IZ hwa hK;unfold OG;rw[<- hwa,hw];simp only[if_true];obtain⟨u,hr,hu⟩:=cV hs IZ (λ_=>rfl) h;unfold Oper.wp;rw[hr];exact hK u w cx (Ext.refl _ _) hs hu
 | @draw id ops f0 s0 rs vals Nk h0 Hx hl hq ha ihl =>
   intro cx w a Q hs hf hd hQ;refine wp_region_any hg.mixed ?_;obtain⟨x,st⟩:=hs.same (iC w);obtain⟨c2,x2,Xx,TN⟩:=st.holds rs;rw[<- h0] at Xx;rw[hs.len] at ha;refine abM (nh:=rs.length) Hx ihl hq cx w ha Q hQ ops.size _ a _ ⟨by simp,?_,⟨c2,0,Nat.zero_le _,?_,x.trans x2,Xx,?_,?_⟩,hd⟩ ?_;intro i o ho hL;exfalso;simp only[Array.getD_eq_getD_getElem?,Array.getElem?_replicate] at hL;split at hL<;>simp at hL
   intro l _;simp only[Array.getD_eq_getD_getElem?,Array.getElem?_replicate];split<;>simp
   · have:IA f0 (Cl ops) vals (λj=>(Array.replicate ops.size false).getD j false) ops.size=f0:=by
       have key:∀n,IA f0 (Cl ops) vals (λj=>(Array.replicate ops.size false).getD j false) n=f0:=by
         intro n
         induction n with
         | zero=>rfl
         | succ n ih =>
           simp only[IA,ih];rw[if_neg];simp only[Array.getD_eq_getD_getElem?,Array.getElem?_replicate];split<;>simp
       exact key _
     rw[this];exact hf.mono (x.trans x2)
   intro j y _ _ _ hj;rw[TN,List.getElem?_append_right (by omega)];simp[List.getElem?_replicate];omega
   · have key:∀n,iF (λj=>(Array.replicate ops.size false).getD j false) n=n:=by
       intro n
       induction n with
       | zero=>rfl
       | succ n ih =>
         simp only[iF,ih]
         have:(Array.replicate ops.size false).getD n false=false:=by
           simp only[Array.getD_eq_getD_getElem?,Array.getElem?_replicate];split<;>simp
         simp only[this];simp
     exact key _
 | @body f fn c args fr' s s' s2 e v hf hb _ he hr hk ih =>
   intro cx w vs hs IB;have hl:=IB.len;refine calls_of_wp hf hb (ih cx w _ _ hs ?_ rfl ?_);simp only[Array.toList_append,Array.toList_replicate];rw[List.size_toArray,hl];exact IB.append (CU.replicate (.sc rfl) _);rintro e' a' w' ⟨c',hx,hs',SP,h4⟩
   have aL:St G c' w' s2:=by
     rcases hk with rfl | rfl
     exact hs'.cut _;exact hs'
   rcases he with rfl | rfl
   obtain⟨rfl,h5⟩:=h4;obtain⟨u,h6,h7⟩:=Wm hs' h5 hr;exact⟨SP,u,h6,c',hx,aL,u,rfl,h7⟩;obtain⟨rfl,h5⟩:=h4;obtain⟨u,h6,h7⟩:=Wm hs' h5 hr;exact⟨SP,u,h6,c',hx,aL,u,rfl,h7⟩
 | @asH f fn c args fr' s s' v hf hb _ ih =>
   intro cx w vs hs IB;have hl:=IB.len;refine calls_of_wp hf hb (ih cx w _ _ hs ?_ rfl ?_);simp only[Array.toList_append,Array.toList_replicate];rw[List.size_toArray,hl];exact IB.append (CU.replicate (.sc rfl) _);rintro e' a' w' ⟨c',hx,hs',SP,u,rfl,h5⟩;exact⟨SP,c',hx,hs'.cut _,u,rfl,h5⟩
 | ext h=>exact hg.ext _ _ _ _ _ h
 | awN hh _ hk ih=>exact hg.awN _ _ _ _ _ hh _ _ _ _ ih hk
end AI
namespace AI
open Go Go.RowKit
def akX:Value->Value->Bool
 | .int k a,.int k' b=>k == k'&&a == b
 | .bool a,.bool b=>a == b
 | .string a,.string b=>a.data.toList == b.data.toList
 | .nilIface,.nilIface=>true
 | .nilFunc,.nilFunc=>true
 | .pointer none,.pointer none=>true
 | .map none,.map none=>true
 | .tuple a,.tuple b=>a.size == 0&&b.size == 0
 | _,_=>false
def rE{a b:Value}(h:akX a b=true):a=b:=by
 unfold akX at h;split at h;simp at h;rw[h.1,h.2];simp at h;rw[h];simp only[beq_iff_eq] at h;rename_i x y;have:x=y:=ByteArray.ext (Array.ext' h);rw[this];rfl;rfl;rfl;rfl;rename_i x y;simp at h;rw[h.1,h.2];cases h
mutual
def TE:AV->AV->Bool
 | .sc a,.sc b=>akX a b
 | .agg a,.agg b=>X2 a b
 | .CZ a,.CZ b=>X2 a b
 | .sl o n a,.sl p m b=>decide (o=p)&&n == m&&X2 a b
 | .msl a b c,.msl x y z=>a == x&&b == y&&c == z
 | .el a,.el b=>X2 a b
 | .ptr a b,.ptr x y=>a == x&&b == y
 | .fn f a b,.fn g x y=>decide (f=g)&&X2 a x&&X2 b y
 | .ifc t a,.ifc u b=>t == u&&TE a b
 | .mp a,.mp b=>a == b
 | _,_=>false
def X2:List AV->List AV->Bool
 | [],[]=>true
 | a::as,b::bs=>TE a b&&X2 as bs
 | _,_=>false
end
mutual
def rD:∀{a b:AV},TE a b=true->a=b
 | .sc a,b,h=>by cases b<;>simp[TE] at h;rw[rE h]
 | .agg a,b,h=>by cases b<;>simp[TE] at h;rw[OS h]
 | .CZ a,b,h=>by cases b<;>simp[TE] at h;rw[OS h]
 | .sl o n a,b,h=>by cases b<;>simp[TE] at h;rw[h.1.1,h.1.2,OS h.2]
 | .msl _ _ _,b,h=>by cases b<;>simp[TE] at h;rw[h.1.1,h.1.2,h.2]
 | .el a,b,h=>by cases b<;>simp[TE] at h;rw[OS h]
 | .ptr _ _,b,h=>by cases b<;>simp[TE] at h;rw[h.1,h.2]
 | .fn f a c,b,h=>by cases b<;>simp[TE] at h;rw[h.1.1,OS h.1.2,OS h.2]
 | .ifc t a,b,h=>by cases b<;>simp[TE] at h;rw[h.1,rD h.2]
 | .mp _,b,h=>by cases b<;>simp[TE] at h;rw[h]
 | .any,b,h=>by cases b<;>simp[TE] at h
def OS:∀{a b:List AV},X2 a b=true->a=b
 | [],b,h=>by cases b<;>simp[X2] at h;rfl
 | a::as,b,h=>by cases b<;>simp[X2] at h;rw[rD h.1,OS h.2]
end
def reads:Op->Bool
 | .load .. | .lookup ..=>true
 | .call cl=>(match cl.callee with
   | .builtin .len=>true
   | _=>false)
 | _=>false
def VX{P:Program}{G:Bc}{fr:List AV}{s:AS}{o:Oper}{r:AR}(hq:quiet o.op=true)(h:QC P G fr s o=some r):∃v,r=.val v s:=by
 unfold QC at h;split at h<;>rename_i ho<;>(try (rw[ho] at hq;simp[quiet] at hq;done))
 all_goals first
   | (obtain⟨v,_,rfl⟩:=map_some h;exact⟨_,rfl⟩)
   | (split at h
      all_goals first
        | (obtain⟨v,_,rfl⟩:=map_some h;exact⟨_,rfl⟩)
        | (cases h;done)
        | (cases h;exact⟨_,rfl⟩)
        | (split at h
           all_goals first
             | (cases h;done)
             | (cases h;exact⟨_,rfl⟩)))
   | (obtain⟨_,_,h2⟩:=bind_some h;obtain⟨v,_,rfl⟩:=map_some h2;exact⟨_,rfl⟩)
   | (rw[ho] at hq
      unfold Th at h;split at h
      all_goals first
        | (obtain⟨_,_,h2⟩:=bind_some h;obtain⟨v,_,rfl⟩:=map_some h2;exact⟨_,rfl⟩)
        | (rename_i H9;simp[quiet,H9] at hq;done)
        | (split at h
           all_goals first
             | (obtain⟨v,_,rfl⟩:=map_some h;exact⟨_,rfl⟩)
             | (cases h;done))
        | (cases h;done))
   | (cases h;done)
def T6{P:Program}{G:Bc}{fr:List AV}{s:AS}{o:Oper}{v:AV}{s':AS}(hq:quiet o.op=true)(hr:reads o.op=false)(h:QC P G fr s o=some (.val v s'))(s2:AS):QC P G fr s2 o=some (.val v s2):=by
 have e:=VX hq h;obtain⟨v',e⟩:=e;injection e with e1 e2
 subst e1 e2;obtain⟨dst,op,ty,pos,after,guard⟩:=o;cases op<;>simp only[quiet,reads,Bool.false_eq_true] at hq hr<;>simp only[QC] at h ⊢
 all_goals first
   | (obtain⟨v',h1,h2⟩:=map_some h;injection h2 with h2;subst h2;rw[h1];rfl)
   | (obtain⟨q,h0,h2⟩:=bind_some h;obtain⟨v',h1,h3⟩:=map_some h2;injection h3 with h3;subst h3;rw[h0,Option.bind_some,h1];rfl)
   | (split at h
      all_goals first
        | (obtain⟨v',h1,h2⟩:=map_some h;injection h2 with h2;subst h2;simp only[*,Option.map_some];done)
        | (cases h;done)
        | (cases h;simp only[*];done)
        | (split at h
           all_goals first
             | (cases h;done)
             | (cases h;simp[*];done)))
   | (cases hr;done)
   | (rename_i cl
      unfold Th at h ⊢;split at h
      all_goals first
        | (rename_i H9;simp[H9] at hr;done)
        | (rename_i H9;simp[H9] at hq;done)
        | (simp only;obtain⟨q,h0,h2⟩:=bind_some h;obtain⟨v',h1,h3⟩:=map_some h2;injection h3 with h3;subst h3;rw[h0,Option.bind_some,h1];rfl)
        | (cases h;done))
end AI
namespace AI
open Go Go.RowKit
inductive Tk where
 | code (c:Code) (fr:List AV) (s:AS)
 | loop (c:Code) (fr:List AV) (s:AS)
 | ops (ops:Array Oper) (l:List Oper) (fr:List AV) (s:AS)
 | draw (ops:Array Oper) (l:List Oper) (fr:List AV) (s:AS) (q:Nat)
 | op (ops:Array Oper) (o:Oper) (fr:List AV) (s:AS)
 | call (f:FuncId) (args:List AV) (s:AS)
inductive Rs where
 | code (e:AX) (fr:List AV) (s:AS)
 | call (r:CR) (s:AS)
 | tr (l:List (List AV×AS×AV)) (fr:List AV) (s:AS)
abbrev arZ:=FuncId->List AV->AS->Option (CR×AS)
def Nx:List Oper->Nat->List Nat
 | [],_=>[]
 | o::os,i=>if calm o.op then Nx os (i+1) else i::Nx os (i+1)
def ajB(ms:List Nat)(ls:List Nat)(i k:Nat):Bool:=ls.all λl=>(!SK ms i l||decide (l < k))&&(!SK ms l i||decide (k<=l))
def tW(P:Program)(G:Bc)(ms ls:List Nat)(i:Nat)(o:Oper)(fr:List AV)(v:AV):List AS->Nat->Bool
 | [],_=>true
 | s::ss,k=>(!ajB ms ls i k||(match QC P G fr s o with
     | some (.val u _)=>TE u v
     | _=>false))&&tW P G ms ls i o fr v ss (k+1)
def uA(P:Program)(G:Bc)(ops:Array Oper)(ms ls:List Nat)(Nk:List AS):List Oper->List (List AV×AS×AV)->Nat->Bool
 | o::os,t::ts,i=>(!(quiet o.op&&reads o.op)||!CC ops t.1 o||tW P G ms ls i o t.1 t.2.2 Nk 0)&&uA P G ops ms ls Nk os ts (i+1)
 | _,_,_=>true
def X3(ms ls:List Nat)(i id:Nat)(cs:List AV):List AS->Nat->Bool
 | [],_=>true
 | s::ss,k=>(!ajB ms ls i k||(match s.get id with
     | some (.cells ds)=>X2 ds cs
     | _=>false))&&X3 ms ls i id cs ss (k+1)
def TD(P:Program)(ops:Array Oper)(ms ls:List Nat)(Nk:List AS):List Oper->List (List AV×AS×AV)->Nat->Nat->Bool
 | o::os,t::ts,i,q=>(match o.op with
   | .alloc e=>(!CC ops t.1 o||(match ME P e with
     | some z=>X3 ms ls i q (cellsOf z) Nk 0
     | none=>false))&&TD P ops ms ls Nk os ts (i+1) (q+1)
   | _=>TD P ops ms ls Nk os ts (i+1) q)
 | _,_,_,_=>true
def rsv(P:Program):List Oper->Option (List Bl)
 | []=>some []
 | o::l=>(match o.op with
   | .alloc e=>(match ME P e,rsv P l with
     | some z,some r=>some (.cells (cellsOf z)::r)
     | _,_=>none)
   | _=>rsv P l)
def apL(P:Program)(G:Bc)(ops:Array Oper)(tr:List (List AV×AS×AV))(sf:AS):Bool :=
 match Nx ops.toList 0 with
 | []=>true
 | ls=>uA P G ops (Ik ops.toList []) ls (tr.map (·.2.1)++[sf]) ops.toList tr 0
def XA(P:Program)(ops:Array Oper)(tr:List (List AV×AS×AV))(sf:AS)(q:Nat):List Bl->Bool
 | []=>true
 | _=>TD P ops (Ik ops.toList []) (Nx ops.toList 0) (tr.map (·.2.1)++[sf]) ops.toList tr 0 q
def azW(P:Program)(G:Bc)(ops:Array Oper)(tr:List (List AV×AS×AV))(sf:AS)(q:Nat)(r:List Bl):Bool :=
 match apL P G ops tr sf with
 | true=>XA P ops tr sf q r
 | false=>false
def aBN:AV->Bool
 | .ptr _ _ | .msl _ _ _ | .mp _ | .fn _ _ _=>true
 | _=>false
def avP:List AV->Bool
 | []=>false
 | a::l=>match aBN a with
   | true=>true
   | false=>avP l
def esc:AV->Bool
 | .agg l=>avP l
 | .CZ l=>avP l
 | a=>aBN a
def fin(v:AV)(s:AS)(n:Nat):AS:=match esc v with
 | true=>s
 | false=>s.cut n
def Pf(ops:Array Oper)(fr:List AV)(o:Oper)(q:Nat):AV:=match CC ops fr o with
 | true=>.ptr q 0
 | false=>.sc undef
inductive S1(P:Program)(G:Bc)(X:WR)(H:Ty)(ops:Array Oper):Nat->List Oper->List AV->AS->List (List AV×AS×AV)->List AV->AS->Prop where
 | nil {q:Nat} {fr:List AV} {s:AS}:S1 P G X H ops q [] fr s [] fr s
 | cons {q:Nat} {o:Oper} {l:List Oper} {fr fr':List AV} {s s1 s':AS} {v:AV} {t:List (List AV×AS×AV)} (ha:BX o.op=false) (h:J P G X H (.op ops o fr s (.ret v) s1)) (k:S1 P G X H ops q l (Jw fr o.dst v) s1 t fr' s'):S1 P G X H ops q (o::l) fr s ((fr,s,v)::t) fr' s'
 | alloc {q:Nat} {o:Oper} {l:List Oper} {fr fr':List AV} {s s':AS} {t:List (List AV×AS×AV)} (ha:BX o.op=true) (k:S1 P G X H ops (q+1) l (Jw fr o.dst (Pf ops fr o q)) s t fr' s'):S1 P G X H ops q (o::l) fr s ((fr,s,Pf ops fr o q)::t) fr' s'
section
variable {P:Program} {G:Bc} {X:WR} {H:Ty} {ops:Array Oper}
def S1.len{q:Nat}{l:List Oper}{fr fr':List AV}{s s':AS}{t:List (List AV×AS×AV)}(h:S1 P G X H ops q l fr s t fr' s'):t.length=l.length:=by
 induction h with
 | nil=>rfl
 | cons _ _ _ ih=>simp[ih]
 | alloc _ _ ih=>simp[ih]
def FN(t:List (List AV×AS×AV))(sf:AS)(i:Nat):AS:=match t[i]? with
 | some x=>x.2.1
 | none=>sf
def KE(t:List (List AV×AS×AV))(i:Nat):AV:=match t[i]? with
 | some x=>x.2.2
 | none=>.sc undef
def S1.at{q:Nat}{l:List Oper}{fr fr':List AV}{s s':AS}{t:List (List AV×AS×AV)}(h:S1 P G X H ops q l fr s t fr' s'):FN t s' 0=s/\∀i o,l[i]?=some o->∃fi,t[i]?=some (fi,FN t s' i,KE t i) /\
   ((BX o.op=false/\J P G X H (.op ops o fi (FN t s' i) (.ret (KE t i)) (FN t s' (i+1))))\/(BX o.op=true/\FN t s' (i+1)=FN t s' i/\KE t i=Pf ops fi o (q+nC l i))):=by
 induction h with
 | nil=>exact⟨rfl,λi o ho=>by simp at ho⟩
 | @cons q o l fr fr' s s1 s' v t ha h k ih =>
   refine⟨rfl,λi o' ho=>?_⟩;cases i with
   | zero =>
     simp at ho;subst ho;refine⟨fr,rfl,.inl ⟨ha,?_⟩⟩
     have:FN ((fr,s,v)::t) s' 1=s1:=by
       have:=ih.1;unfold FN at this ⊢;simpa using this
     rw[this];exact h
   | succ i =>
     obtain⟨fi,h1,h2⟩:=ih.2 i o' (by simpa using ho)
     refine⟨fi,?_,?_⟩;have:((fr,s,v)::t)[i+1]?=t[i]?:=by simp
     rw[this,h1];simp[FN,KE];simp only[nC,ha,Nat.zero_add];simpa[FN,KE] using h2
 | @alloc q o l fr fr' s s' t ha k ih =>
   refine⟨rfl,λi o' ho=>?_⟩;cases i with
   | zero =>
     simp at ho;subst ho;refine⟨fr,rfl,.inr ⟨ha,?_,?_⟩⟩;have:=ih.1;unfold FN at this ⊢;simpa using this
     simp[KE,nC]
   | succ i =>
     obtain⟨fi,h1,h2⟩:=ih.2 i o' (by simpa using ho)
     refine⟨fi,?_,?_⟩;have:((fr,s,Pf ops fr o q)::t)[i+1]?=t[i]?:=by simp
     rw[this,h1];simp[FN,KE];simp only[nC,ha];rw[<- Nat.add_assoc];simpa[FN,KE] using h2
def S1.dM{q:Nat}{l:List Oper}{fr fr':List AV}{s s':AS}{t:List (List AV×AS×AV)}(h:S1 P G X H ops q l fr s t fr' s')(dst:Nat->Option Tmp)(vals:Nat->AV)(f0:List AV)(k:Nat)(hfr:fr=IA f0 dst vals (λ_=>true) k)(hd:∀i o,l[i]?=some o->dst (k+i)=o.dst)(hv:∀i,vals (k+i)=KE t i\/l.length<=i) :
   fr'=IA f0 dst vals (λ_=>true) (k+l.length)/\∀i x,t[i]?=some x->x.1=IA f0 dst vals (λ_=>true) (k+i):=by
 have key:∀{q:Nat} {o:Oper} {l:List Oper} {fr fr':List AV} {s:AS} {v:AV} {t:List (List AV×AS×AV)}
     (_:∀(k:Nat),Jw fr o.dst v=IA f0 dst vals (λ_=>true) k->(∀i o,l[i]?=some o->dst (k+i)=o.dst)->(∀i,vals (k+i)=KE t i\/l.length<=i)->fr'=IA f0 dst vals (λ_=>true) (k+l.length)/\∀i x,t[i]?=some x->x.1=IA f0 dst vals (λ_=>true) (k+i))
     (k:Nat),fr=IA f0 dst vals (λ_=>true) k->(∀i o',(o::l)[i]?=some o'->dst (k+i)=o'.dst)->(∀i,vals (k+i)=KE ((fr,s,v)::t) i\/(o::l).length<=i) ->
     fr'=IA f0 dst vals (λ_=>true) (k+(o::l).length)/\∀i x,((fr,s,v)::t)[i]?=some x->x.1=IA f0 dst vals (λ_=>true) (k+i):=by
   intro q o l fr fr' s v t ih k hfr hd hv;have hd0:=hd 0 o rfl
   have hv0:vals k=v:=by
     rcases hv 0 with h0 | h0
     simpa[KE] using h0
     simp at h0
   have:=ih (k+1) (by simp only[IA,if_true];rw[hfr,<- hd0,hv0];rfl) (λi o' Wv=>by have:=hd (i+1) o' (by simpa using Wv);rwa[show k+1+i=k+(i+1) from by omega]) (λi=>by
     rcases hv (i+1) with h1 | h1
     left;rw[show k+1+i=k+(i+1) from by omega,h1];simp[KE];right;simp at h1;omega)
   refine⟨by rw[this.1];congr 1;simp;omega,λi x hx=>?_⟩;cases i with
   | zero=>simp at hx;subst hx;exact hfr
   | succ i =>
     have h2:=this.2 i x (by simpa using hx)
     rw[h2];congr 1;omega
 induction h generalizing k with
 | nil=>exact⟨hfr,λi x hx=>by simp at hx⟩
 | @cons q o l fr fr' s s1 s' v t ha h _ ih=>exact key (q:=q) (λk h1 h2 h3=>ih k h1 h2 h3) k hfr hd hv
 | @alloc q o l fr fr' s s' t ha _ ih=>exact key (q:=q) (λk h1 h2 h3=>ih k h1 h2 h3) k hfr hd hv
def arU{i k:Nat}{ls:List Nat}(hls:∀l,l∈ls->YN ops l)(h:Win ops i k):ajB (Ik ops.toList []) ls i k=true:=by
 unfold ajB;rw[List.all_eq_true];intro l hl;have h1:=h.1 l (hls l hl);have h2:=h.2 l (hls l hl);cases hd1:SK (Ik ops.toList []) i l<;>cases hd2:SK (Ik ops.toList []) l i<;>simp_all
def eQ{os:List Oper}{i l:Nat}(h:l∈Nx os i):∃j o,l=i+j/\os[j]?=some o/\calm o.op=false:=by
 induction os generalizing i with
 | nil=>simp[Nx] at h
 | cons x os ih =>
   simp only[Nx] at h;split at h;obtain⟨j,o,h1,h2,h3⟩:=ih h;exact⟨j+1,o,by omega,by simpa using h2,h3⟩
   rename_i hq;rcases List.mem_cons.1 h with h | h
   exact⟨0,x,by omega,rfl,by simpa using hq⟩
   obtain⟨j,o,h1,h2,h3⟩:=ih h;exact⟨j+1,o,by omega,by simpa using h2,h3⟩
def Kc{o:Oper}{fr:List AV}{s s':AS}{v:AV}(hq:quiet o.op=true)(h:J P G X H (.op ops o fr s (.ret v) s')):s'=s/\((CC ops fr o=false/\v=.sc undef)\/(CC ops fr o=true/\QC P G fr s o=some (.val v s))):=by
 cases h with
 | Oa hw h =>
   obtain⟨v',e⟩:=VX hq h;injection e with e1 e2
   subst e2;exact⟨rfl,.inr ⟨hw,h⟩⟩
 | pM hw=>exact⟨rfl,.inl ⟨hw,rfl⟩⟩
 | Sj hw h hc =>
   obtain⟨v',e⟩:=VX hq h;cases e
 | pN ZH=>rw[hq] at ZH;cases ZH
 | eU ZH=>rw[hq] at ZH;cases ZH
 | afG _ ho H9=>simp[quiet,ho,H9] at hq
def vS{ms ls:List Nat}{i id:Nat}{cs:List AV}{ss:List AS}{k0:Nat}(h:X3 ms ls i id cs ss k0=true){k:Nat}{s:AS}(hs:ss[k]?=some s)(hw:ajB ms ls i (k0+k)=true):s.get id=some (.cells cs):=by
 induction ss generalizing k0 k with
 | nil=>simp at hs
 | cons x ss ih =>
   simp only[X3,Bool.and_eq_true] at h;cases k with
   | zero =>
     simp at hs;subst hs;rw[Nat.add_zero] at hw;have h1:=h.1;rw[hw] at h1;simp only[Bool.not_true,Bool.false_or] at h1;split at h1;rename_i ds hu;rw[hu,OS h1];cases h1
   | succ k=>exact ih h.2 (by simpa using hs) (by rwa[show k0+1+k=k0+(k+1) from by omega])
def vG{ms ls:List Nat}{Nk:List AS}{os:List Oper}{ts:List (List AV×AS×AV)}{i0 q:Nat}(h:TD P ops ms ls Nk os ts i0 q=true){i:Nat}{o:Oper}{e:TypeId}{x:List AV×AS×AV}(ho:os[i]?=some o)(hx:ts[i]?=some x)(he:o.op=.alloc e)(hw:CC ops x.1 o=true):∃z,ME P e=some z/\X3 ms ls (i0+i) (q+nC os i) (cellsOf z) Nk 0=true:=by
 induction os generalizing ts i0 i q with
 | nil=>simp at ho
 | cons y os ih =>
   cases ts with
   | nil=>simp at hx
   | cons t ts =>
     cases i with
     | zero =>
       simp at ho hx;subst ho hx;simp only[TD,he,hw,Bool.not_true,Bool.false_or,Bool.and_eq_true] at h;have h1:=h.1;split at h1;rename_i z hz;exact⟨z,hz,h1⟩;cases h1
     | succ i =>
       simp only[TD] at h;split at h;rename_i e' he';rw[Bool.and_eq_true] at h;have:=ih h.2 (by simpa using ho) (by simpa using hx)
       simp only[nC,he',BX];rwa[show i0+1+i=i0+(i+1) from by omega,Nat.add_assoc q] at this;rename_i hne;have:=ih h (by simpa using ho) (by simpa using hx)
       have mY:BX y.op=false:=by
         cases eC:BX y.op with
         | false=>rfl
         | true=>obtain⟨e',he'⟩:=KS eC;exact absurd he' (hne e')
       simp only[nC,mY,Nat.zero_add];rwa[show i0+1+i=i0+(i+1) from by omega] at this
def aoY{l:List Oper}{r:List Bl}(h:rsv P l=some r):r.length=nC l l.length:=by
 induction l generalizing r with
 | nil=>simp[rsv] at h;subst h;rfl
 | cons o l ih =>
   simp only[rsv] at h;split at h;rename_i e he;split at h;rename_i z r' hz hr;cases h;simp only[List.length_cons,nC,he,BX,ih hr];omega;cases h;rename_i hne
   have mY:BX o.op=false:=by
     cases eC:BX o.op with
     | false=>rfl
     | true=>obtain⟨e',he'⟩:=KS eC;exact absurd he' (hne e')
   simp only[List.length_cons,nC,mY,ih h];omega
def Rm{o:Oper}{e:TypeId}(h:o.op=.alloc e):quiet o.op=false:=by rw[h];rfl
end
end AI
namespace AI
open Go Go.RowKit
def inI:Int->Bool
 | .ofNat m=>Nat.ble m 9223372036854775807
 | .negSucc m=>Nat.ble m 9223372036854775807
def Nl(k:IntKind)(n:Int):Int:=match k with
 | .i64=>(match inI n with | true=>n | false=>IntKind.i64.wrap n)
 | k=>k.wrap n
def axP{n:Int}(h:inI n=true):IntKind.i64.wrap n=n:=by
 refine IntWalk.i64_in n ?_;cases n with
 | ofNat m =>
   have:=Nat.le_of_ble_eq_true h;have e:Int.ofNat m=(m:Int):=rfl;rw[e];have h2:(m:Int)<=9223372036854775807:=Int.ofNat_le.2 this;have h3:(0:Int)<=m:=Int.natCast_nonneg m;omega
 | negSucc m =>
   have:=Nat.le_of_ble_eq_true h;rw[Int.negSucc_eq];constructor;have e:(-9223372036854775808:Int)=-(9223372036854775807+1):=rfl;rw[e];have h2:(m:Int)<=9223372036854775807:=Int.ofNat_le.2 this;omega;have h2:(0:Int)<=m:=Int.natCast_nonneg m;omega
def Vr(k:IntKind)(n:Int):Nl k n=k.wrap n:=by
 cases k<;>try rfl
 simp only[Nl];cases h:inI n with
 | true=>exact(axP h).symm
 | false=>rfl
def aaK:Int->Int->Int
 | .ofNat a,.ofNat b=>.ofNat (Nat.add a b)
 | a,b=>a+b
def cQ(a b:Int):aaK a b=a+b:=by cases a<;>cases b<;>rfl
def aEQ(a b:Nat):Int:=match Nat.ble b a with
 | true=>.ofNat (Nat.sub a b)
 | false=>(a:Int) - (b:Int)
def fN:Int->Int->Int
 | .ofNat a,.ofNat b=>aEQ a b
 | a,b=>a - b
def fO(a b:Int):fN a b=a - b:=by
 cases a<;>cases b<;>try rfl
 rename_i a b;simp only[fN,aEQ];cases h:Nat.ble b a with
 | true =>
   have:=Nat.le_of_ble_eq_true h;show Int.ofNat (a - b)=(a:Int) - (b:Int);exact Int.ofNat_sub this
 | false=>rfl
def CV:Int->Int->Bool
 | .ofNat a,.ofNat b=>Nat.beq a b
 | .negSucc a,.negSucc b=>Nat.beq a b
 | _,_=>false
def NY(a b:Int):CV a b=(a == b):=by
 cases a<;>cases b<;>simp only[CV]
 rename_i a b;rw[Bool.eq_iff_iff,beq_iff_eq,Int.ofNat.injEq];exact⟨λh=>Nat.eq_of_beq_eq_true h,λh=>by subst h;exact Nat.beq_refl a⟩;rw[Bool.eq_iff_iff,beq_iff_eq];exact⟨λh=>by simp at h,λh=>by cases h⟩;rw[Bool.eq_iff_iff,beq_iff_eq];exact⟨λh=>by simp at h,λh=>by cases h⟩;rename_i a b;rw[Bool.eq_iff_iff,beq_iff_eq,Int.negSucc.injEq];exact⟨λh=>Nat.eq_of_beq_eq_true h,λh=>by subst h;exact Nat.beq_refl a⟩
def Nv:Int->Int->Bool
 | .ofNat a,.ofNat b=>Nat.ble a b
 | a,b=>decide (a<=b)
def YI(a b:Int):Nv a b=decide (a<=b):=by
 cases a<;>cases b<;>try rfl
 rename_i a b;simp only[Nv];rw[Bool.eq_iff_iff,decide_eq_true_iff];show _↔(a:Int)<=(b:Int);rw[Int.ofNat_le];exact⟨Nat.le_of_ble_eq_true,Nat.ble_eq_true_of_le⟩
def Et:Int->Int->Bool
 | .ofNat a,.ofNat b=>Nat.ble (Nat.succ a) b
 | a,b=>decide (a < b)
def Sg(a b:Int):Et a b=decide (a < b):=by
 cases a<;>cases b<;>try rfl
 rename_i a b;simp only[Et];rw[Bool.eq_iff_iff,decide_eq_true_iff];show _↔(a:Int) < (b:Int);rw[Int.ofNat_lt];exact⟨Nat.le_of_ble_eq_true,Nat.ble_eq_true_of_le⟩
def sameKind:IntKind->IntKind->Bool
 | .i64,.i64=>true
 | .u8,.u8=>true
 | _,_=>false
def WM{a b:IntKind}(h:sameKind a b=true):a=b:=by cases a<;>cases b<;>first | rfl | cases h
def amQ(k:IntKind)(a b:Int):BinOp->Option Value
 | .add=>some (.int k (Nl k (aaK a b)))
 | .sub=>some (.int k (Nl k (fN a b)))
 | .mul=>some (.int k (Nl k (a*b)))
 | .eql=>some (.bool (CV a b))
 | .neq=>some (.bool (!CV a b))
 | .lss=>some (.bool (Et a b))
 | .leq=>some (.bool (Nv a b))
 | .gtr=>some (.bool (Et b a))
 | .geq=>some (.bool (Nv b a))
 | _=>none
def amR{P:Program}{op:BinOp}{k:IntKind}{a b:Int}{t:TypeId}{xo yo:Operand}{v:Value}(h:amQ k a b op=some v):pv P (do eqGuard op t xo yo (.int k a) (.int k b);binOp op t (.int k a) (.int k b))=some v/\scalar v=true:=by
 cases op<;>simp only[amQ,Option.some.injEq,reduceCtorEq] at h<;>subst h<;>refine⟨?_,rfl⟩<;>simp[eqGuard,binOp,Op.intArith,Op.intCmp,pv,Vr,cQ,fO,NY,Sg,YI,bne,Bind.bind,Sem.bind,Pure.pure]
def BY:List UInt8->List UInt8->Bool
 | [],[]=>true
 | a::l,b::m=>(match Nat.beq a.toNat b.toNat with
   | true=>BY l m
   | false=>false)
 | _,_=>false
def TG(l m:List UInt8):BY l m=(l == m):=by
 induction l generalizing m with
 | nil=>cases m<;>rfl
 | cons a l ih =>
   cases m with
   | nil=>rfl
   | cons b m =>
     simp only[BY];cases h:Nat.beq a.toNat b.toNat with
     | true =>
       have:a=b:=UInt8.toNat_inj.1 (Nat.eq_of_beq_eq_true h);subst this;simp only[ih];simp
     | false =>
       have:a≠b:=λe=>by subst e;have:=Nat.ne_of_beq_eq_false h;exact this rfl
       simp[this]
def azY(x y:ByteArray):BinOp->Option Value
 | .eql=>some (.bool (BY x.data.toList y.data.toList))
 | .neq=>some (.bool (!BY x.data.toList y.data.toList))
 | op=>nL op x y
def apN(x y:ByteArray)(op:BinOp):azY x y op=nL op x y:=by cases op<;>simp only[azY,nL,TG]
def agL(v:Option Value):Option AV:=match v with
 | some v=>(match scalar v with | true=>some (.sc v) | false=>none)
 | none=>none
def agM(v:Option Value):agL v=v.bind Z1:=by
 cases v with
 | none=>rfl
 | some v=>simp only[agL,Option.bind_some,Z1];cases scalar v<;>rfl
def scF(P:Program)(op:BinOp)(t:TypeId)(xo yo:Operand)(x y:Value):Option AV :=
 match x with
 | .int k a=>(match y with
   | .int k' b=>(match sameKind k k' with
     | true=>(match amQ k a b op with
       | some v=>some (.sc v)
       | none=>LP P op t xo yo (.sc (.int k a)) (.sc (.int k' b)))
     | false=>LP P op t xo yo (.sc (.int k a)) (.sc (.int k' b)))
   | y=>LP P op t xo yo (.sc (.int k a)) (.sc y))
 | .string a=>(match y with
   | .string b=>agL (azY a b op)
   | y=>LP P op t xo yo (.sc (.string a)) (.sc y))
 | x=>LP P op t xo yo (.sc x) (.sc y)
def XN(P:Program)(op:BinOp)(t:TypeId)(xo yo:Operand)(a b:AV):Option AV :=
 match a with
 | .sc x=>(match b with
   | .sc y=>scF P op t xo yo x y
   | b=>LP P op t xo yo (.sc x) b)
 | a=>LP P op t xo yo a b
def Ux(P:Program)(op:BinOp)(t:TypeId)(xo yo:Operand)(a b:AV):XN P op t xo yo a b=LP P op t xo yo a b:=by
 unfold XN;cases a with
 | sc x =>
   cases b with
   | sc y =>
     simp only[scF];cases x with
     | int k a =>
       cases y with
       | int k' b =>
         simp only;cases hk:sameKind k k' with
         | false=>rfl
         | true =>
           have:=WM hk;subst this;simp only;cases hf:amQ k a b op with
           | none=>rfl
           | some v =>
             obtain⟨h1,h2⟩:=amR (P:=P) (t:=t) (xo:=xo) (yo:=yo) hf;simp[LP,Rl,Vj,h1,Z1,h2]
       | _=>rfl
     | string a =>
       cases y with
       | string b=>simp only[agM,apN];rfl
       | _=>rfl
     | _=>rfl
   | _=>rfl
 | _=>rfl
def afB:List UInt8->Nat->Option UInt8
 | [],_=>none
 | a::_,0=>some a
 | _::l,n+1=>afB l n
def anJ(l:List UInt8)(n:Nat):afB l n=l[n]?:=by
 induction l generalizing n with
 | nil=>simp[afB]
 | cons a l ih=>cases n<;>simp[afB,ih]
def aBE:Option UInt8->Option AV
 | some b=>some (.sc (.int .u8 (.ofNat b.toNat)))
 | none=>none
def Xe(P:Program)(t:TypeId)(x ix:AV):Option AV :=
 match x with
 | .sc (.string s)=>(match P.underlying t with
   | some .string=>(match S2 ix with
     | some i=>aBE (afB s.data.toList i)
     | none=>none)
   | _=>Lk P t (.sc (.string s)) ix)
 | x=>Lk P t x ix
def nI(P:Program)(t:TypeId)(x ix:AV):Xe P t x ix=Lk P t x ix:=by
 unfold Xe;cases x with
 | sc v =>
   cases v with
   | string s =>
     simp only;split
     · rename_i hu
       unfold Lk;rw[hu];cases S2 ix with
       | none=>rfl
       | some i =>
         simp only[anJ];cases s.data.toList[i]?<;>rfl
     rfl
   | _=>rfl
 | _=>rfl
end AI
namespace AI
open Go Go.RowKit
def nth:List AV->Nat->AV
 | [],_=>.sc undef
 | a::_,0=>a
 | _::l,n+1=>nth l n
def ayM(l:List AV)(n:Nat):nth l n=l.getD n (.sc undef):=by
 induction l generalizing n with
 | nil=>simp[nth]
 | cons a l ih=>cases n<;>simp[nth,ih]
def evG:Option (List AV)->Option AV
 | some cs=>some (.el cs)
 | none=>none
def AZ(G:Bc)(fr:List AV):Operand->Option AV
 | .tmp t=>some (nth fr t)
 | .const v=>WG v
 | .global g=>evG (G g)
 | .func f=>some (.fn (.func f) [] [])
def Ct(G:Bc)(fr:List AV)(x:Operand):AZ G fr x=Bg G fr x:=by
 cases x with
 | tmp t=>simp only[AZ,Bg,ayM]
 | const v=>rfl
 | global g=>simp only[AZ,Bg];cases G g<;>rfl
 | func f=>rfl
def M0(s:AS):Option AV->Option AR
 | some v=>some (.val v s)
 | none=>none
def S0(s:AS)(o:Option AV):M0 s o=o.map (λv=>.val v s):=by cases o<;>rfl
def lZ:Option AS->Option AR
 | some s=>some (.val (.sc undef) s)
 | none=>none
def aqY(o:Option AS):lZ o=o.map (λs=>.val (.sc undef) s):=by cases o<;>rfl
def yY:Option (AV×AS)->Option AR
 | some r=>some (.val r.1 r.2)
 | none=>none
def uR(o:Option (AV×AS)):yY o=o.map (λr=>.val r.1 r.2):=by cases o<;>rfl
def gH{α β:Type}(o:Option α)(f:α->Option β):Option β:=match o with
 | some a=>f a
 | none=>none
def cZ{α β:Type}(o:Option α)(f:α->Option β):gH o f=o.bind f:=by cases o<;>rfl
def two{β:Type}(a b:Option AV)(f:AV->AV->Option β):Option β:=match a with
 | some x=>(match b with
   | some y=>f x y
   | none=>none)
 | none=>none
def three{β:Type}(a b d:Option AV)(f:AV->AV->AV->Option β):Option β:=match a with
 | some x=>(match b with
   | some y=>(match d with
     | some z=>f x y z
     | none=>none)
   | none=>none)
 | none=>none
def atM(x y:Option AV):Option AV->Option AV
 | some (.sc (.bool t))=>(match t with | true=>x | false=>y)
 | _=>none
def afA(s:AS):Option AV->Option AR
 | some z=>some (.val (.ptr s.nx 0) (s.new (.cells (cellsOf z))))
 | none=>none
def tB(s:AS):Option AV->Option AR
 | some z=>(match Sd z with | true=>none | false=>some (.val (.ptr s.nx 0) (s.new (.cells (cellsOf z)))))
 | none=>none
def nP(s:AS):Option AV->Option AR
 | some v=>(match notNil v with | true=>some (.val v s) | false=>none)
 | none=>none
def oU(t:TypeId)(s:AS)(v:Option AV):Option TypeDesc->Option AR
 | some d=>(match v with
   | some v=>(match isIface d with | true=>none | false=>some (.val (.ifc t v) s))
   | none=>none)
 | none=>none
def func1(f:Fn)(s:AS)(b:Option (List AV)):Option (List AV)->Option AR
 | some a=>(match b with
   | some b=>some (.val (.fn f a b) s)
   | none=>none)
 | none=>none
def ahB(P:Program)(s:AS)(t:TypeId)(l h m:Option (Option AV)):Option AV->Option AR
 | some a=>(match l with
   | some l=>(match h with
     | some h=>(match m with
       | some m=>M0 s (L2 P t a l h m)
       | none=>none)
     | none=>none)
   | none=>none)
 | none=>none
def aDY:Option AV->Option AR
 | some (.ifc t v)=>some (.pan (.ifc t v))
 | _=>none
def aBM(P:Program)(as:Option (List AV)):Option AV->Option AR
 | some (.fn (.func g) first caps)=>(match as with
   | some as=>(match MF P g with | true=>some (.ent g (first++as++caps)) | false=>none)
   | none=>none)
 | _=>none
def aDK(P:Program)(G:Bc)(fr:List AV)(s:AS):List Operand->List TypeId->Option AR
 | [x],[t]=>M0 s (gH (AZ G fr x) (WS P s t))
 | _,_=>none
def aAW(P:Program)(G:Bc)(fr:List AV)(s:AS):List Operand->List TypeId->Option AR
 | [x,y],[t,tx]=>yY (two (AZ G fr x) (AZ G fr y) (Mi P s t tx))
 | _,_=>none
def atO(P:Program)(s:AS)(f:List Value->Sem Value):Option (List Value)->Option AR
 | some vs=>M0 s (Wl P (f vs))
 | none=>none
def atP(P:Program)(s:AS)(f:Value->Sem Value):Option Value->Option AR
 | some v=>M0 s (Wl P (f v))
 | none=>none
def R3(P:Program)(G:Bc)(fr:List AV)(s:AS)(o:Oper)(cl:Call):Builtin->Option AR
 | .len=>aDK P G fr s cl.args.toList cl.argTypes.toList
 | .append=>aAW P G fr s cl.args.toList cl.argTypes.toList
 | .max=>atO P s (λvs=>Builtin.max_ cl.argTypes o.type vs.toArray) (gH (ZO G fr cl.args.toList) O6)
 | .min=>atO P s (λvs=>Builtin.min_ cl.argTypes o.type vs.toArray) (gH (ZO G fr cl.args.toList) O6)
 | _=>none
def cP(P:Program)(G:Bc)(fr:List AV)(s:AS)(o:Oper)(cl:Call):Option AR :=
 match cl.callee with
 | .builtin b=>R3 P G fr s o cl b
 | .value f=>aBM P (ZO G fr cl.args.toList) (AZ G fr f)
 | _=>none
def jP(s:AS):Option Operand->Option AR
 | none=>some (.val (.mp s.nx) (s.new (.map [] 0)))
 | some _=>none
def Uy(P:Program)(G:Bc)(fr:List AV)(s:AS)(o:Oper):Option AR :=
 match o.op with
 | .move x=>M0 s (AZ G fr x)
 | .assign x=>M0 s (AZ G fr x)
 | .pick c a b=>M0 s (atM (AZ G fr a) (AZ G fr b) (AZ G fr c))
 | .alloc e=>afA s (ME P e)
 | .box _ x=>tB s (AZ G fr x)
 | .build t ps=>M0 s (gH (Ml G fr ps.toList) (XO P t))
 | .buildSlice t n ps=>M0 s (gH (Ml G fr ps.toList) (MB P t n))
 | .load t a=>M0 s (gH (AZ G fr a) (KY P s t))
 | .store t a x=>lZ (two (AZ G fr a) (AZ G fr x) (L3 P s t))
 | .nilCheck x=>nP s (AZ G fr x)
 | .binOp op t x y _=>M0 s (two (AZ G fr x) (AZ G fr y) (XN P op t x y))
 | .unOp op _ x=>atP P s (Op.unary op) (gH (AZ G fr x) Zh)
 | .convert src dst x=>M0 s (gH (AZ G fr x) (Wj P src dst))
 | .makeInterface t x=>oU t s (AZ G fr x) (P.underlying t)
 | .makeFunc f first caps=>func1 f s (ZO G fr caps.toList) (ZO G fr first.toList)
 | .makeMap _ r=>jP s r
 | .makeSlice t l c=>yY (two (AZ G fr l) (AZ G fr c) (JE P s t))
 | .slice t x lo hi mx=>ahB P s t (gI G fr lo) (gI G fr hi) (gI G fr mx) (AZ G fr x)
 | .fieldAddr t x k=>M0 s (gH (AZ G fr x) λa=>RX P t a k)
 | .field t x k=>M0 s (gH (AZ G fr x) λa=>XR P t a k)
 | .indexAddr t x i=>M0 s (two (AZ G fr x) (AZ G fr i) (Dw P t))
 | .index t x i=>M0 s (two (AZ G fr x) (AZ G fr i) (Xe P t))
 | .lookup t x k ok=>M0 s (two (AZ G fr x) (AZ G fr k) λa b=>Jf P s t a b ok)
 | .mapUpdate t m k x=>lZ (three (AZ G fr m) (AZ G fr k) (AZ G fr x) (KG P s t))
 | .insert t m k x=>lZ (three (AZ G fr m) (AZ G fr k) (AZ G fr x) (KG P s t))
 | .mapEntry t m k=>yY (two (AZ G fr m) (AZ G fr k) (PP P s t))
 | .entryStore _ m st x=>lZ (three (AZ G fr m) (AZ G fr st) (AZ G fr x) (MC s))
 | .extract x k=>M0 s (gH (AZ G fr x) λa=>RW a k)
 | .call cl=>cP P G fr s o cl
 | .panic x=>aDY (AZ G fr x)
 | _=>none
def vD(P:Program)(G:Bc)(fr:List AV)(s:AS)(o:Oper)(cl:Call):cP P G fr s o cl=Th P G fr s o cl:=by
 unfold cP Th;cases hc:cl.callee with
 | value f =>
   simp only[Ct];cases Bg G fr f with
   | none=>rfl
   | some v =>
     cases v with
     | fn g a b =>
       cases g with
       | func g =>
         cases ZO G fr cl.args.toList with
         | none=>rfl
         | some as =>
           simp only[aBM];cases MF P g<;>rfl
       | _=>rfl
     | _=>rfl
 | invoke r m=>rfl
 | builtin b =>
   cases b<;>try rfl
   · simp only[R3]
     cases hx:cl.args.toList with
     | nil=>rfl
     | cons x xs =>
       cases xs with
       | nil=>rfl
       | cons y ys =>
         cases ys with
         | cons z zs=>rfl
         | nil =>
           cases ht:cl.argTypes.toList with
           | nil=>rfl
           | cons t ts =>
             cases ts with
             | nil=>rfl
             | cons u us =>
               cases us with
               | cons v vs=>rfl
               | nil =>
                 simp only[aAW,Ct];cases Bg G fr x<;>cases Bg G fr y<;>first | rfl | exact uR _
   · simp only[R3]
     cases hx:cl.args.toList with
     | nil=>rfl
     | cons x xs =>
       cases xs with
       | cons y ys=>rfl
       | nil =>
         cases ht:cl.argTypes.toList with
         | nil=>rfl
         | cons t ts =>
           cases ts with
           | cons u us=>rfl
           | nil=>simp only[aDK,Ct,cZ];exact S0 _ _
   simp only[R3,cZ];cases (ZO G fr cl.args.toList).bind O6 with
   | none=>rfl
   | some vs=>exact S0 _ _
   simp only[R3,cZ];cases (ZO G fr cl.args.toList).bind O6 with
   | none=>rfl
   | some vs=>exact S0 _ _
def Nr(P:Program)(G:Bc)(fr:List AV)(s:AS)(o:Oper):Uy P G fr s o=QC P G fr s o:=by
 unfold Uy QC;cases ho:o.op<;>simp only[Ct,S0,aqY,uR,cZ,vD]
 case pick c a b =>
   cases Bg G fr c with
   | none=>rfl
   | some v =>
     cases v with
     | sc u=>cases u<;>first | rfl | (rename_i t;cases t<;>rfl)
     | _=>rfl
 case alloc e=>cases ME P e<;>rfl
 case box e x =>
   cases Bg G fr x with
   | none=>rfl
   | some v=>cases v<;>rfl
 case store t a x=>cases Bg G fr a<;>cases Bg G fr x<;>rfl
 case nilCheck x =>
   cases Bg G fr x with
   | none=>rfl
   | some v=>simp only[nP];cases notNil v<;>rfl
 case binOp op t x y z=>cases Bg G fr x<;>cases Bg G fr y<;>first | rfl | (simp only[two,Ux])
 case unOp op t x=>cases (Bg G fr x).bind Zh with
   | none=>rfl
   | some v=>exact S0 _ _
 case makeInterface t x =>
   cases Bg G fr x with
   | none=>cases P.underlying t<;>rfl
   | some v =>
     cases P.underlying t with
     | none=>rfl
     | some d=>simp only[oU];cases isIface d<;>rfl
 case makeFunc f a b=>cases ZO G fr a.toList<;>cases ZO G fr b.toList<;>rfl
 case makeMap t r=>cases r<;>rfl
 case makeSlice t l c=>cases Bg G fr l<;>cases Bg G fr c<;>rfl
 case slice t x lo hi mx =>
   cases Bg G fr x<;>cases gI G fr lo<;>cases gI G fr hi<;>cases gI G fr mx<;>first | rfl | exact S0 _ _
 case indexAddr t x i=>cases Bg G fr x<;>cases Bg G fr i<;>rfl
 case index t x i=>cases Bg G fr x<;>cases Bg G fr i<;>first | rfl | (simp only[two,nI])
 case lookup t x k ok=>cases Bg G fr x<;>cases Bg G fr k<;>rfl
 case mapUpdate t m k x=>cases Bg G fr m<;>cases Bg G fr k<;>cases Bg G fr x<;>rfl
 case insert t m k x=>cases Bg G fr m<;>cases Bg G fr k<;>cases Bg G fr x<;>rfl
 case mapEntry t m k=>cases Bg G fr m<;>cases Bg G fr k<;>rfl
 case entryStore t m k x=>cases Bg G fr m<;>cases Bg G fr k<;>cases Bg G fr x<;>rfl
 case panic x =>
   cases Bg G fr x with
   | none=>rfl
   | some v=>cases v<;>rfl
end AI
namespace AI
open Go Go.RowKit
abbrev Rec:=Tk->Option Rs
def aEN(r:Rec)(y:Code):Option Rs->Option Rs
 | some (.code e fr s)=>(match e with
   | .normal=>r (.code y fr s)
   | e=>some (.code e fr s))
 | _=>none
def asM(r:Rec)(x y:Code)(fr:List AV)(s:AS):Option AV->Option Rs
 | some (.sc (.bool t))=>(match t with
   | true=>r (.code x fr s)
   | false=>r (.code y fr s))
 | _=>none
def aaR(id:Nat):Option Rs->Option Rs
 | some (.code e fr s)=>some (.code (EZ id e) fr s)
 | _=>none
def abF:Option Rs->Option Rs
 | some (.code e fr s)=>some (.code e fr s)
 | _=>none
def aBL(P:Program)(G:Bc)(ops:Array Oper)(q:Nat)(rs:List Bl):Option Rs->Option Rs
 | some (.tr t fr s)=>(match azW P G ops t s q rs with
   | true=>some (.code .normal fr s)
   | false=>none)
 | _=>none
def aCP(P:Program)(G:Bc)(r:Rec)(ops:Array Oper)(fr:List AV)(s:AS):Option (List Bl)->Option Rs
 | some rs=>aBL P G ops s.nx rs (r (.draw ops ops.toList fr (s.hold rs) s.nx))
 | none=>none
def aBK(P:Program)(G:Bc)(r:Rec)(ops:Array Oper)(fr:List AV)(s:AS):Bool->Option Rs
 | true=>aCP P G r ops fr s (rsv P ops.toList)
 | false=>none
def tN(P:Program)(G:Bc)(r:Rec)(ops:Array Oper)(fr:List AV)(s:AS):Bool->Option Rs
 | false=>abF (r (.ops ops ops.toList fr s))
 | true=>aBK P G r ops fr s (MJ ops)
def ahF(P:Program)(G:Bc)(r:Rec)(fr:List AV)(s:AS):Code->Option Rs
 | .skip=>some (.code .normal fr s)
 | .exit id=>some (.code (.exit id) fr s)
 | .ret=>some (.code .ret fr s)
 | .seq x y=>aEN r y (r (.code x fr s))
 | .cond q x y=>asM r x y fr s (AZ G fr q)
 | .block id c=>aaR id (r (.code c fr s))
 | .loop c=>abF (r (.loop c fr s))
 | .region _ ops d=>tN P G r ops fr s d
 | _=>none
def atH(r:Rec)(c:Code):Option Rs->Option Rs
 | some (.code e fr s)=>(match e with
   | .normal=>r (.loop c fr s)
   | e=>some (.code e fr s))
 | _=>none
def aMF(r:Rec)(ops:Array Oper)(dst:Option Tmp)(l:List Oper)(fr:List AV):Option Rs->Option Rs
 | some (.call c s)=>(match c with
   | .ret v=>r (.ops ops l (Jw fr dst v) s)
   | .pan v=>some (.code (.pan v) fr s))
 | _=>none
def apM(r:Rec)(ops:Array Oper)(fr:List AV)(s:AS):List Oper->Option Rs
 | []=>some (.code .normal fr s)
 | o::l=>aMF r ops o.dst l fr (r (.op ops o fr s))
def trK(fr:List AV)(s:AS)(v:AV):Option Rs->Option Rs
 | some (.tr t Wr s2)=>some (.tr ((fr,s,v)::t) Wr s2)
 | _=>none
def aAH(r:Rec)(ops:Array Oper)(dst:Option Tmp)(l:List Oper)(fr:List AV)(s:AS)(q:Nat):Option Rs->Option Rs
 | some (.call (.ret v) s1)=>trK fr s v (r (.draw ops l (Jw fr dst v) s1 q))
 | _=>none
def auX(r:Rec)(ops:Array Oper)(o:Oper)(l:List Oper)(fr:List AV)(s:AS)(q:Nat)(v:AV):Option Rs:=trK fr s v (r (.draw ops l (Jw fr o.dst v) s (q+1)))
def aAG(r:Rec)(ops:Array Oper)(o:Oper)(l:List Oper)(fr:List AV)(s:AS)(q:Nat):Bool->Option Rs
 | true=>auX r ops o l fr s q (Pf ops fr o q)
 | false=>aAH r ops o.dst l fr s q (r (.op ops o fr s))
def lK(r:Rec)(ops:Array Oper)(fr:List AV)(s:AS)(q:Nat):List Oper->Option Rs
 | []=>some (.tr [] fr s)
 | o::l=>aAG r ops o l fr s q (BX o.op)
def aBF:Option Rs->Option Rs
 | some (.call c s)=>some (.call c s)
 | _=>none
def opK(r:Rec)(s:AS):Option AR->Option Rs
 | some (.val v s1)=>some (.call (.ret v) s1)
 | some (.pan v)=>some (.call (.pan v) s)
 | some (.ent f args)=>aBF (r (.call f args s))
 | none=>none
def acM(ops:Array Oper)(fr:List AV):Option (Nat×Bool)->Bool
 | none=>true
 | some p=>(match (ops[p.1]?).bind (·.dst) with
   | some d=>(match nth fr d with
     | .sc (.bool b)=>b == p.2
     | _=>false)
   | none=>false)
def azX(P:Program)(G:Bc)(r:Rec)(fr:List AV)(s:AS)(o:Oper):Bool->Option Rs
 | true=>opK r s (Uy P G fr s o)
 | false=>some (.call (.ret (.sc undef)) s)
def aCR(k:CR->Option CR):Option Rs->Option Rs
 | some (.call c s)=>(match k c with
   | some c1=>some (.call c1 s)
   | none=>none)
 | _=>none
def aEC(s:AS)(n:Nat):Option AV->Option Rs
 | some v=>some (.call (.ret v) (fin v s n))
 | none=>none
def aBD(P:Program)(fn:Func)(n:Nat):Option Rs->Option Rs
 | some (.code e fr s)=>(match e with
   | .normal=>aEC s n (JF P s fn fr)
   | .ret=>aEC s n (JF P s fn fr)
   | .pan v=>some (.call (.pan v) (s.cut n))
   | .exit _=>none)
 | _=>none
def aBC(P:Program)(r:Rec)(fn:Func)(args:List AV)(s:AS):Option Code->Option Rs
 | some c=>aBD P fn s.nx (r (.code c (args++List.replicate (fn.ntmps - args.length) (.sc undef)) s))
 | none=>none
def rQ(P:Program)(r:Rec)(args:List AV)(s:AS):Option Func->Option Rs
 | some fn=>aBC P r fn args s fn.body
 | none=>none
def aCQ(P:Program)(r:Rec)(f:FuncId)(args:List AV)(s:AS):Option (FuncId×List AV×(CR->Option CR))->Option Rs
 | some (g,Yn,k)=>aCR k (r (.call g Yn s))
 | none=>rQ P r args s P.funcs[f]?
def aBO(P:Program)(H:Ty)(r:Rec)(f:FuncId)(args:List AV)(s:AS):Option (CR×AS)->Option Rs
 | some (c,s1)=>some (.call c s1)
 | none=>aCQ P r f args s (H f args)
def step(P:Program)(G:Bc)(X:arZ)(H:Ty)(r:Rec):Tk->Option Rs
 | .code c fr s=>ahF P G r fr s c
 | .loop c fr s=>atH r c (r (.code c fr s))
 | .ops ops l fr s=>apM r ops fr s l
 | .draw ops l fr s q=>lK r ops fr s q l
 | .op ops o fr s=>azX P G r fr s o (acM ops fr o.guard)
 | .call f args s=>aBO P H r f args s (X f args s)
end AI
namespace AI
open Go Go.RowKit
def aMC(l:List AV):Nat->AV:=List.rec (motive:=λ_=>Nat->AV) (λ_=>.sc undef) (λa _ ih n=>Nat.rec (motive:=λ_=>AV) a (λk _=>ih k) n) l
def aMK(v:AV)(l:List AV):Nat->List AV:=List.rec (motive:=λ_=>Nat->List AV) (λ_=>[]) (λa t ih n=>Nat.rec (motive:=λ_=>List AV) (v::t) (λk _=>a::ih k) n) l
def aAX(fr:List AV)(dst:Option Tmp)(v:AV):List AV:=Option.rec (motive:=λ_=>List AV) fr (λd=>aMK v fr d) dst
abbrev Sm:=Program->Bc->List AV->AS->Oper->Option AR
def avR(t:Tmp)(_:Bc)(fr:List AV):Option AV:=some (aMC fr t)
def alN(v:Value)(_:Bc)(_:List AV):Option AV:=WG v
def avQ(g:Nat)(G:Bc)(_:List AV):Option AV:=evG (G g)
def aJK(f:FuncId)(_:Bc)(_:List AV):Option AV:=some (.fn (.func f) [] [])
def evR(x:Operand):Bc->List AV->Option AV:=Operand.rec (motive:=λ_=>Bc->List AV->Option AV) avR alN avQ aJK x
def eW{α β:Type}(o:Option α)(f:α->Option β):Option β:=Option.rec (motive:=λ_=>Option β) none f o
def aDO(s:AS)(v:AV):Option AR:=some (.val v s)
def yZ(s:AS)(o:Option AV):Option AR:=eW o (aDO s)
def tX(x:Operand):Sm:=λ_ G fr s _=>yZ s (evR x G fr)
def apF(c a b:Operand):Sm:=λ_ G fr s _=>M0 s (atM (AZ G fr a) (AZ G fr b) (AZ G fr c))
def agN(e:TypeId):Sm:=λP _ _ s _=>afA s (ME P e)
def azO(_:TypeId)(x:Operand):Sm:=λ_ G fr s _=>tB s (AZ G fr x)
def agO(t:TypeId)(ps:Array (Nat×Operand)):Sm:=λP G fr s _=>M0 s (gH (Ml G fr ps.toList) (XO P t))
def Z2(t:TypeId)(n:Nat)(ps:Array (Nat×Operand)):Sm:=λP G fr s _=>M0 s (gH (Ml G fr ps.toList) (MB P t n))
def apD(t:TypeId)(a:Operand):Sm:=λP G fr s _=>yZ s (eW (evR a G fr) (KY P s t))
def agW(t:TypeId)(a x:Operand):Sm:=λP G fr s _=>lZ (two (AZ G fr a) (AZ G fr x) (L3 P s t))
def azQ(x:Operand):Sm:=λ_ G fr s _=>nP s (AZ G fr x)
def azN(op:BinOp)(t:TypeId)(x y:Operand)(_:TypeId):Sm:=λP G fr s _=>yZ s (eW (evR x G fr) (λa=>eW (evR y G fr) (λb=>XN P op t x y a b)))
def aEL(op:UnOp)(_:TypeId)(x:Operand):Sm:=λP G fr s _=>atP P s (Op.unary op) (gH (AZ G fr x) Zh)
def apA(src dst:TypeId)(x:Operand):Sm:=λP G fr s _=>M0 s (gH (AZ G fr x) (Wj P src dst))
def agR(t:TypeId)(x:Operand):Sm:=λP G fr s _=>oU t s (AZ G fr x) (P.underlying t)
def apC(f:Fn)(first caps:Array Operand):Sm:=λ_ G fr s _=>func1 f s (ZO G fr caps.toList) (ZO G fr first.toList)
def azP(_:TypeId)(r:Option Operand):Sm:=λ_ _ _ s _=>jP s r
def apE(t:TypeId)(l c:Operand):Sm:=λP G fr s _=>yY (two (AZ G fr l) (AZ G fr c) (JE P s t))
def agV(t:TypeId)(x:Operand)(lo hi mx:Option Operand):Sm:=λP G fr s _=>ahB P s t (gI G fr lo) (gI G fr hi) (gI G fr mx) (AZ G fr x)
def xT(t:TypeId)(x:Operand)(k:Nat):Sm:=λP G fr s _=>yZ s (eW (evR x G fr) λa=>RX P t a k)
def agQ(t:TypeId)(x:Operand)(k:Nat):Sm:=λP G fr s _=>M0 s (gH (AZ G fr x) λa=>XR P t a k)
def xU(t:TypeId)(x i:Operand):Sm:=λP G fr s _=>yZ s (eW (evR x G fr) (λa=>eW (evR i G fr) (λb=>Dw P t a b)))
def agS(t:TypeId)(x i:Operand):Sm:=λP G fr s _=>yZ s (eW (evR x G fr) (λa=>eW (evR i G fr) (λb=>Xe P t a b)))
def xV(t:TypeId)(x k:Operand)(ok:Bool):Sm:=λP G fr s _=>M0 s (two (AZ G fr x) (AZ G fr k) λa b=>Jf P s t a b ok)
def agU(t:TypeId)(m k x:Operand):Sm:=λP G fr s _=>lZ (three (AZ G fr m) (AZ G fr k) (AZ G fr x) (KG P s t))
def agP(t:TypeId)(m k:Operand):Sm:=λP G fr s _=>yY (two (AZ G fr m) (AZ G fr k) (PP P s t))
def xS(_:TypeId)(m st x:Operand):Sm:=λ_ G fr s _=>lZ (three (AZ G fr m) (AZ G fr st) (AZ G fr x) (MC s))
def qH(x:Operand)(k:Nat):Sm:=λ_ G fr s _=>M0 s (gH (AZ G fr x) λa=>RW a k)
def aoZ(cl:Call):Sm:=λP G fr s o=>cP P G fr s o cl
def agT(x:Operand):Sm:=λ_ G fr _ _=>aDY (AZ G fr x)
def aEK:Sm:=λ_ _ _ _ _=>none
def aDW(op:Op):Sm:=match op with
 | .move x=>tX x
 | .assign x=>tX x
 | .pick c a b=>apF c a b
 | .alloc e=>agN e
 | .box e x=>azO e x
 | .build t ps=>agO t ps
 | .buildSlice t n ps=>Z2 t n ps
 | .load t a=>apD t a
 | .store t a x=>agW t a x
 | .nilCheck x=>azQ x
 | .binOp op t x y z=>azN op t x y z
 | .unOp op t x=>aEL op t x
 | .convert a b x=>apA a b x
 | .makeInterface t x=>agR t x
 | .makeFunc f a b=>apC f a b
 | .makeMap t r=>azP t r
 | .makeSlice t l c=>apE t l c
 | .slice t x lo hi mx=>agV t x lo hi mx
 | .fieldAddr t x k=>xT t x k
 | .field t x k=>agQ t x k
 | .indexAddr t x i=>xU t x i
 | .index t x i=>agS t x i
 | .lookup t x k ok=>xV t x k ok
 | .mapUpdate t m k x=>agU t m k x
 | .insert t m k x=>agU t m k x
 | .mapEntry t m k=>agP t m k
 | .entryStore t m st x=>xS t m st x
 | .extract x k=>qH x k
 | .call cl=>aoZ cl
 | .panic x=>agT x
 | _=>aEK
def acN(ops:Array Oper)(fr:List AV)(g:Option (Nat×Bool)):Bool:=Option.rec (motive:=λ_=>Bool) true (λp=>acM ops fr (some p)) g
def aDX(r:Rec)(ops:Array Oper)(dst:Option Tmp)(l:List Oper)(fr:List AV):Option Rs->Option Rs
 | some (.call c s)=>(match c with
   | .ret v=>r (.ops ops l (aAX fr dst v) s)
   | .pan v=>some (.code (.pan v) fr s))
 | _=>none
def uB(P:Program)(G:Bc)(r:Rec)(fr:List AV)(s:AS)(o:Oper)(b:Bool):Option Rs:=Bool.rec (motive:=λ_=>Option Rs) (some (.call (.ret (.sc undef)) s)) (opK r s (aDW o.op P G fr s o)) b
def ahG(P:Program)(G:Bc)(r:Rec)(ops:Array Oper)(fr:List AV)(s:AS)(l:List Oper):Option Rs:=List.rec (motive:=λ_=>Option Rs) (some (.code .normal fr s)) (λo l _=>aDX r ops o.dst l fr (uB P G r fr s o (acN ops fr o.guard))) l
abbrev Ss:=Program->Bc->Rec->List AV->AS->Option Rs
def azV:Ss:=λ_ _ _ fr s=>some (.code .normal fr s)
def azT(id:Nat):Ss:=λ_ _ _ fr s=>some (.code (.exit id) fr s)
def aEO:Ss:=λ_ _ _ fr s=>some (.code .ret fr s)
def aEP(x y:Code):Ss:=λ_ _ r fr s=>aEN r y (r (.code x fr s))
def azS(q:Operand)(x y:Code):Ss:=λ_ G r fr s=>asM r x y fr s (AZ G fr q)
def apK(id:Nat)(c:Code):Ss:=λ_ _ r fr s=>aaR id (r (.code c fr s))
def azU(c:Code):Ss:=λ_ _ r fr s=>abF (r (.loop c fr s))
def ahE(_:Nat)(ops:Array Oper)(d:Bool):Ss:=λP G r fr s=>tN P G r ops fr s d
def aML:Ss:=λ_ _ _ _ _=>none
def alH(c:Code):Ss:=match c with
 | .skip=>azV
 | .exit id=>azT id
 | .ret=>aEO
 | .seq x y=>aEP x y
 | .cond q x y=>azS q x y
 | .block id c=>apK id c
 | .loop c=>azU c
 | .region id ops d=>ahE id ops d
 | _=>aML
def O4(P:Program)(G:Bc)(X:arZ)(H:Ty)(r:Rec):Tk->Option Rs
 | .code c fr s=>alH c P G r fr s
 | .loop c fr s=>atH r c (r (.code c fr s))
 | .ops ops l fr s=>ahG P G r ops fr s l
 | .draw ops l fr s q=>lK r ops fr s q l
 | .op ops o fr s=>uB P G r fr s o (acN ops fr o.guard)
 | .call f args s=>aBO P H r f args s (X f args s)
end AI
namespace AI
open Go Go.RowKit
mutual
def plain:AV->Bool
 | .sc _=>true
 | .agg cs=>BN cs
 | .CZ cs=>BN cs
 | .sl o _ cs=>(match o with | .row _ _=>false | _=>true)&&BN cs
 | .ifc _ v=>plain v
 | .el cs=>BN cs
 | .fn _ a b=>BN a&&BN b
 | .any=>true
 | _=>false
def BN:List AV->Bool
 | []=>true
 | a::l=>plain a&&BN l
end
mutual
def TQ:AV->AV
 | .agg cs=>.agg (YM cs)
 | .CZ cs=>.CZ (YM cs)
 | .sl o n cs=>.sl (match o with | .row _ _=>.lost | o=>o) n (YM cs)
 | .ifc t v=>.ifc t (TQ v)
 | .el cs=>.el (YM cs)
 | a=>a
def YM:List AV->List AV
 | []=>[]
 | a::l=>TQ a::YM l
end
mutual
def dA:AV->Bool
 | .sc _=>true
 | .agg cs=>Lm cs
 | .CZ cs=>Lm cs
 | .sl _ _ cs=>Lm cs
 | .ifc _ v=>dA v
 | .el cs=>Lm cs
 | .any=>true
 | _=>false
def Lm:List AV->Bool
 | []=>true
 | a::l=>dA a&&Lm l
end
section
variable {c c':Cx} {w w':World}
mutual
def Rp.plain(hv:∀g i v,PJ c w g i v->PJ c' w' g i v):∀{a:AV} {v:Value},AI.plain a=true->Rp c w a v->Rp c' w' a v:=by
 intro a v hp h;cases h with
 | sc h1=>exact .sc h1
 | agg h1=>exact .agg (CU.plain hv hp h1)
 | CZ h1=>exact .CZ (CU.plain hv hp h1)
 | @sl0 own A cap h1 =>
   simp only[AI.plain,Bool.and_eq_true] at hp;cases own with
   | full=>exact .sl0 h1
   | nil=>exact .sl0 h1
   | nn=>exact .sl0 h1
   | lost=>exact .sl0 h1
   | row r sz=>cases hp.1
 | @M9 own n cap g o cs hn h1 ho =>
   simp only[AI.plain,Bool.and_eq_true] at hp;refine .M9 hn (Bk.plain hv hp.2 h1) ?_;cases own with
   | full=>exact ho
   | nil=>exact ho
   | nn=>exact ho
   | lost=>trivial
   | row r sz=>cases hp.1
 | msl hn h1=>cases hp
 | el h1=>exact .el (Bk.plain hv hp h1)
 | ptr h1=>cases hp
 | fn h1 h2 =>
   simp only[AI.plain,Bool.and_eq_true] at hp;exact .fn (CU.plain hv hp.1 h1) (CU.plain hv hp.2 h2)
 | ifc h1=>exact .ifc (Rp.plain hv hp h1)
 | mp h1=>cases hp
 | any h1=>exact .any h1
 | raw=>first | (cases hp;done) | exact .raw
def CU.plain(hv:∀g i v,PJ c w g i v->PJ c' w' g i v):∀{a:List AV} {v:List Value},AI.BN a=true->CU c w a v->CU c' w' a v:=by
 intro a v hp h;cases h with
 | nil=>exact .nil
 | cons h1 t =>
   simp only[AI.BN,Bool.and_eq_true] at hp;exact .cons (Rp.plain hv hp.1 h1) (CU.plain hv hp.2 t)
def Bk.plain(hv:∀g i v,PJ c w g i v->PJ c' w' g i v):∀{a:List AV} {g o:Nat},AI.BN a=true->Bk c w g o a->Bk c' w' g o a:=by
 intro a g o hp h;cases h with
 | nil=>exact .nil
 | cons hvv h1 t =>
   simp only[AI.BN,Bool.and_eq_true] at hp;exact .cons (hv _ _ _ hvv) (Rp.plain hv hp.1 h1) (Bk.plain hv hp.2 t)
end
mutual
def Rp.TQ(hv:∀g i v,PJ c w g i v->PJ c' w' g i v):∀{a:AV} {v:Value},dA a=true->Rp c w a v->Rp c' w' (AI.TQ a) v:=by
 intro a v hp h;cases h with
 | sc h1=>exact .sc h1
 | agg h1=>exact .agg (CU.TQ hv hp h1)
 | CZ h1=>exact .CZ (CU.TQ hv hp h1)
 | @sl0 own A cap h1 =>
   cases own with
   | full=>exact .sl0 h1
   | nil=>exact .sl0 h1
   | nn=>exact .sl0 h1
   | lost=>exact .sl0 h1
   | row r sz=>exact .sl0 trivial
 | @M9 own n cap g o cs hn h1 ho =>
   have h2:=Bk.TQ hv hp h1;refine .M9 hn h2 ?_;cases own with
   | full=>exact ho
   | nil=>exact ho
   | nn=>exact ho
   | lost=>trivial
   | row r sz=>trivial
 | msl hn h1=>cases hp
 | el h1=>exact .el (Bk.TQ hv hp h1)
 | ptr h1=>cases hp
 | fn h1 h2=>cases hp
 | ifc h1=>exact .ifc (Rp.TQ hv hp h1)
 | mp h1=>cases hp
 | any h1=>exact .any h1
 | raw=>first | (cases hp;done) | exact .raw
def CU.TQ(hv:∀g i v,PJ c w g i v->PJ c' w' g i v):∀{a:List AV} {v:List Value},Lm a=true->CU c w a v->CU c' w' (AI.YM a) v:=by
 intro a v hp h;cases h with
 | nil=>exact .nil
 | cons h1 t =>
   simp only[AI.Lm,Bool.and_eq_true] at hp;exact .cons (Rp.TQ hv hp.1 h1) (CU.TQ hv hp.2 t)
def Bk.TQ(hv:∀g i v,PJ c w g i v->PJ c' w' g i v):∀{a:List AV} {g o:Nat},Lm a=true->Bk c w g o a->Bk c' w' g o (AI.YM a):=by
 intro a g o hp h;cases h with
 | nil=>exact .nil
 | cons hvv h1 t =>
   simp only[AI.Lm,Bool.and_eq_true] at hp;exact .cons (hv _ _ _ hvv) (Rp.TQ hv hp.1 h1) (Bk.TQ hv hp.2 t)
end
end
def s0:AS:=⟨[],0,[],0⟩
end AI
namespace AI
open Go Go.RowKit
mutual
def under(n m:Nat):AV->Bool
 | .sc _=>true
 | .agg cs=>FD n m cs
 | .CZ cs=>FD n m cs
 | .sl o _ cs=>(match o with | .row r _=>decide (r < m) | _=>true)&&FD n m cs
 | .msl id _ _=>decide (id < n)
 | .el cs=>FD n m cs
 | .ptr id _=>decide (id < n)
 | .fn _ a b=>FD n m a&&FD n m b
 | .ifc _ v=>under n m v
 | .mp id=>decide (id < n)
 | .any=>true
 | .raw _ _ _=>true
def FD(n m:Nat):List AV->Bool
 | []=>true
 | a::l=>under n m a&&FD n m l
end
mutual
def GA(n m:Nat):∀{a:AV},plain a=true->under n m a=true
 | .sc _,_=>rfl
 | .agg cs,h=>by simp only[plain] at h;simp only[under];exact Ce n m h
 | .CZ cs,h=>by simp only[plain] at h;simp only[under];exact Ce n m h
 | .sl o k cs,h=>by
   simp only[plain,Bool.and_eq_true] at h;simp only[under,Bool.and_eq_true];refine⟨?_,Ce n m h.2⟩;cases o with
   | row r sz=>cases h.1
   | _=>rfl
 | .msl _ _ _,h=>by cases h
 | .el cs,h=>by simp only[plain] at h;simp only[under];exact Ce n m h
 | .ptr _ _,h=>by cases h
 | .fn _ a b,h=>by
   simp only[plain,Bool.and_eq_true] at h;simp only[under,Bool.and_eq_true];exact⟨Ce n m h.1,Ce n m h.2⟩
 | .ifc _ v,h=>by simp only[plain] at h;simp only[under];exact GA n m h
 | .mp _,h=>by cases h
 | .any,_=>rfl
 | .raw _ _ _,_=>rfl
def Ce(n m:Nat):∀{l:List AV},BN l=true->FD n m l=true
 | [],_=>rfl
 | a::l,h=>by
   simp only[BN,Bool.and_eq_true] at h;simp only[FD,Bool.and_eq_true];exact⟨GA n m h.1,Ce n m h.2⟩
end
def Cx.upto(c:Cx)(n m:Nat):Cx:=⟨c.base,c.Dv.take n,c.rows.take m,c.bad⟩
def J1{α:Type}{l:List α}{n i:Nat}{x:α}(h:(l.take n)[i]?=some x):l[i]?=some x/\i < n:=by
 rw[List.getElem?_take] at h;split at h;rename_i hi;exact⟨h,hi⟩;cases h
def Vg{α:Type}{l:List α}{n i:Nat}{x:α}(h:l[i]?=some x)(hi:i < n):(l.take n)[i]?=some x:=by
 rw[List.getElem?_take,if_pos hi];exact h
section
variable {c:Cx} {w:World} {n m:Nat}
def agZ{g i:Nat}(h:(c.upto n m).yA g i):c.yA g i:=by
 rcases h with h | ⟨r,n,cap,sz,hr,h⟩ | h
 exact .inl (List.mem_of_mem_take h);exact .inr (.inl ⟨r,n,cap,sz,(J1 hr).1,h⟩);exact .inr (.inr h)
def Zv{g i:Nat}{v:Value}(h:PJ c w g i v):PJ (c.upto n m) w g i v:=⟨h.1,λhs=>h.2.1 (agZ hs),h.2.2⟩
mutual
def Rp.upto:∀{a:AV} {v:Value},under n m a=true->Rp c w a v->Rp (c.upto n m) w a v:=by
 intro a v hp h;cases h with
 | sc h1=>exact .sc h1
 | agg h1=>exact .agg (CU.upto hp h1)
 | CZ h1=>exact .CZ (CU.upto hp h1)
 | @sl0 own A cap h1 =>
   simp only[AI.under,Bool.and_eq_true] at hp;cases own with
   | full=>exact .sl0 h1
   | nil=>exact .sl0 h1
   | nn=>exact .sl0 h1
   | lost=>exact .sl0 trivial
   | row r sz =>
     have hr:r < m:=of_decide_eq_true hp.1;refine .sl0 ⟨h1.1,?_⟩;have:=h1.2;simp only[Cx.upto,List.length_take];omega
 | @M9 own k cap g o cs hn h1 ho =>
   simp only[AI.under,Bool.and_eq_true] at hp;refine .M9 hn (Bk.upto hp.2 h1) ?_;cases own with
   | full=>exact ho
   | nil=>exact ho
   | nn=>exact ho
   | lost=>trivial
   | row r sz =>
     have hr:r < m:=of_decide_eq_true hp.1;refine⟨ho.1,ho.2.1,?_,λe=>ho.2.2.2.1 (J1 e).1,λg' n' c' s' e=>ho.2.2.2.2 g' n' c' s' (J1 e).1⟩;have:=ho.2.2.1;simp only[Cx.upto,List.length_take];omega
 | msl hn h1=>exact .msl hn (Vg h1 (of_decide_eq_true hp))
 | el h1=>exact .el (Bk.upto hp h1)
 | ptr h1=>exact .ptr (Vg h1 (of_decide_eq_true hp))
 | fn h1 h2 =>
   simp only[AI.under,Bool.and_eq_true] at hp;exact .fn (CU.upto hp.1 h1) (CU.upto hp.2 h2)
 | ifc h1=>exact .ifc (Rp.upto hp h1)
 | mp h1=>exact .mp (Vg h1 (of_decide_eq_true hp))
 | any h1=>exact .any h1
 | raw=>exact .raw
def CU.upto:∀{a:List AV} {v:List Value},FD n m a=true->CU c w a v->CU (c.upto n m) w a v:=by
 intro a v hp h;cases h with
 | nil=>exact .nil
 | cons h1 t =>
   simp only[AI.FD,Bool.and_eq_true] at hp;exact .cons (Rp.upto hp.1 h1) (CU.upto hp.2 t)
def Bk.upto:∀{a:List AV} {g o:Nat},FD n m a=true->Bk c w g o a->Bk (c.upto n m) w g o a:=by
 intro a g o hp h;cases h with
 | nil=>exact .nil
 | cons hvv h1 t =>
   simp only[AI.FD,Bool.and_eq_true] at hp;exact .cons (Zv hvv) (Rp.upto hp.1 h1) (Bk.upto hp.2 t)
end
end
def UG:AV->Bool
 | .sc v=>Xf v
 | _=>true
def TF{c:Cx}{w:World}{a:AV}{v:Value}(h:Rp c w a v)(hd:UG a=true):Xf v=true:=by
 cases h<;>first | rfl | exact hd | assumption | (cases hd;done)
def qR:AV->AV
 | .sl _ n cs=>.sl .lost n cs
 | a=>a
inductive Fg(n m:Nat):List AV->List AV->Prop where
 | nil:Fg n m [] []
 | UU {a:AV} {l k:List AV} (h:under n m a=true) (t:Fg n m l k):Fg n m (a::l) (a::k)
 | drop {a:AV} {l k:List AV} (h:UG a=true) (t:Fg n m l k):Fg n m (a::l) (.any::k)
 | lost {o:Own} {j:Nat} {cs l k:List AV} (h:FD n m cs=true) (t:Fg n m l k):Fg n m (.sl o j cs::l) (.sl .lost j cs::k)
def Fg.ok{n m:Nat}{l k:List AV}(h:Fg n m l k){c:Cx}{w:World}{vs:List Value}(hr:CU c w l vs):CU (c.upto n m) w k vs:=by
 induction h generalizing vs with
 | nil=>cases hr;exact .nil
 | UU h _ ih=>cases hr with | cons h1 t=>exact .cons (h1.upto h) (ih t)
 | drop h _ ih=>cases hr with | cons h1 t=>exact .cons (.any (TF h1 h)) (ih t)
 | @lost o j cs l k h _ ih =>
   cases hr with
   | cons h1 t =>
     refine .cons ?_ (ih t);cases h1 with
     | sl0 _=>exact .sl0 trivial
     | M9 hn hc ho=>exact .M9 hn (hc.upto h) trivial
def XC(n m:Nat):List (Value×AV×Nat)->Bool
 | []=>true
 | e::l=>under n m e.2.1&&XC n m l
def aiL(n m:Nat):Bl->Bool
 | .cells cs=>FD n m cs
 | .map es _=>XC n m es
def KQ.upto{c:Cx}{w:World}{n m:Nat}:∀{es:List (Value×AV×Nat)} {fs:List MapEntry},XC n m es=true->KQ c w es fs->KQ (c.upto n m) w es fs:=by
 intro es
 induction es with
 | nil=>intro fs _ h;cases h;exact .nil
 | cons e es ih =>
   intro fs hu h;obtain⟨x,a,b⟩:=e;simp only[XC,Bool.and_eq_true] at hu;cases h with | cons h1 t=>exact .cons (h1.upto hu.1) (ih hu.2 t)
def FE.upto{c:Cx}{w:World}{n m:Nat}{b:Bl}{o:Obj}(hb:aiL n m b=true)(h:FE c w b o):FE (c.upto n m) w b o:=by
 cases h with
 | I3 ext h1=>exact .I3 ext (h1.upto hb)
 | map h1=>exact .map (h1.upto hb)
def Fits(n m:Nat)(a b:AV):Prop:=∀(c:Cx) (w:World) (v:Value),Rp c w a v->Rp (c.upto n m) w b v
def KX(n m:Nat)(a b:List AV):Prop:=∀(c:Cx) (w:World) (v:List Value),CU c w a v->CU (c.upto n m) w b v
def Tg(n m:Nat)(a b:List AV):Prop:=∀(c:Cx) (w:World) (g o:Nat),Bk c w g o a->Bk (c.upto n m) w g o b
def Tf(n m:Nat)(a b:Bl):Prop:=∀(c:Cx) (w:World) (o:Obj),FE c w a o->FE (c.upto n m) w b o
def Fg.fits{n m:Nat}{l k:List AV}(h:Fg n m l k):KX n m l k:=λ_ _ _ hr=>h.ok hr
def Fits.under{n m:Nat}{a:AV}(h:AI.under n m a=true):Fits n m a a:=λ_ _ _ hr=>hr.upto h
def KX.under{n m:Nat}{a:List AV}(h:AI.FD n m a=true):KX n m a a:=λ_ _ _ hr=>hr.upto h
def Tg.under{n m:Nat}{a:List AV}(h:AI.FD n m a=true):Tg n m a a:=λ_ _ _ _ hr=>hr.upto h
def Tf.under{n m:Nat}{b:Bl}(h:aiL n m b=true):Tf n m b b:=λ_ _ _ hr=>hr.upto h
def Fits.plain{n m:Nat}{a:AV}(h:AI.plain a=true):Fits n m a a:=.under (GA n m h)
def KX.plain{n m:Nat}{a:List AV}(h:BN a=true):KX n m a a:=.under (Ce n m h)
def Tg.plain{n m:Nat}{a:List AV}(h:BN a=true):Tg n m a a:=.under (Ce n m h)
def Fits.sc{n m:Nat}{v:Value}:Fits n m (.sc v) (.sc v):=.under rfl
def Fits.drop{n m:Nat}{a:AV}(h:UG a=true):Fits n m a .any:=λ_ _ _ hr=>.any (TF hr h)
def Fits.agg{n m:Nat}{a b:List AV}(h:KX n m a b):Fits n m (.agg a) (.agg b):=λ_ _ _ hr=>by cases hr with | agg h1=>exact .agg (h _ _ _ h1)
def Fits.CZ{n m:Nat}{a b:List AV}(h:KX n m a b):Fits n m (.CZ a) (.CZ b):=λ_ _ _ hr=>by cases hr with | CZ h1=>exact .CZ (h _ _ _ h1)
def Fits.lost{n m:Nat}{o:Own}{k:Nat}{a b:List AV}(h:Tg n m a b)(e:a=[]->b=[]):Fits n m (.sl o k a) (.sl .lost k b):=λ_ _ _ hr=>by
 cases hr with
 | sl0 _=>rw[e rfl];exact .sl0 trivial
 | M9 hn hc ho=>exact .M9 hn (h _ _ _ _ hc) trivial
def KX.nil{n m:Nat}:KX n m [] []:=λ_ _ _ hr=>by cases hr;exact .nil
def KX.cons{n m:Nat}{a b:AV}{l k:List AV}(h:Fits n m a b)(t:KX n m l k):KX n m (a::l) (b::k):=λ_ _ _ hr=>by cases hr with | cons h1 t1=>exact .cons (h _ _ _ h1) (t _ _ _ t1)
def Tg.nil{n m:Nat}:Tg n m [] []:=λ_ _ _ _ hr=>by cases hr;exact .nil
def Tg.cons{n m:Nat}{a b:AV}{l k:List AV}(h:Fits n m a b)(t:Tg n m l k):Tg n m (a::l) (b::k):=λ_ _ _ _ hr=>by cases hr with | cons hv h1 t1=>exact .cons (Zv hv) (h _ _ _ h1) (t _ _ _ _ t1)
def Tf.cells{n m:Nat}{a b:List AV}(h:KX n m a b):Tf n m (.cells a) (.cells b):=λ_ _ _ hr=>by cases hr with | I3 ext h1=>exact .I3 ext (h _ _ _ h1)
def alV{G:Bc}(hG:∀g cs,G g=some cs->BN cs=true){s s' s2:AS}{fr' fr2:List AV}(hn:s2.nx=s.nx)(hr:s2.nr=s.nr)
   (hd:Kt s2.h s2.nx) (aJY:∀id b,look id s2.h=some b->∃b',look id s'.h=some b'/\Tf s.nx s.nr b' b) (hF:∀r n,Fo r s2.F=some n->Fo r s'.F=some n/\r < s.nr)
   (hf:KX s.nx s.nr fr' fr2) (cx:Cx) (w:World) (c':Cx) (w':World) (vs:List Value) (hx:Ext cx w c' w') (hs:St G cx w s) (hs':St G c' w' s') (hfr:CU c' w' fr' vs) :
   ∃c2,Ext cx w c2 w'/\St G c2 w' s2/\CU c2 w' fr2 vs:=by
 have TN:c'.Dv.take s.nx=cx.Dv:=by
   obtain⟨t,ht⟩:=hx.Dv;rw[<- ht,hs.len,List.take_left]
 have hrl:(c'.rows.take s.nr).length=cx.rows.length:=by
   have:=hx.JY;rw[List.length_take,hs.JY];omega
 refine⟨c'.upto s.nx s.nr,⟨?_,?_,λr x ZI h=>?_,λg i v hv=>Zv (hx.fU g i v hv),hx.below,hx.base,hx.bad,λg hg=>hx.kD g (List.mem_of_mem_take hg),λr g n cap sz h=>hx.kS r g n cap sz (J1 h).1,hx.UU⟩,?_,hf _ _ _ hfr⟩;show cx.Dv <+: c'.Dv.take s.nx;rw[TN];exact List.prefix_refl _;show cx.rows.length<=(c'.rows.take s.nr).length;omega;exact hx.rows r x ZI (J1 h).1;refine⟨?_,hd,λi j g h1 h2=>hs'.nodup i j g (J1 h1).1 (J1 h2).1,λg hg=>hs'.low g (List.mem_of_mem_take hg),λid g b h1 h2=>?_,?_,λr g n cap sz h=>?_,λr n h=>?_,λg hg=>hs'.ON g (List.mem_of_mem_take hg),hs'.OH,λr r' g n cap sz n' cap' PM h h'=>hs'.JU r r' g n cap sz n' cap' PM (J1 h).1 (J1 h').1,λg cs hg=>(hs'.Pm g cs hg).upto (Ce _ _ (hG g cs hg)),hs'.R2⟩;show s2.nx=(c'.Dv.take s.nx).length;rw[TN,hn,hs.len];obtain⟨b',h3,h4⟩:=aJY id b h2;obtain⟨o,ho,hb⟩:=hs'.box id g b' (J1 h1).1 h3;exact⟨o,ho,h4 _ _ _ hb⟩;show s2.nr=(c'.rows.take s.nr).length;rw[hrl,hr,hs.JY];obtain⟨a1,a2,a3,a4⟩:=hs'.row r g n cap sz (J1 h).1;exact⟨a1,a2,λhm=>a3 (List.mem_of_mem_take hm),a4⟩;obtain⟨h1,h2⟩:=hF r n h;rcases hs'.Ko r n h1 with ⟨h3,h4⟩ | ⟨g,cap,sz,h3⟩
 exact .inl ⟨Vg h3 h2,h4⟩;exact .inr ⟨g,cap,sz,Vg h3 h2⟩
end AI
namespace AI
open Go Go.RowKit
section
variable {P:Program} {G:Bc} {X:WR} {H:Ty}
def W(P:Program)(G:Bc)(X:WR)(H:Ty)(c:Code)(fr:List AV)(s:AS)(Q:AX->List AV->AS->Prop):Prop:=∃e fr' s',J P G X H (.code c fr s e fr' s')/\Q e fr' s'
def WL(P:Program)(G:Bc)(X:WR)(H:Ty)(c:Code)(fr:List AV)(s:AS)(Q:AX->List AV->AS->Prop):Prop:=∃e fr' s',J P G X H (.loop c fr s e fr' s')/\Q e fr' s'
def WC(P:Program)(G:Bc)(X:WR)(H:Ty)(f:FuncId)(args:List AV)(s:AS)(Q:CR->AS->Prop):Prop:=∃r s',J P G X H (.call f args s r s')/\Q r s'
def auC(P:Program)(G:Bc)(X:WR)(H:Ty)(y:Code)(Q:AX->List AV->AS->Prop):AX->List AV->AS->Prop
 | .normal,fr,s=>W P G X H y fr s Q
 | e,fr,s=>Q e fr s
def EM(id:Nat)(Q:AX->List AV->AS->Prop):AX->List AV->AS->Prop:=λe fr s=>Q (EZ id e) fr s
def UD(P:Program)(fn:Func)(n:Nat)(Q:CR->AS->Prop):AX->List AV->AS->Prop
 | .normal,fr,s=>∃v,JF P s fn fr=some v/\Q (.ret v) (s.cut n)
 | .ret,fr,s=>∃v,JF P s fn fr=some v/\Q (.ret v) (s.cut n)
 | .pan v,_,s=>Q (.pan v) (s.cut n)
 | _,_,_=>False
def W.mono{c:Code}{fr:List AV}{s:AS}{Q R:AX->List AV->AS->Prop}(h:W P G X H c fr s Q)(k:∀e fr s,Q e fr s->R e fr s):W P G X H c fr s R:=by
 obtain⟨e,fr',s',h1,h2⟩:=h;exact⟨e,fr',s',h1,k _ _ _ h2⟩
def WC.mono{f:FuncId}{args:List AV}{s:AS}{Q R:CR->AS->Prop}(h:WC P G X H f args s Q)(k:∀r s,Q r s->R r s):WC P G X H f args s R:=by
 obtain⟨r,s',h1,h2⟩:=h;exact⟨r,s',h1,k _ _ h2⟩
def aAU{x y:Code}{fr:List AV}{s:AS}{Q:AX->List AV->AS->Prop}(h:W P G X H x fr s (auC P G X H y Q)):W P G X H (.seq x y) fr s Q:=by
 obtain⟨e,Wr,s1,h1,h2⟩:=h;cases e with
 | normal =>
   obtain⟨e2,fr2,s2,h3,h4⟩:=h2;exact⟨e2,fr2,s2,.seq h1 h3,h4⟩
 | exit id=>exact⟨_,_,_,.qI h1 (by simp),h2⟩
 | ret=>exact⟨_,_,_,.qI h1 (by simp),h2⟩
 | pan v=>exact⟨_,_,_,.qI h1 (by simp),h2⟩
def akT{q:Operand}{x y:Code}{fr:List AV}{s:AS}{Q:AX->List AV->AS->Prop}(hq:Bg G fr q=some (.sc (.bool true)))(h:W P G X H x fr s Q):W P G X H (.cond q x y) fr s Q:=by
 obtain⟨e,Wr,s1,h1,h2⟩:=h;exact⟨e,Wr,s1,.cond hq h1,h2⟩
def akS{q:Operand}{x y:Code}{fr:List AV}{s:AS}{Q:AX->List AV->AS->Prop}(hq:Bg G fr q=some (.sc (.bool false)))(h:W P G X H y fr s Q):W P G X H (.cond q x y) fr s Q:=by
 obtain⟨e,Wr,s1,h1,h2⟩:=h;exact⟨e,Wr,s1,.cond hq h1,h2⟩
def qZ{id:Nat}{c:Code}{fr:List AV}{s:AS}{Q:AX->List AV->AS->Prop}(h:W P G X H c fr s (EM id Q)):W P G X H (.block id c) fr s Q:=by
 obtain⟨e,Wr,s1,h1,h2⟩:=h;exact⟨_,Wr,s1,.block h1,h2⟩
def auU{c:Code}{fr:List AV}{s:AS}{Q:AX->List AV->AS->Prop}(h:WL P G X H c fr s Q):W P G X H (.loop c) fr s Q:=by
 obtain⟨e,Wr,s1,h1,h2⟩:=h;exact⟨_,Wr,s1,.loop h1,h2⟩
def drop_cons{α:Type}{o:α}{l m:List α}{k:Nat}(h:o::l=m.drop k):m[k]?=some o/\l=m.drop (k+1):=by
 constructor;have:=congrArg (λx=>x[0]?) h;simpa using this.symm
 have:=congrArg List.tail h;rw[List.tail_drop] at this;exact this
def Au{f:FuncId}{fn:Func}{c:Code}{args:List AV}{s:AS}{Q:CR->AS->Prop}(hf:P.funcs[f]?=some fn)(hb:fn.body=some c)(h:W P G X H c (args++List.replicate (fn.ntmps - args.length) (.sc undef)) s (UD P fn s.nx Q)):WC P G X H f args s Q:=by
 obtain⟨e,Wr,s1,h1,h2⟩:=h;cases e with
 | normal=>obtain⟨v,h3,h4⟩:=h2;exact⟨_,_,.body hf hb h1 (.inl rfl) h3 (.inl rfl),h4⟩
 | ret=>obtain⟨v,h3,h4⟩:=h2;exact⟨_,_,.body hf hb h1 (.inr rfl) h3 (.inl rfl),h4⟩
 | pan v=>exact⟨_,_,.asH hf hb h1,h2⟩
 | exit id=>exact h2.elim
end
end AI
namespace AI
open Go Go.RowKit
abbrev XS(P:Program)(G:Bc):WR:=λf args s r s'=>Sound P G (.call f args s r s')
def H0:Ty:=λ_ _=>none
def TJ{P:Program}{G:Bc}(h:P.follows .mixedOrders=true):asB P G (XS P G) H0:=⟨h,λ_ _ _ _ _ h=>h,λ_ _ _ _ _ h=>by cases h⟩
def Pure(P:Program)(G:Bc)(f:FuncId)(args:List AV)(v:AV):Prop:=∀s,Sound P G (.call f args s (.ret v) s)
def rows{α:Type}(f:α->List AV)(l:List α):List AV:=l.flatMap f
def bD{α:Type}{f:α->List AV}{k:Nat}(hf:∀x,(f x).length=k){l:List α}{i:Nat}{x:α}(h:l[i]?=some x):(rows f l).drop (i*k)=f x++rows f (l.drop (i+1)):=by
 induction l generalizing i with
 | nil=>simp at h
 | cons y l ih =>
   cases i with
   | zero=>simp at h;subst h;simp[rows]
   | succ i =>
     have:=ih (i:=i) (by simpa using h)
     have e:rows f (y::l)=f y++rows f l:=by simp[rows]
     rw[e,List.drop_append,hf y,show(i+1)*k - k=i*k by rw[Nat.add_mul];omega,List.drop_eq_nil_of_le (by rw[hf y,Nat.add_mul];omega),List.nil_append,this];simp
def Sx{α:Type}{f:α->List AV}{k:Nat}(hf:∀x,(f x).length=k)(l:List α):(rows f l).length=l.length*k:=by
 induction l with
 | nil=>simp[rows]
 | cons y l ih =>
   have e:rows f (y::l)=f y++rows f l:=by simp[rows]
   rw[e,List.length_append,hf y,ih,List.length_cons,Nat.add_mul];omega
def WI{α:Type}(f:α->List AV)(l m:List α):rows f (l++m)=rows f l++rows f m:=by simp[rows]
def I2{α:Type}(f:α->List AV)(x:α)(m:List α):rows f (x::m)=f x++rows f m:=by simp[rows]
def qC{α:Type}{f:α->List AV}{l:List α}(h:∀x∈l,BN (f x)=true):BN (rows f l)=true:=by
 have Wk:∀a b:List AV,BN a=true->BN b=true->BN (a++b)=true:=by
   intro a b ha hb
   induction a with
   | nil=>exact hb
   | cons x a ih =>
     simp only[BN,Bool.and_eq_true,List.cons_append] at ha ⊢;exact⟨ha.1,ih ha.2⟩
 induction l with
 | nil=>rfl
 | cons y l ih=>rw[I2];exact Wk _ _ (h y List.mem_cons_self) (ih λx hx=>h x (List.mem_cons_of_mem _ hx))
def oW{P:Program}{α:Type}{f:α->List AV}{k:Nat}{t elem:TypeId}{e:TypeInfo}(hu:P.underlying t=some (.slice elem))(he:P.info? elem=some e)(hk:e.size=k)(hf:∀x,(f x).length=k){own:Own}{l:List α}{i:Nat}{x:α}(h:l[i]?=some x) :
   Dw P t (.sl own l.length (rows f l)) (.sc (.int .i64 (i:Int)))=some (.el (f x++rows f (l.drop (i+1)))):=by
 have hi:=(List.getElem?_eq_some_iff.1 h).1
 have hn:S2 (.sc (.int .i64 (i:Int)))=some i:=by
   unfold S2;simp
 unfold Dw;rw[hu,hn];simp only[he,hk,if_pos hi,bD hf h]
def ajD{i:Nat}(h:i<=9223372036854775807):IntKind.i64.wrap (i:Int)=(i:Int):=by
 refine IntWalk.i64_in _ ?_;omega
end AI
namespace AI
open Go Go.RowKit
section
variable {G:Bc}
inductive NZ where
 | t (tmp sz:Nat)
 | b (id i sz:Nat)
 | l (tmp:Nat)
 | lb (id i:Nat)
def anI:AV->Bool
 | .sl .full n cs=>(match n with | 0=>(match cs with | []=>true | _=>false) | _=>false)
 | _=>false
def nz1(fr:List AV)(s:AS):NZ->Option (List AV×AS)
 | .t k sz=>(match fr[k]? with
   | some a=>(match anI a with
     | true=>some (fr.set k (.sl (.row s.nr sz) 0 []),s.tok)
     | false=>none)
   | none=>none)
 | .b id i sz=>(match look id s.h with
   | some (.cells cs)=>(match cs[i]? with
     | some a=>(match anI a with
       | true=>some (fr,⟨uJ id (.cells (cs.set i (.sl (.row s.nr sz) 0 []))) s.h,s.nx,(s.nr,0)::s.F,s.nr+1⟩)
       | false=>none)
     | none=>none)
   | _=>none)
 | .l k=>(match fr[k]? with
   | some a=>some (fr.set k (qR a),s)
   | none=>none)
 | .lb id i=>(match look id s.h with
   | some (.cells cs)=>(match cs[i]? with
     | some a=>some (fr,⟨uJ id (.cells (cs.set i (qR a))) s.h,s.nx,s.F,s.nr⟩)
     | none=>none)
   | _=>none)
def nzs:List NZ->List AV->AS->Option (List AV×AS)
 | [],fr,s=>some (fr,s)
 | z::l,fr,s=>(match nz1 fr s z with
   | some (fr,s)=>nzs l fr s
   | none=>none)
def Wkn(G:Bc)(fr:List AV)(s:AS)(fr2:List AV)(s2:AS):Prop:=∀(cx:Cx) (w:World) (vs:List Value),St G cx w s->CU cx w fr vs->∃cx2,Ext cx w cx2 w/\St G cx2 w s2/\CU cx2 w fr2 vs
def Wkn.refl{fr:List AV}{s:AS}:Wkn G fr s fr s:=λcx w vs h1 h2=>⟨cx,Ext.refl _ _,h1,h2⟩
def Wkn.trans{fr fr2 fr3:List AV}{s s2 s3:AS}(h:Wkn G fr s fr2 s2)(k:Wkn G fr2 s2 fr3 s3):Wkn G fr s fr3 s3:=λcx w vs h1 h2=>by
 obtain⟨c2,x2,s2,r2⟩:=h cx w vs h1 h2;obtain⟨c3,x3,s3,r3⟩:=k c2 w vs s2 r2;exact⟨c3,x2.trans x3,s3,r3⟩
def tC{a:AV}(h:anI a=true){c:Cx}{w:World}{v:Value}(hr:Rp c w a v){r sz:Nat}(hl:r < c.rows.length):Rp c w (.sl (.row r sz) 0 []) v:=by
 unfold anI at h;split at h
 · split at h
   · split at h
     · cases hr with
       | sl0 h0=>exact .sl0 ⟨h0,hl⟩
       | M9 hn hc ho =>
         have:_=0:=ho;subst this;exact .sl0 ⟨rfl,hl⟩
     cases h
   cases h
 cases h
def bQ{a:AV}{c:Cx}{w:World}{v:Value}(hr:Rp c w a v):Rp c w (qR a) v:=by
 cases hr with
 | sl0 _=>exact .sl0 trivial
 | M9 hn hc ho=>exact .M9 hn hc trivial
 | sc h=>exact .sc h
 | agg h=>exact .agg h
 | CZ h=>exact .CZ h
 | msl h1 h2=>exact .msl h1 h2
 | el h=>exact .el h
 | ptr h=>exact .ptr h
 | fn h1 h2=>exact .fn h1 h2
 | ifc h=>exact .ifc h
 | mp h=>exact .mp h
 | any h=>exact .any h
 | raw=>exact .raw
def CU.apH{c:Cx}{w:World}{as:List AV}{vs:List Value}(h:CU c w as vs){i:Nat}{a b:AV}(ha:as[i]?=some a)(hb:∀v,Rp c w a v->Rp c w b v):CU c w (as.set i b) vs:=by
 induction as generalizing vs i with
 | nil=>simp at ha
 | cons x as ih =>
   cases h with
   | cons h1 t =>
     cases i with
     | zero=>simp at ha;subst ha;exact .cons (hb _ h1) t
     | succ i=>exact .cons h1 (ih t (by simpa using ha))
def St.xL{c:Cx}{w:World}{s:AS}(h:St G c w s){id:Nat}{b b2:Bl}(hb:look id s.h=some b)(hk:∀o,FE c w b o->FE c w b2 o):St G c w ⟨uJ id b2 s.h,s.nx,s.F,s.nr⟩ :=
 ⟨h.len,Zq h.desc,h.nodup,h.low,λRq g b' h1 h2=>by
   rcases Zr h2 with ⟨rfl,rfl⟩ | ⟨_,h3⟩
   obtain⟨o,ho,hbo⟩:=h.box _ g b h1 hb;exact⟨o,ho,hk o hbo⟩;exact h.box Rq g b' h1 h3,h.JY,h.row,h.Ko,h.ON,h.OH,h.JU,h.Pm,h.R2⟩
def ayO{fr fr2:List AV}{s s2:AS}{z:NZ}(h:nz1 fr s z=some (fr2,s2)):Wkn G fr s fr2 s2:=by
 intro cx w vs hs hr;cases z with
 | t k sz =>
   simp only[nz1] at h;split at h;rename_i a ha;split at h;rename_i hn;cases h;obtain⟨x,st⟩:=hs.tok;refine⟨_,x,st,(hr.mono x).apH ha (λv hv=>tC hn hv ?_)⟩;simp[hs.JY];cases h;cases h
 | b id i sz =>
   simp only[nz1] at h;split at h;rename_i cs hb;split at h;rename_i a ha;split at h;rename_i hn;cases h;obtain⟨x,st⟩:=hs.tok;refine⟨_,x,st.xL (b:=.cells cs) hb (λo ho=>?_),hr.mono x⟩;cases ho with
   | I3 ext h1=>exact .I3 ext (h1.apH ha (λv hv=>tC hn hv (by simp[hs.JY])))
   cases h;cases h;cases h
 | l k =>
   simp only[nz1] at h;split at h;rename_i a ha;cases h;exact⟨cx,Ext.refl _ _,hs,hr.apH ha (λv hv=>bQ hv)⟩;cases h
 | lb id i =>
   simp only[nz1] at h;split at h;rename_i cs hb;split at h;rename_i a ha;cases h;refine⟨cx,Ext.refl _ _,hs.xL (b:=.cells cs) hb (λo ho=>?_),hr⟩;cases ho with
   | I3 ext h1=>exact .I3 ext (h1.apH ha (λv hv=>bQ hv))
   cases h;cases h
def pH:∀{l:List NZ} {fr fr2:List AV} {s s2:AS},nzs l fr s=some (fr2,s2)->Wkn G fr s fr2 s2:=by
 intro l
 induction l with
 | nil=>intro fr fr2 s s2 h;simp only[nzs] at h;cases h;exact .refl
 | cons z l ih =>
   intro fr fr2 s s2 h;simp only[nzs] at h;split at h;rename_i f1 s1 h1;exact(ayO h1).trans (ih h);cases h
end
end AI
namespace AI
open Go Go.RowKit
def eqV:Value->Value->Bool
 | .string a,.string b=>BY a.data.toList b.data.toList
 | .int k a,.int k' b=>(match sameKind k k' with | true=>CV a b | false=>false)
 | a,b=>akX a b
def avO{a b:Value}(h:eqV a b=true):a=b:=by
 unfold eqV at h;split at h;rename_i x y;rw[TG,beq_iff_eq] at h;have:x=y:=ByteArray.ext (Array.ext' h);rw[this];split at h;rename_i hk;rw[NY,beq_iff_eq] at h;rw[WM hk,h];cases h;exact rE h
def asO:Own->Own->Bool
 | .full,.full=>true
 | .lost,.lost=>true
 | .nil,.nil=>true
 | .nn,.nn=>true
 | _,_=>false
def abW{a b:Own}(h:asO a b=true):a=b:=by cases a<;>cases b<;>first | rfl | cases h
mutual
def dI:AV->AV->Bool
 | .sc a,.sc b=>eqV a b
 | .agg a,.agg b=>eqL a b
 | .CZ a,.CZ b=>eqL a b
 | .sl o n a,.sl p m b=>(match asO o p with
   | true=>(match Nat.beq n m with | true=>eqL a b | false=>false)
   | false=>false)
 | .ifc t a,.ifc u b=>(match Nat.beq t u with | true=>dI a b | false=>false)
 | _,_=>false
def eqL:List AV->List AV->Bool
 | [],[]=>true
 | a::as,b::bs=>(match dI a b with | true=>eqL as bs | false=>false)
 | _,_=>false
end
mutual
def abT:∀{a b:AV},dI a b=true->a=b
 | .sc a,b,h=>by
   cases b<;>first
     | (simp only[dI] at h;rw[avO h])
     | (simp[dI] at h;done)
 | .agg a,b,h=>by
   cases b<;>first
     | (simp only[dI] at h;rw[dJ h])
     | (simp[dI] at h;done)
 | .CZ a,b,h=>by
   cases b<;>first
     | (simp only[dI] at h;rw[dJ h])
     | (simp[dI] at h;done)
 | .sl o n a,b,h=>by
   cases b<;>first
     | (simp only[dI] at h
        split at h;rename_i h1;split at h;rename_i h2;rw[abW h1,beq_true h2,dJ h];cases h;cases h)
     | (simp[dI] at h;done)
 | .ifc t a,b,h=>by
   cases b<;>first
     | (simp only[dI] at h
        split at h;rename_i h1;rw[beq_true h1,abT h];cases h)
     | (simp[dI] at h;done)
 | .msl _ _ _,b,h=>by simp[dI] at h
 | .el _,b,h=>by simp[dI] at h
 | .ptr _ _,b,h=>by simp[dI] at h
 | .fn _ _ _,b,h=>by simp[dI] at h
 | .mp _,b,h=>by simp[dI] at h
 | .any,b,h=>by simp[dI] at h
def dJ:∀{a b:List AV},eqL a b=true->a=b
 | [],b,h=>by cases b<;>first | rfl | (simp[eqL] at h;done)
 | a::as,b,h=>by
   cases b<;>first
     | (simp[eqL] at h;done)
     | (simp only[eqL] at h
        split at h;rename_i h1;rw[abT h1,dJ h];cases h)
end
structure Ent where
 f:Nat
 args:List AV
 box:Option (List AV×List AV)
 v:AV
def aaD(P:Program)(G:Bc)(e:Ent):Prop:=match e.box with
 | none=>∀s,Sound P G (.call e.f e.args s (.ret e.v) s)
 | some (cs,cs')=>∀s id,s.get id=some (.cells cs)->Sound P G (.call e.f (.ptr id 0::e.args) s (.ret e.v) (s.put id (.cells cs')))
def aNF.cons{P:Program}{G:Bc}{e:Ent}{l:List Ent}(he:aaD P G e)(hl:∀e∈l,aaD P G e):∀e'∈e::l,aaD P G e':=λe' h=>by
 rcases List.mem_cons.1 h with h | h
 rw[h];exact he;exact hl e' h
end AI
namespace AI
open Go Go.RowKit
inductive Hn where
 | k
 | b (b:Bool)
 | i (z:Int)
 | w (v:AV)
 | a (v:AV) (s:AS)
 | ae (v:AV)
 | af (v:AV)
 | m (s:AS)
 | l (v:AV)
 | s (s:AS)
 | c (v:AV) (s:AS)
 | o (v:AV)
 | z (c:Nat)
 | p (v:AV) (s:AS)
 | g (sz k:Nat) (cs:List AV)
 | u (v:AV) (pre:List (Nat×Bl)) (tp:List (Nat×Nat)) (Rc:List (Nat×Bl)) (tu:List (Nat×Nat))
 | q (v:AV) (pre:List (Nat×Bl)) (tp:List (Nat×Nat)) (Rc:List (Nat×Bl)) (tu:List (Nat×Nat))
 | n (l:List NZ)
 | x (b:Bl) (v:AV)
 | y (b b2:Bl)
 | lb (m:Bl) (v:AV)
 | sb (m m2:Bl)
 | mb (n:Nat) (m:Bl)
 | za
 | zq (c:Nat)
 | cn (v:AV) (h:List (Nat×Bl)) (dn:Nat) (F:List (Nat×Nat)) (dr:Nat)
 | f (id:Nat) (b b2:Bl)
inductive Cd where
 | eqb (B b:Bool)
 | eqi (X z:Int)
 | idx (t:TypeId) (a b v:AV)
 | bin (op:BinOp) (t:TypeId) (x y:Operand) (a b v:AV)
 | call (f:FuncId) (args:List AV) (s:AS) (v:AV)
 | Wk (s:AS) (t tx:TypeId) (a b v:AV) (s1:AS)
 | ix (t:TypeId) (a b v:AV)
 | lk (s:AS) (t:TypeId) (a b:AV) (ok:Bool) (v:AV)
 | ms (s:AS) (t:TypeId) (a b v:AV) (s1:AS)
 | asL (f:FuncId) (args:List AV) (s:AS) (v:AV) (s1:AS)
 | ld (s:AS) (t:TypeId) (a v:AV)
 | st (s:AS) (t:TypeId) (a x:AV) (s1:AS)
 | mk (s:AS) (t:TypeId) (a b v:AV) (s1:AS)
 | sli (t:TypeId) (a:AV) (l h m:Option AV) (v:AV)
 | asK (f:FuncId) (args:List AV) (s:AS) (v:AV) (s1:AS)
 | pur (f:FuncId) (args:List AV) (v:AV)
 | ZP (t tx:TypeId) (own:Own) (n:Nat) (cs:List AV) (b:AV) (sz k:Nat) (rJ:List AV)
 | eqn (k n:Nat)
 | E7 (f:FuncId) (args:List AV) (r:CR) (pre:List (Nat×Bl)) (tp:List (Nat×Nat)) (Rc:List (Nat×Bl)) (tu:List (Nat×Nat))
 | zM (a b:List (Option Bl)) (c d:List (Option Nat))
 | lkB (b:Bl) (t:TypeId) (k:AV) (ok:Bool) (v:AV)
 | msB (b:Bl) (t:TypeId) (k v:AV) (b2:Bl)
 | ldB (b:Bl) (t:TypeId) (off:Nat) (v:AV)
 | stB (b:Bl) (t:TypeId) (off:Nat) (x:AV) (b2:Bl)
 | mkB (t:TypeId) (a x:AV) (n:Nat) (m:Bl)
 | apB (t tx:TypeId) (a b:AV) (n:Nat) (m:Bl)
 | asJ (f:FuncId) (args:List AV) (nx nr:Nat) (v:AV) (h:List (Nat×Bl)) (dn:Nat) (F:List (Nat×Nat)) (dr:Nat)
 | rd (nr:Nat) (b b2:Bl)
 | cv (t t2:TypeId) (a v:AV)
 | apf (t tx:TypeId) (a b v:AV)
def AS.V8(s:AS):List (Nat×Bl)->AS
 | []=>s
 | e::l=>(s.put e.1 e.2).V8 l
def AS.Tn(s:AS):List (Nat×Nat)->AS
 | []=>s
 | e::l=>(AS.mk s.h s.nx (xW e.1 e.2 s.F) s.nr).Tn l
def Yo(s:AS):List (Nat×Bl)->List (Option Bl)
 | []=>[]
 | e::l=>s.get e.1::Yo s l
def OF:List (Nat×Bl)->List (Option Bl)
 | []=>[]
 | e::l=>some e.2::OF l
def aE(F:List (Nat×Nat)):List (Nat×Nat)->List (Option Nat)
 | []=>[]
 | e::l=>Fo e.1 F::aE F l
def O7:List (Nat×Nat)->List (Option Nat)
 | []=>[]
 | e::l=>some e.2::O7 l
def Cd.ok(P:Program)(G:Bc):Cd->Prop
 | .eqb B b=>B=b
 | .eqi X z=>X=z
 | .idx t a b v=>Dw P t a b=some v
 | .bin op t x y a b v=>LP P op t x y a b=some v
 | .call f args s v=>Sound P G (.call f args s (.ret v) s)
 | .Wk s t tx a b v s1=>∃v0,Mi P s t tx a b=some (v0,s1)/\∀c w u,Rp c w v0 u->Rp c w v u
 | .ix t a b v=>Lk P t a b=some v
 | .lk s t a b ok v=>Jf P s t a b ok=some v
 | .ms s t a b v s1=>KG P s t a b v=some s1
 | .asL f args s v s1=>Sound P G (.call f args s (.ret v) s1)
 | .ld s t a v=>KY P s t a=some v
 | .st s t a x s1=>L3 P s t a x=some s1
 | .mk s t a b v s1=>JE P s t a b=some (v,s1)
 | .sli t a l h m v=>L2 P t a l h m=some v
 | .asK f args s v s1=>Sound P G (.call f args s (.pan v) s1)
 | .pur f args v=>∀s,Sound P G (.call f args s (.ret v) s)
 | .ZP t tx own n cs b sz k rJ=>∀s:AS,N9 sz s.F n own=true->∃cs0,Mi P s t tx (.sl own n cs) b=some (.sl (atL s sz own) k cs0,s.to k own)/\∀c w u o,Rp c w (.sl o k cs0) u->Rp c w (.sl o k rJ) u
 | .eqn k n=>k=n
 | .E7 f args r pre tp Rc tu=>∀s:AS,Yo s pre=OF pre->aE s.F tp=O7 tp->Sound P G (.call f args s r ((s.V8 Rc).Tn tu))
 | .zM a b c d=>a=b/\c=d
 | .lkB b t k ok v=>∀(s:AS) (id:Nat),s.get id=some b->Jf P s t (.mp id) k ok=some v
 | .msB b t k v b2=>∀(s:AS) (id:Nat),s.get id=some b->KG P s t (.mp id) k v=some (s.put id b2)
 | .ldB b t off v=>∀(s:AS) (id:Nat),s.get id=some b->KY P s t (.ptr id off)=some v
 | .stB b t off x b2=>∀(s:AS) (id:Nat),s.get id=some b->L3 P s t (.ptr id off) x=some (s.put id b2)
 | .mkB t a x n m=>∀s:AS,∃m0,JE P s t a x=some (.msl s.nx 0 n,s.new m0)/\∀(cx:Cx) (w:World) (o:Obj),FE cx w m0 o->FE cx w m o
 | .apB t tx a b n m=>∀s:AS,aAQ P G t tx a b s (.msl s.nx 0 n) (s.new m)
 | .asJ f args nx nr v h dn F dr=>∀s:AS,s.nx=nx->s.nr=nr->Sound P G (.call f args s (.ret v) ⟨h++s.h,s.nx+dn,F++s.F,s.nr+dr⟩)
 | .apf t tx a b v=>∀s:AS,∃v0,Mi P s t tx a b=some (v0,s)/\∀c w u,Rp c w v0 u->Rp c w v u
 | .cv t t2 a v=>Wj P t t2 a=some v
 | .rd nr b b2=>∀(cx:Cx) (w:World) (o:Obj),nr < cx.rows.length->FE cx w b o->FE cx w b2 o
def RD(P:Program)(G:Bc):List Cd->Prop
 | []=>True
 | c::l=>c.ok P G/\RD P G l
def RD.Wk{P:Program}{G:Bc}{l m:List Cd}(h:RD P G (l++m)):RD P G l/\RD P G m:=by
 induction l with
 | nil=>exact⟨trivial,h⟩
 | cons c l ih=>exact⟨⟨h.1,(ih h.2).1⟩,(ih h.2).2⟩
abbrev HO:=Option (AV×AS×List Hn×List Cd)
def Ls(s1:Option AR)(hs:List Hn):HO:=match s1 with
 | some (.val v s)=>some (v,s,hs,[])
 | _=>none
def aBV(P:Program)(op:BinOp)(t:TypeId)(x y:Operand)(a b:AV)(s:AS):List Hn->HO
 | .k::hs=>(match XN P op t x y a b with
   | some v=>some (v,s,hs,[])
   | none=>none)
 | .b c::hs=>(match XN P op t x y a b with
   | some (.sc (.bool B))=>some (.sc (.bool c),s,hs,[.eqb B c])
   | _=>none)
 | .i z::hs=>(match XN P op t x y a b with
   | some (.sc (.int k X))=>some (.sc (.int k z),s,hs,[.eqi X z])
   | _=>none)
 | .w v::hs=>some (v,s,hs,[.bin op t x y a b v])
 | _=>none
def aBY(P:Program)(t:TypeId)(a b:AV)(s:AS):List Hn->HO
 | .k::hs=>(match Dw P t a b with
   | some v=>some (v,s,hs,[])
   | none=>none)
 | .w v::hs=>some (v,s,hs,[.idx t a b v])
 | _=>none
def Yr(s:AS)(r:Option AR):List Hn->HO
 | .w v::hs=>(match r with
   | some (.ent f args)=>some (v,s,hs,[.pur f args v])
   | _=>none)
 | .a v s1::hs=>(match r with
   | some (.ent f args)=>some (v,s1,hs,[.asL f args s v s1])
   | _=>none)
 | .u v pre tp Rc tu::hs=>(match r with
   | some (.ent f args)=>some (v,(s.V8 Rc).Tn tu,hs,[.E7 f args (.ret v) pre tp Rc tu,.zM (Yo s pre) (OF pre) (aE s.F tp) (O7 tp)])
   | _=>none)
 | .cn v h dn F dr::hs=>(match r with
   | some (.ent f args)=>some (v,⟨h++s.h,s.nx+dn,F++s.F,s.nr+dr⟩,hs,[.asJ f args s.nx s.nr v h dn F dr])
   | _=>none)
 | _=>none
def acO(s:AS)(t tx:TypeId)(a b:AV):List Hn->HO
 | .mb n m::hs=>some (.msl s.nx 0 n,s.new m,hs,[.apB t tx a b n m])
 | .a v s1::hs=>some (v,s1,hs,[.Wk s t tx a b v s1])
 | .ae v::hs=>some (v,s,hs,[.Wk s t tx a b v s])
 | .af v::hs=>some (v,s,hs,[.apf t tx a b v])
 | .g sz k rJ::hs=>(match a with
   | .sl .full n cs=>some (.sl (.row s.nr sz) k rJ,s.add k,hs,[.ZP t tx .full n cs b sz k rJ])
   | .sl (.row r z) n cs=>(match Fo r s.F with
     | some m=>(match Nat.beq z sz with
       | true=>some (.sl (.row r sz) k rJ,s.grow r k,hs,[.ZP t tx (.row r z) n cs b sz k rJ,.eqn m n])
       | false=>none)
     | none=>none)
   | _=>none)
 | _=>none
def aBZ(P:Program)(t:TypeId)(a b:AV)(s:AS):List Hn->HO
 | .k::hs=>(match Lk P t a b with
   | some v=>some (v,s,hs,[])
   | none=>none)
 | .w v::hs=>some (v,s,hs,[.ix t a b v])
 | _=>none
def asU(t:TypeId)(a b:AV)(ok:Bool)(s:AS):List Hn->HO
 | .w v::hs=>some (v,s,hs,[.lk s t a b ok v])
 | .x m v::hs=>(match a with
   | .mp id=>some (v,s,hs,[.lkB m t b ok v,.zM [s.get id] [some m] [] []])
   | _=>none)
 | _=>none
def awB(t:TypeId)(a b v:AV)(s:AS):List Hn->HO
 | .m s1::hs=>some (.sc undef,s1,hs,[.ms s t a b v s1])
 | .y m m2::hs=>(match a with
   | .mp id=>some (.sc undef,s.put id m2,hs,[.msB m t b v m2,.zM [s.get id] [some m] [] []])
   | _=>none)
 | _=>none
def acR(t:TypeId)(a:Option AV)(s:AS)(r:Option AR):List Hn->HO
 | .l v::hs=>(match a with
   | some a=>some (v,s,hs,[.ld s t a v])
   | none=>none)
 | .lb m v::hs=>(match a with
   | some (.ptr id off)=>some (v,s,hs,[.ldB m t off v,.zM [s.get id] [some m] [] []])
   | _=>none)
 | hs=>Ls r hs
def oE(t:TypeId)(a x:Option AV)(s:AS)(r:Option AR):List Hn->HO
 | .s s1::hs=>(match a,x with
   | some a,some x=>some (.sc undef,s1,hs,[.st s t a x s1])
   | _,_=>none)
 | .sb m m2::hs=>(match a,x with
   | some (.ptr id off),some x=>some (.sc undef,s.put id m2,hs,[.stB m t off x m2,.zM [s.get id] [some m] [] []])
   | _,_=>none)
 | hs=>Ls r hs
def acT(t:TypeId)(a x:Option AV)(s:AS)(r:Option AR):List Hn->HO
 | .c v s1::hs=>(match a,x with
   | some a,some x=>some (v,s1,hs,[.mk s t a x v s1])
   | _,_=>none)
 | .mb n m::hs=>(match a,x with
   | some a,some x=>some (.msl s.nx 0 n,s.new m,hs,[.mkB t a x n m])
   | _,_=>none)
 | hs=>Ls r hs
def awC(t:TypeId)(a:Option AV)(l h m:Option (Option AV))(s:AS)(r:Option AR):List Hn->HO
 | .o v::hs=>(match a,l,h,m with
   | some a,some l,some h,some m=>some (v,s,hs,[.sli t a l h m v])
   | _,_,_,_=>none)
 | hs=>Ls r hs
def asS(P:Program)(t t2:TypeId)(a:AV)(s:AS):List Hn->HO
 | .w v::hs=>some (v,s,hs,[.cv t t2 a v])
 | hs=>(match Wj P t t2 a with
   | some v=>some (v,s,hs,[])
   | none=>none)
def wF(P:Program)(G:Bc)(fr:List AV)(s:AS)(o:Oper)(hs:List Hn):HO :=
 match o.op with
 | .binOp op t x y _=>(match AZ G fr x with
   | some a=>(match AZ G fr y with
     | some b=>aBV P op t x y a b s hs
     | none=>none)
   | none=>none)
 | .indexAddr t x i=>(match AZ G fr x with
   | some a=>(match AZ G fr i with
     | some b=>aBY P t a b s hs
     | none=>none)
   | none=>none)
 | .index t x i=>(match AZ G fr x with
   | some a=>(match AZ G fr i with
     | some b=>aBZ P t a b s hs
     | none=>none)
   | none=>none)
 | .convert t t2 x=>(match AZ G fr x with
   | some (.sl o n cs)=>asS P t t2 (.sl o n cs) s hs
   | _=>Ls (Uy P G fr s o) hs)
 | .lookup t x k ok=>(match AZ G fr x with
   | some a=>(match AZ G fr k with
     | some b=>asU t a b ok s hs
     | none=>none)
   | none=>none)
 | .mapUpdate t m k x=>(match AZ G fr m with
   | some a=>(match AZ G fr k with
     | some b=>(match AZ G fr x with
       | some v=>awB t a b v s hs
       | none=>none)
     | none=>none)
   | none=>none)
 | .load t x=>acR t (Bg G fr x) s (Uy P G fr s o) hs
 | .store t x y=>oE t (Bg G fr x) (Bg G fr y) s (Uy P G fr s o) hs
 | .makeSlice t x y=>acT t (Bg G fr x) (Bg G fr y) s (Uy P G fr s o) hs
 | .slice t x lo hi mx=>awC t (Bg G fr x) (gI G fr lo) (gI G fr hi) (gI G fr mx) s (Uy P G fr s o) hs
 | .call cl=>(match cl.callee with
   | .value _=>Yr s (Uy P G fr s o) hs
   | .builtin .append=>(match cl.args.toList,cl.argTypes.toList with
     | [x,y],[t,tx]=>(match AZ G fr x with
       | some a=>(match AZ G fr y with
         | some b=>acO s t tx a b hs
         | none=>none)
       | none=>none)
     | _,_=>none)
   | _=>Ls (Uy P G fr s o) hs)
 | _=>Ls (Uy P G fr s o) hs
def aH(P:Program)(G:Bc)(ops:Array Oper)(fr:List AV)(s:AS)(o:Oper)(hs:List Hn):HO :=
 match CC ops fr o with
 | true=>wF P G fr s o hs
 | false=>some (.sc undef,s,hs,[])
section
variable {P:Program} {G:Bc} {ops:Array Oper}
def VH{r:Option AR}{hs hs':List Hn}{v:AV}{s:AS}{cd:List Cd}(h:Ls r hs=some (v,s,hs',cd)):r=some (.val v s):=by
 unfold Ls at h;split at h;cases h;rfl;cases h
def acS{t:TypeId}{a:Option AV}{r:Option AR}{hs hs':List Hn}{v:AV}{s s1:AS}{cd:List Cd}(h:acR t a s r hs=some (v,s1,hs',cd))(hc:RD P G cd):(∃a',a=some a'/\KY P s t a'=some v/\s1=s)\/Ls r hs=some (v,s1,hs',cd):=by
 unfold acR at h;split at h;split at h;cases h;exact .inl ⟨_,rfl,hc.1,rfl⟩;cases h;split at h;cases h;exact .inl ⟨_,rfl,hc.1 _ _ (List.cons.inj hc.2.1.1).1,rfl⟩;cases h;exact .inr h
def VI{t:TypeId}{a x:Option AV}{r:Option AR}{hs hs':List Hn}{v:AV}{s s1:AS}{cd:List Cd}(h:oE t a x s r hs=some (v,s1,hs',cd))(hc:RD P G cd):(∃a' x',a=some a'/\x=some x'/\L3 P s t a' x'=some s1/\v=.sc undef)\/Ls r hs=some (v,s1,hs',cd):=by
 unfold oE at h;split at h;split at h;cases h;exact .inl ⟨_,_,rfl,rfl,hc.1,rfl⟩;cases h;split at h;cases h;exact .inl ⟨_,_,rfl,rfl,hc.1 _ _ (List.cons.inj hc.2.1.1).1,rfl⟩;cases h;exact .inr h
def acU{t:TypeId}{a x:Option AV}{r:Option AR}{hs hs':List Hn}{v:AV}{s s1:AS}{cd:List Cd}(h:acT t a x s r hs=some (v,s1,hs',cd))(hc:RD P G cd):(∃a' x',a=some a'/\x=some x'/\∃s0,JE P s t a' x'=some (v,s0)/\∀cx w,St G cx w s0->St G cx w s1)\/Ls r hs=some (v,s1,hs',cd):=by
 unfold acT at h;split at h;split at h;cases h;exact .inl ⟨_,_,rfl,rfl,_,hc.1,λ_ _ h=>h⟩;cases h;split at h;cases h;obtain⟨m0,h1,h2⟩:=hc.1 s;refine .inl ⟨_,_,rfl,rfl,_,h1,λcx w hs=>?_⟩;have:=hs.xL (id:=s.nx) (b:=m0) (b2:=_) (by simp[AS.new,look]) (λo ho=>h2 cx w o ho);simpa[AS.new,uJ] using this
 cases h;exact .inr h
def amD{t:TypeId}{a:Option AV}{l k m:Option (Option AV)}{r:Option AR}{hs hs':List Hn}{v:AV}{s s1:AS}{cd:List Cd}(h:awC t a l k m s r hs=some (v,s1,hs',cd))(hc:RD P G cd):(∃a' l' k' m',a=some a'/\l=some l'/\k=some k'/\m=some m'/\L2 P t a' l' k' m'=some v/\s1=s)\/Ls r hs=some (v,s1,hs',cd):=by
 unfold awC at h;split at h;split at h;cases h;exact .inl ⟨_,_,_,_,rfl,rfl,rfl,rfl,hc.1,rfl⟩;cases h;exact .inr h
def awA{fr:List AV}{s s1:AS}{o:Oper}{hs hs':List Hn}{v:AV}{cd:List Cd}(hw:CC ops fr o=true)(h:wF P G fr s o hs=some (v,s1,hs',cd))(hc:RD P G cd):J P G (XS P G) H0 (.op ops o fr s (.ret v) s1):=by
 have T1:Ls (Uy P G fr s o) hs=some (v,s1,hs',cd)->J P G (XS P G) H0 (.op ops o fr s (.ret v) s1):=λh=>by
   have:=VH h;rw[Nr] at this;exact .Oa hw this
 unfold wF at h;split at h;rename_i op t x y z ho;rw[Ct,Ct] at h;split at h;rename_i a ha;split at h;rename_i b hb
 have fin:∀v',LP P op t x y a b=some v'->s1=s->v=v'->J P G (XS P G) H0 (.op ops o fr s (.ret v) s1):=by
   intro v' h1 h2 h3;subst h2 h3;refine .Oa hw ?_;unfold QC;rw[ho];simp only[ha,hb,h1,Option.map_some]
 unfold aBV at h;rw[Ux] at h;split at h;split at h;rename_i h1;cases h;exact fin _ h1 rfl rfl;cases h;split at h;rename_i h1;cases h;have e:_=_:=hc.1;subst e;exact fin _ h1 rfl rfl;cases h;split at h;rename_i h1;cases h;have e:_=_:=hc.1;subst e;exact fin _ h1 rfl rfl;cases h;cases h;exact fin _ hc.1 rfl rfl;cases h;cases h;cases h;rename_i t x i ho;rw[Ct,Ct] at h;split at h;rename_i a ha;split at h;rename_i b hb
 have fin:∀v',Dw P t a b=some v'->s1=s->v=v'->J P G (XS P G) H0 (.op ops o fr s (.ret v) s1):=by
   intro v' h1 h2 h3;subst h2 h3;refine .Oa hw ?_;unfold QC;rw[ho];simp only[ha,hb,h1,Option.map_some]
 unfold aBY at h;split at h;split at h;rename_i h1;cases h;exact fin _ h1 rfl rfl;cases h;cases h;exact fin _ hc.1 rfl rfl;cases h;cases h;cases h;rename_i t x i ho;rw[Ct,Ct] at h;split at h;rename_i a ha;split at h;rename_i b hb
 have fin:∀v',Lk P t a b=some v'->s1=s->v=v'->J P G (XS P G) H0 (.op ops o fr s (.ret v) s1):=by
   intro v' h1 h2 h3;subst h2 h3;refine .Oa hw ?_;unfold QC;rw[ho];simp only[ha,hb,h1,Option.map_some]
 unfold aBZ at h;split at h;split at h;rename_i h1;cases h;exact fin _ h1 rfl rfl;cases h;cases h;exact fin _ hc.1 rfl rfl;cases h;cases h;cases h;rename_i t t2 x ho;rw[Ct] at h;split at h;rename_i ow n cs ha
 have fin:∀v',Wj P t t2 (.sl ow n cs)=some v'->s1=s->v=v'->J P G (XS P G) H0 (.op ops o fr s (.ret v) s1):=by
   intro v' h1 h2 h3;subst h2 h3;refine .Oa hw ?_;unfold QC;rw[ho];simp only[ha,Option.bind_some,h1,Option.map_some]
 unfold asS at h;split at h;cases h;exact fin _ hc.1 rfl rfl;split at h;rename_i h1;cases h;exact fin _ h1 rfl rfl;cases h;exact T1 h;rename_i t x k ok ho;rw[Ct,Ct] at h;split at h;rename_i a ha;split at h;rename_i b hb
 have h1:Jf P s t a b ok=some v/\s1=s:=by
   unfold asU at h;split at h;cases h;exact⟨hc.1,rfl⟩;split at h;cases h;refine⟨hc.1 _ _ ?_,rfl⟩;have h2:=hc.2.1.1;simpa using h2
   cases h;cases h
 obtain⟨h1,rfl⟩:=h1;refine .Oa hw ?_;unfold QC;rw[ho];simp only[ha,hb,h1,Option.map_some];cases h;cases h;rename_i t m k x ho;rw[Ct,Ct,Ct] at h;split at h;rename_i a ha;split at h;rename_i b hb;split at h;rename_i x' hx
 have h1:KG P s t a b x'=some s1/\v=.sc undef:=by
   unfold awB at h;split at h;cases h;exact⟨hc.1,rfl⟩;split at h;cases h;refine⟨hc.1 _ _ ?_,rfl⟩;have h2:=hc.2.1.1;simpa using h2
   cases h;cases h
 obtain⟨h1,rfl⟩:=h1;refine .Oa hw ?_;unfold QC;rw[ho];simp only[ha,hb,hx,h1,Option.map_some];cases h;cases h;cases h;rename_i t x ho;rcases acS h hc with ⟨a,ha,h1,rfl⟩ | h1
 refine .Oa hw ?_;unfold QC;rw[ho];simp only[ha,Option.bind_some,h1,Option.map_some];exact T1 h1;rename_i t x y ho;rcases VI h hc with ⟨a,b,ha,hb,h1,rfl⟩ | h1
 refine .Oa hw ?_;unfold QC;rw[ho];simp only[ha,hb,h1,Option.map_some];exact T1 h1;rename_i t x y ho;rcases acU h hc with ⟨a,b,ha,hb,s0,h1,h2⟩ | h1
 refine .eU ?_ (.Oa (s':=s0) hw ?_) h2;simp only[quiet,ho];unfold QC;rw[ho];simp only[ha,hb,h1,Option.map_some];exact T1 h1;rename_i t x lo hi mx ho;rcases amD h hc with ⟨a,l,k,m,ha,hl,hk,hm,h1,rfl⟩ | h1
 refine .Oa hw ?_;unfold QC;rw[ho];simp only[ha,hl,hk,hm,h1,Option.map_some];exact T1 h1;rename_i cl ho;split at h;unfold Yr at h;split at h;split at h;rename_i h1;cases h;rw[Nr] at h1;exact .Sj hw h1 (.ext (hc.1 s));cases h;split at h;rename_i h1;cases h;rw[Nr] at h1;exact .Sj hw h1 (.ext hc.1);cases h;split at h;rename_i h1;cases h;rw[Nr] at h1;exact .Sj hw h1 (.ext (hc.1 s hc.2.1.1 hc.2.1.2));cases h;split at h;rename_i h1;cases h;rw[Nr] at h1;exact .Sj hw h1 (.ext (hc.1 s rfl rfl));cases h;cases h;rename_i H9;split at h;rename_i x y t tx hxs D2;rw[Ct,Ct] at h;split at h;rename_i a ha;split at h;rename_i b hb
 have fin:∀v0,Mi P s t tx a b=some (v0,s1)->(∀c w u,Rp c w v0 u->Rp c w v u)->J P G (XS P G) H0 (.op ops o fr s (.ret v) s1):=by
   intro v0 h1 h2;refine .pN (v:=v0) ?_ (.Oa hw ?_) h2;simp only[quiet,ho,H9];unfold QC;rw[ho];simp only[Th,H9,hxs,D2,ha,hb,h1,Option.map_some]
 unfold acO at h;split at h;cases h;exact .afG hw ho H9 hxs D2 ha hb (hc.1 s);cases h;obtain⟨v0,h1,h2⟩:=hc.1;exact fin v0 h1 h2;cases h;obtain⟨v0,h1,h2⟩:=hc.1;exact fin v0 h1 h2;cases h;obtain⟨v0,h1,h2⟩:=hc.1 s;exact fin v0 h1 h2;split at h;cases h;obtain⟨cs0,h1,h2⟩:=hc.1 s rfl;exact fin _ h1 (λc w u=>h2 c w u _);rename_i r z n cs;split at h;rename_i m hm;split at h;rename_i hz;have hz:=beq_true hz;subst hz;cases h;have e:m=n:=hc.2.1;subst e;obtain⟨cs0,h1,h2⟩:=hc.1 s (by simp[N9,hm]);exact fin _ h1 (λc w u=>h2 c w u _);cases h;cases h;cases h;cases h;cases h;cases h;cases h;exact T1 h;exact T1 h
def Pn{fr:List AV}{s s1:AS}{o:Oper}{hs hs':List Hn}{v:AV}{cd:List Cd}(h:aH P G ops fr s o hs=some (v,s1,hs',cd))(hc:RD P G cd):J P G (XS P G) H0 (.op ops o fr s (.ret v) s1):=by
 unfold aH at h;split at h;rename_i hw;exact awA hw h hc;rename_i hw;cases h;exact .pM hw
end
end AI
