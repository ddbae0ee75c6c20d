/- Part of a proof: see the last text. -/
import Derived.Test.YtpbkhogolfegfaaGreatDoorPpd
import Derived.LoopN
set_option linter.unusedVariables false
set_option linter.unusedSimpArgs false
set_option linter.defProp false
noncomputable section
namespace AI
open Go Go.RowKit
inductive AX where
 | normal
 | exit (id:Nat)
 | ret
 | pan (v:AV)
inductive CR where
 | ret (v:AV)
 | pan (v:AV)
def CC(ops:Array Oper)(fr:List AV)(o:Oper):Bool:=match o.guard with
 | none=>true
 | some (j,want)=>match (ops[j]?).bind (·.dst) with
   | some d=>match fr[d]? with
     | some (.sc (.bool b))=>b == want
     | _=>false
   | none=>false
def E5(id:Nat):AX->AX
 | .exit Re=>if Re=id then .normal else .exit Re
 | e=>e
def Ul(P:Program)(s:AS)(fr:List AV):ResultVar->Option AV
 | .tmp t=>some (fr.getD t (.sc undef))
 | .cell t ty=>KY P s ty (fr.getD t (.sc undef))
def PK(P:Program)(s:AS)(fr:List AV):List ResultVar->Option (List AV)
 | []=>some []
 | r::rs=>match Ul P s fr r,PK P s fr rs with
   | some a,some as=>some (a::as)
   | _,_=>none
def JF(P:Program)(s:AS)(fn:Func)(fr:List AV):Option AV:=match PK P s fr fn.results.toList with
 | some [a]=>some a
 | some as=>some (.CZ as)
 | none=>none
inductive Jd where
 | code (c:Code) (fr:List AV) (s:AS) (e:AX) (fr':List AV) (s':AS)
 | loop (c:Code) (fr:List AV) (s:AS) (e:AX) (fr':List AV) (s':AS)
 | ops (ops:Array Oper) (l:List Nat) (fr:List AV) (s:AS) (e:AX) (fr':List AV) (s':AS)
 | op (ops:Array Oper) (o:Oper) (fr:List AV) (s:AS) (r:CR) (s':AS)
 | call (f:FuncId) (args:List AV) (s:AS) (r:CR) (s':AS)
def Cr(ops:Array Oper)(i:Nat):Option Tmp:=(ops[i]?).bind (·.dst)
def Yw(ops:Array Oper)(i:Nat):Prop:=∃o,ops[i]?=some o/\calm o.op=false
def Win(ops:Array Oper)(i k:Nat):Prop:=(∀l,Yw ops l->Sr (Ij ops.toList []) i l=true->l < k)/\(∀l,Yw ops l->Sr (Ij ops.toList []) l i=true->k<=l)
abbrev Wp:=FuncId->List AV->AS->CR->AS->Prop
abbrev Tj:=FuncId->List AV->Option (FuncId×List AV×(CR->Option CR))
def aAB(P:Program)(G:Bc)(t tx:TypeId)(a b:AV)(s:AS)(v:AV)(s':AS):Prop:=∀(c:Cx) (w:World) (va vb:Value) (ty:TypeId),St G c w s->Rp c w a va->Rp c w b vb ->
 ∃u w' c',(Builtin.append_ #[t,tx] ty #[va,vb]).run P w=.ok u w'/\Ext c w c' w'/\St G c' w' s'/\Rp c' w' v u
def aGS(G:Bc)(c:Cx)(w:World)(r:CR)(s':AS)(e:Ending)(w':World):Prop :=
 ∃c',Ext c w c' w'/\St G c' w' s'/\match r with
   | .ret v=>∃u,e=.returned u/\Rp c' w' v u
   | .pan v=>∃u,e=.panicked [{ v:=u,recovered:=false }]/\Rp c' w' v u
def S0(G:Bc)(c:Cx)(w:World)(e:AX)(fr':List AV)(s':AS)(e':Exit)(a':Act)(w':World):Prop :=
 ∃c',Ext c w c' w'/\St G c' w' s'/\a'.defers=[]/\match e with
   | .normal=>e'=.normal/\CT c' w' fr' a'.tmps.toList
   | .exit id=>e'=.exit id/\CT c' w' fr' a'.tmps.toList
   | .ret=>e'=.ret/\CT c' w' fr' a'.tmps.toList
   | .pan v=>∃u,e'=.panic [{ v:=u,recovered:=false }]/\Rp c' w' v u
def S0.ext{G:Bc}{c c1:Cx}{w w1:World}{e:AX}{fr':List AV}{s':AS}{e':Exit}{a':Act}{w':World}(x:Ext c w c1 w1)(h:S0 G c1 w1 e fr' s' e' a' w'):S0 G c w e fr' s' e' a' w':=by
 obtain⟨c',h1,h2⟩:=h;exact⟨c',x.trans h1,h2⟩
def OD(P:Program)(ops:Array Oper)(o:Oper)(K:Act->World->Prop)(Q:Exit->Act->World->Prop)(a:Act)(w:World):Prop :=
 if Region.wanted o (yielded ops a.tmps) then o.wp P a w K Q else K (a.put o.dst undef) w
def Sound(P:Program)(G:Bc):Jd->Prop
 | .code c fr s e fr' s'=>∀(cx:Cx) (w:World) (a:Act) (Q:Exit->Act->World->Prop),St G cx w s->CT cx w fr a.tmps.toList->a.defers=[]->(∀e' a' w',S0 G cx w e fr' s' e' a' w'->Q e' a' w')->c.wp P Q a w
 | .loop c fr s e fr' s'=>∃n,∀(cx:Cx) (w:World) (a:Act) (Q:Exit->Act->World->Prop),St G cx w s->CT cx w fr a.tmps.toList->a.defers=[]->(∀e' a' w',S0 G cx w e fr' s' e' a' w'->Q e' a' w')->Code.rounds P c Q n a w
 | .ops ops l fr s e fr' s'=>∀(cx:Cx) (w:World) (a:Act) (Q:Exit->Act->World->Prop),St G cx w s->CT cx w fr a.tmps.toList->a.defers=[]->(∀e' a' w',S0 G cx w e fr' s' e' a' w'->Q e' a' w')->wpOps P ops Q l a w
 | .op ops o fr s r s'=>∀(cx:Cx) (w:World) (a:Act) (K:Act->World->Prop) (Q:Exit->Act->World->Prop),St G cx w s->(∀x∈o.op.operands,Zq G cx w fr a.eval x)->CC ops fr o=Region.wanted o (yielded ops a.tmps) ->
     (match r with
       | .ret v=>∀u w' c',Ext cx w c' w'->St G c' w' s'->Rp c' w' v u->K (a.put o.dst u) w'
       | .pan v=>∀u w' c',Ext cx w c' w'->St G c' w' s'->Rp c' w' v u->Q (.panic [{ v:=u,recovered:=false }]) a w')->OD P ops o K Q a w
 | .call f args s r s'=>∀(cx:Cx) (w:World) (vs:List Value),St G cx w s->CT cx w args vs->Calls P f vs.toArray w (aGS G cx w r s')
inductive J(P:Program)(G:Bc)(X:Wp)(H:Tj):Jd->Prop where
 | skip {fr:List AV} {s:AS}:J P G X H (.code .skip fr s .normal fr s)
 | exit {id:Nat} {fr:List AV} {s:AS}:J P G X H (.code (.exit id) fr s (.exit id) fr s)
 | ret {fr:List AV} {s:AS}:J P G X H (.code .ret fr s .ret fr s)
 | seq {x y:Code} {fr V5 fr':List AV} {s s1 s':AS} {e:AX} (h1:J P G X H (.code x fr s .normal V5 s1)) (h2:J P G X H (.code y V5 s1 e fr' s')):J P G X H (.code (.seq x y) fr s e fr' s')
 | pT {x y:Code} {fr fr':List AV} {s s':AS} {e:AX} (h1:J P G X H (.code x fr s e fr' s')) (he:e≠.normal):J P G X H (.code (.seq x y) fr s e fr' s')
 | cond {q:Operand} {x y:Code} {t:Bool} {fr fr':List AV} {s s':AS} {e:AX} (hq:Bg G fr q=some (.sc (.bool t))) (h:J P G X H (.code (if t then x else y) fr s e fr' s')):J P G X H (.code (.cond q x y) fr s e fr' s')
 | block {id:Nat} {c:Code} {fr fr':List AV} {s s':AS} {e:AX} (h:J P G X H (.code c fr s e fr' s')):J P G X H (.code (.block id c) fr s (E5 id e) fr' s')
 | loop {c:Code} {fr fr':List AV} {s s':AS} {e:AX} (h:J P G X H (.loop c fr s e fr' s')):J P G X H (.code (.loop c) fr s e fr' s')
 | loopN {c:Code} {fr V5 fr':List AV} {s s1 s':AS} {e:AX} (h1:J P G X H (.code c fr s .normal V5 s1)) (h2:J P G X H (.loop c V5 s1 e fr' s')):J P G X H (.loop c fr s e fr' s')
 | loopX {c:Code} {fr fr':List AV} {s s':AS} {e:AX} (h1:J P G X H (.code c fr s e fr' s')) (he:e≠.normal):J P G X H (.loop c fr s e fr' s')
 | region {id:Nat} {ops:Array Oper} {fr fr':List AV} {s s':AS} {e:AX} (h:J P G X H (.ops ops (List.range ops.size) fr s e fr' s')):J P G X H (.code (.region id ops false) fr s e fr' s')
 | afC {ops:Array Oper} {fr:List AV} {s:AS}:J P G X H (.ops ops [] fr s .normal fr s)
 | sT {ops:Array Oper} {i:Nat} {l:List Nat} {o:Oper} {v:AV} {fr fr':List AV} {s s1 s':AS} {e:AX} (ho:ops[i]?=some o) (h:J P G X H (.op ops o fr s (.ret v) s1)) (t:J P G X H (.ops ops l (Jw fr o.dst v) s1 e fr' s')):J P G X H (.ops ops (i::l) fr s e fr' s')
 | afD {ops:Array Oper} {i:Nat} {l:List Nat} {o:Oper} {v:AV} {fr:List AV} {s s1:AS} (ho:ops[i]?=some o) (h:J P G X H (.op ops o fr s (.pan v) s1)):J P G X H (.ops ops (i::l) fr s (.pan v) fr s1)
 | N4 {ops:Array Oper} {o:Oper} {fr:List AV} {s s':AS} {v:AV} (hw:CC ops fr o=true) (h:Qo P G fr s o=some (.val v s')):J P G X H (.op ops o fr s (.ret v) s')
 | pA {ops:Array Oper} {o:Oper} {fr:List AV} {s s':AS} {v v2:AV} (hq:quiet o.op=false) (h:J P G X H (.op ops o fr s (.ret v) s')) (hv:∀cx w u,Rp cx w v u->Rp cx w v2 u):J P G X H (.op ops o fr s (.ret v2) s')
 | dU {ops:Array Oper} {o:Oper} {fr:List AV} {s s1 s2:AS} {v:AV} (hq:quiet o.op=false) (h:J P G X H (.op ops o fr s (.ret v) s1)) (hs:∀cx w,St G cx w s1->St G cx w s2):J P G X H (.op ops o fr s (.ret v) s2)
 | afB {ops:Array Oper} {o:Oper} {fr:List AV} {s s':AS} {cl:Call} {x y:Operand} {t tx:TypeId} {a b v:AV} (hw:CC ops fr o=true) (ho:o.op=.call cl) (Iy:cl.callee=.builtin .append) (hx:cl.args.toList=[x,y]) (ht:cl.argTypes.toList=[t,tx]) (ha:Bg G fr x=some a) (hb:Bg G fr y=some b) (h:aAB P G t tx a b s v s'):J P G X H (.op ops o fr s (.ret v) s')
 | oZ {ops:Array Oper} {o:Oper} {fr:List AV} {s:AS} (hw:CC ops fr o=false):J P G X H (.op ops o fr s (.ret (.sc undef)) s)
 | R7 {ops:Array Oper} {o:Oper} {fr:List AV} {s s':AS} {f:FuncId} {args:List AV} {r:CR} (hw:CC ops fr o=true) (h:Qo P G fr s o=some (.ent f args)) (hc:J P G X H (.call f args s r s')):J P G X H (.op ops o fr s r s')
 | asY {ops:Array Oper} {o:Oper} {fr:List AV} {s:AS} {v:AV} (hw:CC ops fr o=true) (h:Qo P G fr s o=some (.pan v)):J P G X H (.op ops o fr s (.pan v) s)
 | draw {id:Nat} {ops:Array Oper} {f0:List AV} {s0:AS} (rs:List Bo) (vals:Nat->AV) (Ng:Nat->AS) (h0:Ng 0=s0.hold rs) (HU:ME ops=true)
     (hl:∀i o,ops[i]?=some o->calm o.op=false->J P G X H (.op ops o (Iz f0 (Cr ops) vals (λ_=>true) i) (Ng i) (.ret (vals i)) (Ng (i+1))))
     (hq:∀i o,ops[i]?=some o->quiet o.op=true->Ng (i+1)=Ng i/\((CC ops (Iz f0 (Cr ops) vals (λ_=>true) i) o=false/\vals i=.sc undef)\/(CC ops (Iz f0 (Cr ops) vals (λ_=>true) i) o=true/\∀k,k<=ops.size->Win ops i k->Qo P G (Iz f0 (Cr ops) vals (λ_=>true) i) (Ng k) o=some (.val (vals i) (Ng k)))))
     (ha:∀i o e,ops[i]?=some o->o.op=.alloc e->Ng (i+1)=Ng i/\((CC ops (Iz f0 (Cr ops) vals (λ_=>true) i) o=false/\vals i=.sc undef)\/(CC ops (Iz f0 (Cr ops) vals (λ_=>true) i) o=true/\∃z,Mw P e=some z/\rk ops i < rs.length/\vals i=.ptr (s0.nx+rk ops i) 0/\∀k,k<=ops.size->Win ops i k->(Ng k).get (s0.nx+rk ops i)=some (.cells (cellsOf z))))) :
     J P G X H (.code (.region id ops true) f0 s0 .normal (Iz f0 (Cr ops) vals (λ_=>true) ops.size) (Ng ops.size))
 | body {f:FuncId} {fn:Func} {c:Code} {args fr':List AV} {s s' s2:AS} {e:AX} {v:AV} (hf:P.funcs[f]?=some fn) (hb:fn.body=some c) (h:J P G X H (.code c (args++List.replicate (fn.ntmps - args.length) (.sc undef)) s e fr' s')) (he:e=.normal\/e=.ret) (hr:JF P s' fn fr'=some v) (hk:s2=s'.cut s.nx\/s2=s'):J P G X H (.call f args s (.ret v) s2)
 | arU {f:FuncId} {fn:Func} {c:Code} {args fr':List AV} {s s':AS} {v:AV} (hf:P.funcs[f]?=some fn) (hb:fn.body=some c) (h:J P G X H (.code c (args++List.replicate (fn.ntmps - args.length) (.sc undef)) s (.pan v) fr' s')):J P G X H (.call f args s (.pan v) (s'.cut s.nx))
 | ext {f:FuncId} {args:List AV} {s s':AS} {r:CR} (h:X f args s r s'):J P G X H (.call f args s r s')
 | VS {c:Code} {fr fr2 fr':List AV} {s s2 s':AS} {e:AX} (hw:∀cx w vs,St G cx w s->CT cx w fr vs->∃cx2,Ext cx w cx2 w/\St G cx2 w s2/\CT cx2 w fr2 vs) (h:J P G X H (.code c fr2 s2 e fr' s')):J P G X H (.code c fr s e fr' s')
 | atV {c:Code} {fr fr2 fr':List AV} {s s2 s':AS} {e:AX} (hw:∀cx w vs,St G cx w s->CT cx w fr vs->∃cx2,Ext cx w cx2 w/\St G cx2 w s2/\CT cx2 w fr2 vs) (h:J P G X H (.loop c fr2 s2 e fr' s')):J P G X H (.loop c fr s e fr' s')
 | scope {c:Code} {fr fr2 fr':List AV} {s s2 s':AS} {e:AX} (h:J P G X H (.code c fr s e fr' s')) (he:∀v,e≠.pan v) (hs:∀cx w c' w' vs,Ext cx w c' w'->St G cx w s->St G c' w' s'->CT c' w' fr' vs->∃c2,Ext cx w c2 w'/\St G c2 w' s2/\CT c2 w' fr2 vs):J P G X H (.code c fr s e fr2 s2)
 | awC {f g:FuncId} {args X4:List AV} {k:CR->Option CR} {s s':AS} {r r':CR} (hh:H f args=some (g,X4,k)) (h:J P G X H (.call g X4 s r s')) (hk:k r=some r'):J P G X H (.call f args s r' s')
 | sem {c:Code} {fr fr':List AV} {s s':AS} {e:AX} (h:P.follows .mixedOrders=true->Sound P G (.code c fr s e fr' s')):J P G X H (.code c fr s e fr' s')
def NO{ops:Array Oper}{fr:List AV}{o:Oper}{c:Cx}{w:World}{tmps:Array Value}(h:∀j want,o.guard=some (j,want)->∀d,(ops[j]?).bind (·.dst)=some d->∃M,CT c w M tmps.toList/\M[d]?=fr[d]?):CC ops fr o=Region.wanted o (yielded ops tmps):=by
 unfold CC Region.wanted;cases hg:o.guard with
 | none=>rfl
 | some p =>
   obtain⟨j,want⟩:=p;simp only;unfold yielded;cases hd:(ops[j]?).bind (·.dst) with
   | none=>simp
   | some d =>
     obtain⟨M,hM,he⟩:=h j want hg d hd;simp only[Option.bind_some];rw[<- he];cases hm:M[d]? with
     | none =>
       have hl:=hM.len;have h1:=List.getElem?_eq_none_iff.1 hm;have h2:tmps[d]?=none:=Array.getElem?_eq_none (by rw[<- Array.length_toList];omega);simp[h2]
     | some b =>
       obtain⟨u,hu,hr⟩:=hM.get hm;rw[Array.getElem?_toList] at hu;rw[hu];cases hr with
       | sc hs=>cases u<;>simp
       | any hs=>cases u<;>first | (simp[WR] at hs;done) | simp
       | _=>simp
def xB(tmps:Array Value):ResultVar->Sem Value
 | .tmp t=>pure (tmps.getD t undef)
 | .cell a t=>do loadVar t (<- asAddr (tmps.getD a undef))
def TV(fn:Func)(tmps:Array Value):results fn tmps=(do
 let vs <- fn.results.mapM (xB tmps)
 pure (if h:vs.size=1 then vs[0] else .tuple vs)):=by
 unfold results;congr 2
def gE{P:Program}{G:Bc}{c:Cx}{w:World}{s:AS}{fr:List AV}{tmps:Array Value}(hs:St G c w s)(hf:CT c w fr tmps.toList){r:ResultVar}{v:AV}(h:Ul P s fr r=some v) :
   ∃u,(xB tmps r).run P w=.ok u w/\Rp c w v u:=by
 have ht:∀t,Rp c w (fr.getD t (.sc undef)) (tmps.getD t undef):=λt=>Gf (G:=G) (s:=s) (a:=⟨tmps,[]⟩) (x:=.tmp t) hs hf rfl;cases r with
 | tmp t=>simp only[Ul,Option.some.injEq] at h;subst h;exact⟨_,rfl,ht t⟩
 | cell t ty =>
   obtain⟨u,h1,h2⟩:=fX hs h (ht t);refine⟨u,?_,h2⟩;have hr:=ht t;simp only[Instr.loadAt,Sem.run_bind] at h1;simp only[xB,Sem.run_bind];generalize tmps.getD t undef=x at hr h1;simp only[Ul] at h;unfold KY at h;split at h;rename_i NK;rw[NK] at hr;cases hr;simpa[asAddr,Instr.sureAddr] using h1
   rename_i NK;rw[NK] at hr;cases hr;simpa[asAddr,Instr.sureAddr] using h1
   cases h
def gF{P:Program}{G:Bc}{c:Cx}{w:World}{s:AS}{fr:List AV}{tmps:Array Value}(hs:St G c w s)(hf:CT c w fr tmps.toList)(rs:List ResultVar){vs:List AV}(h:PK P s fr rs=some vs) :
   ∃us,(rs.mapM (xB tmps)).run P w=.ok us w/\CT c w vs us:=by
 induction rs generalizing vs with
 | nil=>simp[PK] at h;subst h;exact⟨[],rfl,.nil⟩
 | cons r rs ih =>
   simp only[PK] at h;split at h;rename_i a as h1 h2;cases h;obtain⟨u,hu,hr⟩:=gE hs hf h1;obtain⟨us,hus,hrs⟩:=ih h2;refine⟨u::us,?_,.cons hr hrs⟩;rw[List.mapM_cons];simp only[Sem.run_bind,hu,Result.andThen_ok,hus,Sem.run_pure];cases h
def VZ{P:Program}{G:Bc}{c:Cx}{w:World}{s:AS}{fr:List AV}{tmps:Array Value}{fn:Func}{v:AV}(hs:St G c w s)(hf:CT c w fr tmps.toList)(h:JF P s fn fr=some v):∃u,(results fn tmps).run P w=.ok u w/\Rp c w v u:=by
 unfold JF at h;cases hl:PK P s fr fn.results.toList with
 | none=>rw[hl] at h;cases h
 | some as =>
   rw[hl] at h;obtain⟨us,hus,hrs⟩:=gF hs hf _ hl;have hlen:=hrs.len
   have UC:(results fn tmps).run P w=.ok (if h:us.toArray.size=1 then us.toArray[0] else .tuple us.toArray) w:=by
     rw[TV,Array.mapM_eq_mapM_toList];simp only[Sem.run_bind,Sem.run_map,hus,Result.andThen_ok,Sem.run_pure]
   rw[UC];split at h;rename_i a NK;cases NK;cases h;cases hrs with
   | cons h1 t=>cases t;exact⟨_,rfl,h1⟩
   rename_i as' hne NK;cases NK;cases h
   have:¬us.toArray.size=1:=by
     intro h1;simp at h1;obtain⟨a,ha⟩:=List.length_eq_one_iff.1 (hlen.symm.trans h1);exact hne a ha
   rw[dif_neg this];exact⟨_,rfl,.CZ hrs⟩;rename_i NK;cases NK
end AI
namespace AI
open Go Go.RowKit
def gQ(L:Nat->Bool):Nat->Nat
 | 0=>0
 | n+1=>gQ L n+if L n then 0 else 1
def gU{L:Nat->Bool}:∀(n:Nat),gQ L n=0->∀i,i < n->L i=true:=by
 intro n
 induction n with
 | zero=>intro _ i hi;omega
 | succ n ih =>
   intro h i hi;simp only[gQ] at h;by_cases hn:i=n;subst hn;by_cases hL:L i=true;exact hL;simp[hL] at h;exact ih (by omega) i (by omega)
def qU{L M:Nat->Bool}{i:Nat}(h0:L i=false)(h1:M i=true)(hne:∀j,j≠i->M j=L j):∀(n:Nat),(i < n->gQ L n=gQ M n+1)/\(n<=i->gQ L n=gQ M n):=by
 intro n
 induction n with
 | zero=>exact⟨λh=>by omega,λ_=>rfl⟩
 | succ n ih =>
   refine⟨λh=>?_,λh=>?_⟩;simp only[gQ];by_cases hn:n=i;subst hn;rw[ih.2 (Nat.le_refl _),h0,h1];simp;rw[ih.1 (by omega),hne n hn];omega;simp only[gQ];rw[ih.2 (by omega),hne n (by omega)]
def pX{ops:Array Oper}{Ng:Nat->AS}(hq:∀i o,ops[i]?=some o->calm o.op=true->Ng (i+1)=Ng i){x:Nat}:∀(y:Nat),x<=y->y<=ops.size->(∀m,x<=m->m < y->¬Yw ops m)->Ng x=Ng y:=by
 intro y
 induction y with
 | zero=>intro h _ _;have:x=0:=by omega
         subst this;rfl
 | succ y ih =>
   intro h hn hl;by_cases e:x=y+1;subst e;rfl;rw[ih (by omega) (by omega) (λm h1 h2=>hl m h1 (by omega))];have ho:ops[y]?=some (ops[y]'(by omega)):=Array.getElem?_eq_getElem (by omega);have hy:=hl y (by omega) (by omega);refine(hq y _ ho ?_).symm;cases hqq:calm (ops[y]'(by omega)).op with
   | true=>rfl
   | false=>exact absurd ⟨_,ho,hqq⟩ hy
def mem_ready{ops:Array Oper}{L:Array Bool}(hsz:L.size=ops.size){i:Nat}(h:i∈Region.ready .any ops L):∃o,ops[i]?=some o/\L.getD i false=false/\Met (λj=>L.getD j false) o/\i < ops.size:=by
 unfold Region.ready at h;rw[List.mem_filter,List.mem_range,Bool.and_eq_true] at h;obtain⟨h1,h2,h3⟩:=h;have ho:ops[i]?=some (ops[i]'h1):=Array.getElem?_eq_getElem h1;refine⟨_,ho,?_,λe he hb=>?_,h1⟩;have:i < L.size:=by omega
 simpa[this] using h2
 rw[ho] at h3;simp only[Option.map_some,Option.getD_some] at h3;rw[Array.all_eq_true_iff_forall_mem] at h3;have:=h3 e he;rw[hb] at this;simpa using this
def kA{ops:Array Oper}{L:Array Bool}(hsz:L.size=ops.size){i:Nat}{o:Oper}(ho:ops[i]?=some o)(hL:L.getD i false=false)(hm:Met (λj=>L.getD j false) o):i∈Region.ready .any ops L:=by
 have h1:=(Array.getElem?_eq_some_iff.1 ho).1;unfold Region.ready;rw[List.mem_filter,List.mem_range,Bool.and_eq_true];refine⟨h1,?_,?_⟩;have:i < L.size:=by omega
 simpa[this] using hL
 rw[ho];simp only[Option.map_some,Option.getD_some];rw[Array.all_eq_true_iff_forall_mem];intro e he;by_cases hb:Region.binds .any e=true;have:=hm e he hb;rw[hb];simpa using this
 simp[hb]
section
variable {P:Program} {G:Bc} {ops:Array Oper} {f0:List AV} {vals:Nat->AV} {Ng:Nat->AS}
structure Inv(G:Bc)(ops:Array Oper)(f0:List AV)(vals:Nat->AV)(Ng:Nat->AS)(mC:Cx)(w0:World)(nh:Nat)(L:Array Bool)(a:Act)(w:World):Prop where
 size:L.size=ops.size
 closed:NM ops.toList (λj=>L.getD j false)
 st:∃c k,k<=ops.size/\(∀l,Yw ops l->(L.getD l false=true↔l < k))/\Ext mC w0 c w/\St G c w (Ng k)/\CT c w (Iz f0 (Cr ops) vals (λj=>L.getD j false) ops.size) a.tmps.toList /\
   ∀j y,ops[j]?=some y->B1 y.op=true->L.getD j false=false->rk ops j < nh->c.Dy[mC.Dy.length+rk ops j]?=some none
 defers:a.defers=[]
def looks{x y:Oper}{t:Nat}(hx:x.dst=some t)(hy:t∈y.looksAt ops):PO ops x y=true:=by
 simp[PO,hx,hy]
def axR{x y:Oper}{t:Nat}(hx:t∈x.looksAt ops)(hy:y.dst=some t):PO ops x y=true:=by
 simp[PO,hx,hy]
def aEL{x y:Oper}{t:Nat}(hx:x.dst=some t)(hy:y.dst=some t):PO ops x y=true:=by
 simp[PO,hx,hy]
def sJ{x y:Oper}(hx:calm x.op=false)(hy:calm y.op=false):PO ops x y=true:=by
 simp[PO,hx,hy]
def Cl{i:Nat}{o:Oper}(h:ops[i]?=some o):ops.toList[i]?=some o:=by rw[Array.getElem?_toList];exact h
def Vi{L:Nat->Bool}(HU:ME ops=true)(hc:NM ops.toList L){i j:Nat}{x y:Oper}(hx:ops[i]?=some x)(hy:ops[j]?=some y)(hm:Met L y)(hlt:i < j)(Iy:PO ops x y=true):L i=true :=
 XT hc (Cl hy) hm (aE HU hx hy hlt Iy)
def Qs{L:Nat->Bool}(HU:ME ops=true)(hc:NM ops.toList L){i j:Nat}{x y:Oper}(hx:ops[i]?=some x)(hy:ops[j]?=some y)(hL:L i=false)(hlt:i < j)(Iy:PO ops x y=true):L j=false:=by
 cases h:L j with
 | false=>rfl
 | true =>
   have:=XT hc (Cl hy) (hc j y (Cl hy) h) (aE HU hx hy hlt Iy);rw[hL] at this;cases this
def nE{i t:Nat}(h:Cr ops i=some t):∃o,ops[i]?=some o/\o.dst=some t:=by
 unfold Cr at h;cases ho:ops[i]? with
 | none=>rw[ho] at h;cases h
 | some o=>rw[ho] at h;exact⟨o,rfl,by simpa using h⟩
def Sv{L:Nat->Bool}(HU:ME ops=true)(hc:NM ops.toList L){i:Nat}{o:Oper}(ho:ops[i]?=some o)(hL:L i=false)(hm:Met L o){t:Nat}(ht:t∈o.looksAt ops) :
   (Iz f0 (Cr ops) vals L ops.size)[t]?=(Iz f0 (Cr ops) vals (λ_=>true) i)[t]?:=by
 have hi:=(Array.getElem?_eq_some_iff.1 ho).1;rw[rE (j:=i) ops.size (by omega)];refine X2 i (λj hj hd=>?_);obtain⟨x,hx,hxd⟩:=nE hd;exact Vi HU hc hx ho hm hj (looks hxd ht);intro j hj _ hd;by_cases e:j=i;subst e;exact hL;obtain⟨y,hy,hyd⟩:=nE hd;exact Qs HU hc ho hy hL (by omega) (axR ht hyd)
def rF{L M:Nat->Bool}(HU:ME ops=true)(hc:NM ops.toList L){i:Nat}{o:Oper}(ho:ops[i]?=some o)(hL:L i=false)(hM:M i=true)(hne:∀j,j≠i->M j=L j) :
   Iz f0 (Cr ops) vals M ops.size=Jw (Iz f0 (Cr ops) vals L ops.size) o.dst (vals i):=by
 have hi:=(Array.getElem?_eq_some_iff.1 ho).1;have hdi:Cr ops i=o.dst:=by unfold Cr;rw[ho];rfl
 apply List.ext_getElem?;intro t;by_cases hd:o.dst=some t;rw[rE (j:=i+1) ops.size (by omega)];simp only[Iz,hM,if_true,hdi,hd];rw[OS,OS,WY,WY];intro j hj _ hdj;obtain⟨y,hy,hyd⟩:=nE hdj;rw[hne j (by omega)];exact Qs HU hc ho hy hL (by omega) (aEL hd hyd);rw[RJ hd];refine X2 ops.size (λj _ hdj=>hne j (λe=>hd ?_));rw[<- hdi,<- e];exact hdj
def Ext.avL{c:Cx}{w:World}{c':Cx}{w':World}(h:Ext c w c' w'){id:Nat}{y:Option Nat}(e:c.Dy[id]?=some y):c'.Dy[id]?=some y:=by
 obtain⟨t,ht⟩:=h.Dy;rw[<- ht,List.getElem?_append_left (List.getElem?_eq_some_iff.1 e).1];exact e
def abB{nh:Nat}(HU:ME ops=true)
   (hl:∀i o,ops[i]?=some o->calm o.op=false->Sound P G (.op ops o (Iz f0 (Cr ops) vals (λ_=>true) i) (Ng i) (.ret (vals i)) (Ng (i+1))))
   (hq:∀i o,ops[i]?=some o->quiet o.op=true->Ng (i+1)=Ng i/\((CC ops (Iz f0 (Cr ops) vals (λ_=>true) i) o=false/\vals i=.sc undef)\/(CC ops (Iz f0 (Cr ops) vals (λ_=>true) i) o=true/\∀k,k<=ops.size->Win ops i k->Qo P G (Iz f0 (Cr ops) vals (λ_=>true) i) (Ng k) o=some (.val (vals i) (Ng k)))))
   (mC:Cx) (w0:World)
   (ha:∀i o e,ops[i]?=some o->o.op=.alloc e->Ng (i+1)=Ng i/\((CC ops (Iz f0 (Cr ops) vals (λ_=>true) i) o=false/\vals i=.sc undef)\/(CC ops (Iz f0 (Cr ops) vals (λ_=>true) i) o=true/\∃z,Mw P e=some z/\rk ops i < nh/\vals i=.ptr (mC.Dy.length+rk ops i) 0/\∀k,k<=ops.size->Win ops i k->(Ng k).get (mC.Dy.length+rk ops i)=some (.cells (cellsOf z)))))
   (Q:Exit->Act->World->Prop) (hQ:∀e' a' w',S0 G mC w0 .normal (Iz f0 (Cr ops) vals (λ_=>true) ops.size) (Ng ops.size) e' a' w'->Q e' a' w') :
   ∀(fuel:Nat) (L:Array Bool) (a:Act) (w:World),Inv G ops f0 vals Ng mC w0 nh L a w->gQ (λj=>L.getD j false) ops.size=fuel->wpAny P .any ops Q fuel L a w:=by
 have hqs:∀i o,ops[i]?=some o->calm o.op=true->Ng (i+1)=Ng i:=λi o h1 h2=>by
   rcases XM h2 with h2 | ⟨e,h2⟩
   exact(hq i o h1 h2).1;exact(ha i o e h1 h2).1
 have fin:∀(L:Array Bool) (a:Act) (w:World),Inv G ops f0 vals Ng mC w0 nh L a w->(∀i,i < ops.size->L.getD i false=true)->Q .normal a w:=by
   intro L a w hI Hz;obtain⟨c,k,hk,hlk,hx,Gt,hfr,_⟩:=hI.st;have aKN:Ng k=Ng ops.size:=pX hqs ops.size hk (Nat.le_refl _) (λm h1 h2 hm=>by have:=(hlk m hm).1 (Hz m h2);omega);rw[aKN] at Gt;refine hQ _ _ _ ⟨c,hx,Gt,hI.defers,rfl,?_⟩
   have:Iz f0 (Cr ops) vals (λj=>L.getD j false) ops.size=Iz f0 (Cr ops) vals (λ_=>true) ops.size:=by
     apply List.ext_getElem?;intro t;exact X2 ops.size (λi hi _=>Hz i hi)
   rw[<- this];exact hfr
 intro fuel
 induction fuel with
 | zero =>
   intro L a w hI hc;have Hz:=gU ops.size hc;refine⟨?_,fin L a w hI Hz⟩;apply List.eq_nil_iff_forall_not_mem.2;intro i hi;obtain⟨o,ho,h1,_,hlt⟩:=mem_ready hI.size hi;have:=Hz i hlt;rw[h1] at this;cases this
 | succ fuel ih =>
   intro L a w hI aJN;refine⟨λcZ=>fin L a w hI (λi=>?_),λi hi=>?_⟩
   · induction i using Nat.strongRecOn with
     | _ i ihi =>
       intro hlt;cases fP:L.getD i false with
       | true=>rfl
       | false =>
         exfalso;have ho:ops[i]?=some (ops[i]'hlt):=Array.getElem?_eq_getElem hlt
         have:=kA hI.size ho fP (λe he hb=>by
           have h1:=jI HU ho he hb;exact ihi e.on h1 (by omega))
         rw[cZ] at this;cases this
   · obtain⟨o,ho,fP,Yg,hlt⟩:=mem_ready hI.size hi
     obtain⟨c,k,hk,hlk,hx,Gt,hfr,nW⟩:=hI.st
     have hMi:(L.setIfInBounds i true).getD i false=true:=by
       have:i < L.size:=by rw[hI.size];exact hlt
       simp[this]
     have rJ:∀j,j≠i->(L.setIfInBounds i true).getD j false=L.getD j false:=by
       intro j hj;simp only[Array.getD_eq_getD_getElem?];rw[Array.getElem?_setIfInBounds_ne (λe=>hj e.symm)]
     have hle:∀j,L.getD j false=true->(L.setIfInBounds i true).getD j false=true:=by
       intro j hj;by_cases e:j=i;subst e;exact hMi;rw[rJ j e];exact hj
     have Yb:NM ops.toList (λj=>(L.setIfInBounds i true).getD j false):=by
       intro j y hy hj e he hb;by_cases ej:j=i;subst ej;rw[Cl ho] at hy;cases hy;exact hle _ (Yg e he hb);have hj2:L.getD j false=true:=by rw[<- rJ j ej];exact hj
       exact hle _ (hI.closed j y hy hj2 e he hb)
     have acY:gQ (λj=>(L.setIfInBounds i true).getD j false) ops.size=fuel:=by
       have:=(qU (L:=λj=>L.getD j false) (M:=λj=>(L.setIfInBounds i true).getD j false) fP hMi rJ ops.size).1 hlt;omega
     have awF:=rF (f0:=f0) (vals:=vals) (L:=λj=>L.getD j false) (M:=λj=>(L.setIfInBounds i true).getD j false) HU hI.closed ho fP hMi rJ
     have atK:∀(k':Nat) (u:Value) (w':World) (c':Cx),k'<=ops.size->(∀l,Yw ops l->((L.setIfInBounds i true).getD l false=true↔l < k'))->Ext mC w0 c' w'->Mon c w c' w' ->
         (∀j y,ops[j]?=some y->B1 y.op=true->(L.setIfInBounds i true).getD j false=false->rk ops j < nh->c'.Dy[mC.Dy.length+rk ops j]?=some none)->St G c' w' (Ng k')->Rp c' w' (vals i) u->wpAny P .any ops Q fuel (L.setIfInBounds i true) (a.put o.dst u) w':=by
       intro k' u w' c' yX cY Tz hm' hh' Pk hu;refine ih _ _ _ ⟨by simp[hI.size],Yb,⟨c',k',yX,cY,Tz,Pk,?_,hh'⟩,by cases o.dst<;>exact hI.defers⟩ acY
       rw[awF];exact Sk (hfr.DB hm') hu
     have step:∀(k':Nat) (u:Value) (w':World) (c':Cx),k'<=ops.size->(∀l,Yw ops l->((L.setIfInBounds i true).getD l false=true↔l < k'))->Ext c w c' w'->St G c' w' (Ng k')->Rp c' w' (vals i) u->wpAny P .any ops Q fuel (L.setIfInBounds i true) (a.put o.dst u) w':=by
       intro k' u w' c' yX cY Tz Pk hu;refine atK k' u w' c' yX cY (hx.trans Tz) Tz.mon (λj y hy dI hj hjn=>?_) Pk hu;have hji:j≠i:=λe=>by subst e;rw[hMi] at hj;cases hj
       rw[rJ j hji] at hj;exact Tz.avL (nW j y hy dI hj hjn)
     have iN:∀x∈o.op.operands,Zq G c w (Iz f0 (Cr ops) vals (λ_=>true) i) a.eval x:=by
       intro x hxo v hv;cases x with
       | tmp t =>
         have adD:t∈o.looksAt ops:=by
           unfold Oper.looksAt;rw[List.mem_append];left;rw[List.mem_filterMap];exact⟨.tmp t,Array.mem_toList_iff.2 hxo,rfl⟩
         have he:=Sv (f0:=f0) (vals:=vals) HU hI.closed ho fP Yg adD
         have:Bg G (Iz f0 (Cr ops) vals (λj=>L.getD j false) ops.size) (.tmp t)=some v:=by
           rw[<- hv];simp only[Bg,List.getD_eq_getElem?_getD,he]
         exact Gf Gt hfr this
       | const z=>exact Gf (fr:=Iz f0 (Cr ops) vals (λj=>L.getD j false) ops.size) Gt hfr hv
       | global g=>exact Gf (fr:=Iz f0 (Cr ops) vals (λj=>L.getD j false) ops.size) Gt hfr hv
       | func f=>exact Gf (fr:=Iz f0 (Cr ops) vals (λj=>L.getD j false) ops.size) Gt hfr hv
     have Wa:CC ops (Iz f0 (Cr ops) vals (λ_=>true) i) o=Region.wanted o (yielded ops a.tmps):=by
       refine NO (c:=c) (w:=w) (λj want hg d hd=>⟨_,hfr,?_⟩);refine Sv HU hI.closed ho fP Yg ?_;unfold Oper.looksAt;rw[List.mem_append];right;rw[hg];simp[hd]
     have cT:OD P ops o (wpAny P .any ops Q fuel (L.setIfInBounds i true)) Q a w->wpOp P ops Q i (wpAny P .any ops Q fuel (L.setIfInBounds i true)) a w:=by
       intro h;unfold wpOp;rw[ho];unfold OD at h;simp only;split;rename_i hw;rw[if_pos hw] at h;exact .inl h;rename_i hw;rw[if_neg hw] at h;exact h
     refine cT ?_;cases hqo:calm o.op with
     | false =>
       have hki:Ng k=Ng i:=by
         rcases Nat.le_total k i with awB | awB
         exact pX hqs i awB (by omega) (λm h1 h2 hm=>by
           obtain⟨y,hy,rW⟩:=hm;have:=Vi HU hI.closed hy ho Yg h2 (sJ rW hqo);have:=(hlk m ⟨y,hy,rW⟩).1 this;omega)
         exact(pX hqs k awB hk (λm h1 h2 hm=>by
           obtain⟨y,hy,rW⟩:=hm;have hLm:=(hlk m ⟨y,hy,rW⟩).2 h2;by_cases e:m=i;subst e;rw[fP] at hLm;cases hLm;have:=Qs HU hI.closed ho hy fP (by omega) (sJ hqo rW);rw[this] at hLm;cases hLm)).symm
       rw[hki] at Gt;refine hl i o ho hqo c w a _ _ Gt iN Wa ?_;intro u w' c' Tz Pk hu;refine step (i+1) u w' c' (by omega) (λl yY=>?_) Tz Pk hu;by_cases e:l=i;subst e;rw[hMi];simp;rw[rJ l e,hlk l yY];obtain⟨y,hy,rW⟩:=yY;constructor;intro hlt';have hLl:=(hlk l ⟨y,hy,rW⟩).2 hlt';rcases Nat.lt_or_ge l i with h1 | h1
       omega;have:=Qs HU hI.closed ho hy fP (by omega) (sJ hqo rW);rw[this] at hLl;cases hLl;intro hlt';have:=Vi HU hI.closed hy ho Yg (by omega) (sJ rW hqo);exact(hlk l ⟨y,hy,rW⟩).1 this
     | true =>
       have cY:∀l,Yw ops l->((L.setIfInBounds i true).getD l false=true↔l < k):=by
         intro l yY
         have hne:l≠i:=by
           intro e;subst e;obtain⟨y,hy,rW⟩:=yY;rw[ho] at hy;cases hy;rw[hqo] at rW;cases rW
         rw[rJ l hne];exact hlk l yY
       have ZA:Win ops i k:=by
         refine⟨λl yY hd=>?_,λl yY hd=>?_⟩;exact(hlk l yY).1 (XT hI.closed (Cl ho) Yg hd);rcases Nat.lt_or_ge l k with h1 | h1
         exfalso;have hLl:=(hlk l yY).2 h1;obtain⟨y,hy,rW⟩:=yY;have:=XT hI.closed (Cl hy) (hI.closed l y (Cl hy) hLl) hd;rw[fP] at this;cases this;exact h1
       unfold OD;rcases XM hqo with hqo | ⟨e,hoe⟩
       obtain⟨_,S9⟩:=hq i o ho hqo;rcases S9 with ⟨hw,hv⟩ | ⟨hw,hv⟩
       rw[<- Wa,hw];simp only[Bool.false_eq_true,if_false];exact step k undef w c hk cY (Ext.refl c w) Gt (by rw[hv];exact .sc rfl);rw[<- Wa,hw];simp only[if_true];have aBU:=bY Gt iN (λ_=>rfl) (hv k hk ZA);obtain⟨u,w',c',hr,Tz,Pk,hu⟩:=aBU;unfold Oper.wp;rcases hr with hr | ⟨hr,rfl⟩
       rw[hr];exact step k u w' c' hk cY Tz Pk hu;rw[hr];exact step k undef w' c' hk cY Tz Pk hu;obtain⟨_,S9⟩:=ha i o e ho hoe;rcases S9 with ⟨hw,hv⟩ | ⟨hw,z,hz,hrk,hv,aBV⟩
       rw[<- Wa,hw];simp only[Bool.false_eq_true,if_false];exact step k undef w c hk cY (Ext.refl c w) Gt (by rw[hv];exact .sc rfl);rw[<- Wa,hw];simp only[if_true];have hia:B1 o.op=true:=by rw[hoe];rfl
       obtain⟨u,w',c',hr,hm',Pk,hu,aJR,aKD⟩:=mP (ρ:=a.eval) Gt hoe hz (nW i o ho hia fP hrk) (aBV k hk ZA);unfold Oper.wp;rw[hr];refine atK k u w' c' hk cY (aJR mC w0 hx (by omega)) hm' (λj y hy dI hj hjn=>?_) Pk (by rw[hv];exact hu);have hji:j≠i:=λe=>by subst e;rw[hMi] at hj;cases hj
       rw[rJ j hji] at hj;have hne:rk ops j≠rk ops i:=λe=>hji (ayU hy ho dI hia e);rw[aKD _ (by omega)];exact nW j y hy dI hj hjn
end
end AI
namespace AI
open Go Go.RowKit
def dW{G:Bc}{c:Cx}{w:World}{s:AS}{fr:List AV}{a:Act}(hs:St G c w s)(hf:CT c w fr a.tmps.toList)(x:Operand):Zq G c w fr a.eval x:=λ_ hv=>Gf hs hf hv
def Ql{P:Program}{ops:Array Oper}{o:Oper}{i:Nat}{l:List Nat}{Q:Exit->Act->World->Prop}{a:Act}{w:World}(ho:ops[i]?=some o)(h:OD P ops o (wpOps P ops Q l) Q a w):wpOps P ops Q (i::l) a w:=by
 unfold wpOps;rw[ho];unfold OD at h;simp only;split;rename_i hw;rw[if_pos hw] at h;exact .inl h;rename_i hw;rw[if_neg hw] at h;exact h
def S0.PZ{G:Bc}{c:Cx}{w:World}{e:AX}{fr':List AV}{s':AS}{e':Exit}{a':Act}{w':World}(h:S0 G c w e fr' s' e' a' w')(he:e≠.normal):e'≠.normal:=by
 obtain⟨c',_,_,_,h4⟩:=h;cases e with
 | normal=>exact absurd rfl he
 | exit id=>intro h5;rw[h4.1] at h5;cases h5
 | ret=>intro h5;rw[h4.1] at h5;cases h5
 | pan v=>obtain⟨u,h5,_⟩:=h4;intro h6;rw[h5] at h6;cases h6
def UY{K:Act->World->Prop}{Q:Exit->Act->World->Prop}{e:Exit}{a:Act}{w:World}(he:e≠.normal)(h:Q e a w):Exit.then K Q e a w:=by
 cases e<;>first | exact absurd rfl he | exact h
structure arN(P:Program)(G:Bc)(X:Wp)(H:Tj):Prop where
 mixed:P.follows .mixedOrders=true
 ext:∀f args s r s',X f args s r s'->Sound P G (.call f args s r s')
 awC:∀f args g X4 k,H f args=some (g,X4,k)->∀s r s' r',Sound P G (.call g X4 s r s')->k r=some r'->Sound P G (.call f args s r' s')
def sound{P:Program}{G:Bc}{X:Wp}{H:Tj}(hg:arN P G X H){jd:Jd}(h:J P G X H jd):Sound P G jd:=by
 induction h with
 | sem h=>exact h hg.mixed
 | VS hw _ ih=>intro cx w a Q hs hf hd hQ;obtain⟨c2,x,h1,h2⟩:=hw cx w _ hs hf;exact ih c2 w a Q h1 h2 hd (λe a w hp=>hQ e a w (hp.ext x))
 | atV hw _ ih=>obtain⟨n,ih⟩:=ih;exact⟨n,λcx w a Q hs hf hd hQ=>by obtain⟨c2,x,h1,h2⟩:=hw cx w _ hs hf;exact ih c2 w a Q h1 h2 hd (λe a w hp=>hQ e a w (hp.ext x))⟩
 | pA _ _ hv ih =>
   intro cx w a K Q hs IY hwa hK;exact ih cx w a K Q hs IY hwa (λu w' c' x st hu=>hK u w' c' x st (hv _ _ _ hu))
 | dU _ _ hv ih =>
   intro cx w a K Q hs IY hwa hK;exact ih cx w a K Q hs IY hwa (λu w' c' x st hu=>hK u w' c' x (hv _ _ st) hu)
 | @scope c fr fr2 fr' s s2 s' e _ he hsc ih =>
   intro cx w a Q hs hf hd hQ;refine ih cx w a Q hs hf hd ?_;rintro e' a' w' ⟨c',hx,hs',Sy,h4⟩;cases e with
   | normal=>obtain⟨rfl,h5⟩:=h4;obtain⟨c2,x2,Xg,f2⟩:=hsc cx w c' w' _ hx hs hs' h5;exact hQ _ _ _ ⟨c2,x2,Xg,Sy,rfl,f2⟩
   | exit id=>obtain⟨rfl,h5⟩:=h4;obtain⟨c2,x2,Xg,f2⟩:=hsc cx w c' w' _ hx hs hs' h5;exact hQ _ _ _ ⟨c2,x2,Xg,Sy,rfl,f2⟩
   | ret=>obtain⟨rfl,h5⟩:=h4;obtain⟨c2,x2,Xg,f2⟩:=hsc cx w c' w' _ hx hs hs' h5;exact hQ _ _ _ ⟨c2,x2,Xg,Sy,rfl,f2⟩
   | pan v=>exact absurd rfl (he v)
 | skip=>intro cx w a Q hs hf hd hQ;exact wp_skip (hQ _ _ _ ⟨cx,Ext.refl _ _,hs,hd,rfl,hf⟩)
 | exit=>intro cx w a Q hs hf hd hQ;exact wp_exit (hQ _ _ _ ⟨cx,Ext.refl _ _,hs,hd,rfl,hf⟩)
 | ret=>intro cx w a Q hs hf hd hQ;exact wp_ret (hQ _ _ _ ⟨cx,Ext.refl _ _,hs,hd,rfl,hf⟩)
 | seq _ _ oG ih2 =>
   intro cx w a Q hs hf hd hQ;refine wp_seq (oG cx w a _ hs hf hd ?_);rintro e' a' w' ⟨c',hx,hs',Sy,rfl,Yc⟩;exact ih2 c' w' a' Q hs' Yc Sy (λe2 a2 w2 h2=>hQ e2 a2 w2 (h2.ext hx))
 | pT _ he oG =>
   intro cx w a Q hs hf hd hQ;refine wp_seq (oG cx w a _ hs hf hd ?_);intro e' a' w' hp;exact UY (hp.PZ he) (hQ _ _ _ hp)
 | @cond q x y t fr fr' s s' e hq _ ih =>
   intro cx w a Q hs hf hd hQ;have hr:=Gf hs hf hq
   have IY:a.eval q=.bool t:=by
     generalize a.eval q=v at hr;cases hr;rfl
   exact wp_cond IY (ih cx w a Q hs hf hd hQ)
 | @block id c fr fr' s s' e _ ih =>
   intro cx w a Q hs hf hd hQ;refine wp_block (ih cx w a _ hs hf hd ?_);rintro e' a' w' ⟨c',hx,hs',Sy,h4⟩;cases e with
   | normal=>obtain⟨rfl,h5⟩:=h4;exact hQ _ _ _ ⟨c',hx,hs',Sy,rfl,h5⟩
   | exit Re =>
     obtain⟨rfl,h5⟩:=h4;show if Re=id then Q .normal a' w' else Q (.exit Re) a' w'
     by_cases hid:Re=id;rw[if_pos hid];refine hQ _ _ _ ⟨c',hx,hs',Sy,?_⟩;simp only[E5,hid,if_true];exact⟨trivial,h5⟩;rw[if_neg hid];refine hQ _ _ _ ⟨c',hx,hs',Sy,?_⟩;simp only[E5,hid,if_false];exact⟨trivial,h5⟩
   | ret=>obtain⟨rfl,h5⟩:=h4;exact hQ _ _ _ ⟨c',hx,hs',Sy,rfl,h5⟩
   | pan v=>obtain⟨u,rfl,h5⟩:=h4;exact hQ _ _ _ ⟨c',hx,hs',Sy,u,rfl,h5⟩
 | loop _ ih =>
   intro cx w a Q hs hf hd hQ;obtain⟨n,hn⟩:=ih;exact wp_loop_rounds n (hn cx w a Q hs hf hd hQ)
 | loopN _ _ oG ih2 =>
   obtain⟨n,hn⟩:=ih2;refine⟨n+1,?_⟩;intro cx w a Q hs hf hd hQ;rw[rounds_succ];refine oG cx w a _ hs hf hd ?_;rintro e' a' w' ⟨c',hx,hs',Sy,rfl,Yc⟩;exact hn c' w' a' Q hs' Yc Sy (λe2 a2 w2 h2=>hQ e2 a2 w2 (h2.ext hx))
 | loopX _ he oG =>
   refine⟨1,?_⟩;intro cx w a Q hs hf hd hQ;rw[rounds_succ];refine oG cx w a _ hs hf hd ?_;intro e' a' w' hp;exact UY (hp.PZ he) (hQ _ _ _ hp)
 | region _ ih =>
   intro cx w a Q hs hf hd hQ;exact wp_region (ih cx w a Q hs hf hd hQ)
 | afC=>intro cx w a Q hs hf hd hQ;exact hQ _ _ _ ⟨cx,Ext.refl _ _,hs,hd,rfl,hf⟩
 | @sT ops i l o v fr fr' s s1 s' e ho _ _ oG ih2 =>
   intro cx w a Q hs hf hd hQ;refine Ql ho (oG cx w a _ _ hs (λx _=>dW hs hf x) (NO (c:=cx) (w:=w) (λ_ _ _ _ _=>⟨fr,hf,rfl⟩)) ?_);intro u w' c' hx hs' hu;exact ih2 c' w' (a.put o.dst u) Q hs' (Sk (hf.mono hx) hu) (by cases o.dst<;>exact hd) (λe2 a2 w2 h2=>hQ e2 a2 w2 (h2.ext hx))
 | @afD ops i l o v fr s s1 ho _ oG =>
   intro cx w a Q hs hf hd hQ;refine Ql ho (oG cx w a _ _ hs (λx _=>dW hs hf x) (NO (c:=cx) (w:=w) (λ_ _ _ _ _=>⟨fr,hf,rfl⟩)) ?_);intro u w' c' hx hs' hu;exact hQ _ _ _ ⟨c',hx,hs',hd,u,rfl,hu⟩
 | @N4 ops o fr s s' v hw h =>
   intro cx w a K Q hs IY hwa hK;unfold OD;rw[<- hwa,hw];simp only[if_true];obtain⟨u,w',c',hr,hx,hs',hu⟩:=bY hs IY (λ_=>rfl) h;unfold Oper.wp;rcases hr with hr | ⟨hr,rfl⟩
   rw[hr];exact hK u w' c' hx hs' hu;rw[hr];exact hK undef w' c' hx hs' hu
 | @afB ops o fr s s' cl x y t tx a b v hw ho Iy hxs D4 ha hb h =>
   intro cx w ac K Q hs IY hwa hK;unfold OD;rw[<- hwa,hw];simp only[if_true];have e1:cl.args=#[x,y]:=by apply Array.ext';rw[hxs]
   have e2:cl.argTypes=#[t,tx]:=by apply Array.ext';rw[D4]
   have iL:∀z∈[x,y],z∈o.op.operands:=λz hz=>by rw[ho];simp only[Op.operands,Call.operands,e1,Array.mem_append];exact .inr (by simpa using hz)
   obtain⟨u,w',c',hr,hx,hs',hu⟩:=h cx w _ _ o.type hs (IY x (iL x (by simp)) a ha) (IY y (iL y (by simp)) b hb);unfold Oper.wp
   have hr2:(execOp ac.eval o).run P w=.ok (.value u) w':=by
     simp[execOp,ho,resolve,Iy,e1,e2,invoke,builtin,hr]
   rw[hr2];exact hK u w' c' hx hs' hu
 | @oZ ops o fr s hw =>
   intro cx w a K Q hs IY hwa hK;unfold OD;rw[<- hwa,hw];simp only[Bool.false_eq_true,if_false];exact hK undef w cx (Ext.refl _ _) hs (.sc rfl)
 | @R7 ops o fr s s' f args r hw h _ ih =>
   intro cx w a K Q hs IY hwa hK;unfold OD;rw[<- hwa,hw];simp only[if_true];obtain⟨vs,hr,IC⟩:=bY hs IY (λ_=>rfl) h;unfold Oper.wp;rw[hr];refine(ih cx w vs hs IC).mono ?_;rintro e w' ⟨c',hx,hs',h4⟩;cases r with
   | ret v=>obtain⟨u,rfl,hu⟩:=h4;exact hK u w' c' hx hs' hu
   | pan v=>obtain⟨u,rfl,hu⟩:=h4;exact hK u w' c' hx hs' hu
 | @asY ops o fr s v hw h =>
   intro cx w a K Q hs IY hwa hK;unfold OD;rw[<- hwa,hw];simp only[if_true];obtain⟨u,hr,hu⟩:=bY hs IY (λ_=>rfl) h;unfold Oper.wp;rw[hr];exact hK u w cx (Ext.refl _ _) hs hu
 | @draw id ops f0 s0 rs vals Ng h0 HU hl hq ha ihl =>
   intro cx w a Q hs hf hd hQ;refine wp_region_any hg.mixed ?_;obtain⟨x,st⟩:=hs.same (gL w);obtain⟨c2,x2,Xg,Ty⟩:=st.holds rs;rw[<- h0] at Xg;rw[hs.len] at ha;refine abB (nh:=rs.length) HU ihl hq cx w ha Q hQ ops.size _ a _ ⟨by simp,?_,⟨c2,0,Nat.zero_le _,?_,x.trans x2,Xg,?_,?_⟩,hd⟩ ?_;intro i o ho hL;exfalso;simp only[Array.getD_eq_getD_getElem?,Array.getElem?_replicate] at hL;split at hL<;>simp at hL
   intro l _;simp only[Array.getD_eq_getD_getElem?,Array.getElem?_replicate];split<;>simp
   · have:Iz f0 (Cr ops) vals (λj=>(Array.replicate ops.size false).getD j false) ops.size=f0:=by
       have key:∀n,Iz f0 (Cr ops) vals (λj=>(Array.replicate ops.size false).getD j false) n=f0:=by
         intro n
         induction n with
         | zero=>rfl
         | succ n ih =>
           simp only[Iz,ih];rw[if_neg];simp only[Array.getD_eq_getD_getElem?,Array.getElem?_replicate];split<;>simp
       exact key _
     rw[this];exact hf.mono (x.trans x2)
   intro j y _ _ _ hj;rw[Ty,List.getElem?_append_right (by omega)];simp[List.getElem?_replicate];omega
   · have key:∀n,gQ (λj=>(Array.replicate ops.size false).getD j false) n=n:=by
       intro n
       induction n with
       | zero=>rfl
       | succ n ih =>
         simp only[gQ,ih]
         have:(Array.replicate ops.size false).getD n false=false:=by
           simp only[Array.getD_eq_getD_getElem?,Array.getElem?_replicate];split<;>simp
         simp only[this];simp
     exact key _
 | @body f fn c args fr' s s' s2 e v hf hb _ he hr hk ih =>
   intro cx w vs hs IC;have hl:=IC.len;refine calls_of_wp hf hb (ih cx w _ _ hs ?_ rfl ?_);simp only[Array.toList_append,Array.toList_replicate];rw[List.size_toArray,hl];exact IC.append (CT.replicate (.sc rfl) _);rintro e' a' w' ⟨c',hx,hs',Sy,h4⟩
   have Z0:St G c' w' s2:=by
     rcases hk with rfl | rfl
     exact hs'.cut _;exact hs'
   rcases he with rfl | rfl
   obtain⟨rfl,h5⟩:=h4;obtain⟨u,h6,h7⟩:=VZ hs' h5 hr;exact⟨Sy,u,h6,c',hx,Z0,u,rfl,h7⟩;obtain⟨rfl,h5⟩:=h4;obtain⟨u,h6,h7⟩:=VZ hs' h5 hr;exact⟨Sy,u,h6,c',hx,Z0,u,rfl,h7⟩
 | @arU f fn c args fr' s s' v hf hb _ ih =>
   intro cx w vs hs IC;have hl:=IC.len;refine calls_of_wp hf hb (ih cx w _ _ hs ?_ rfl ?_);simp only[Array.toList_append,Array.toList_replicate];rw[List.size_toArray,hl];exact IC.append (CT.replicate (.sc rfl) _);rintro e' a' w' ⟨c',hx,hs',Sy,u,rfl,h5⟩;exact⟨Sy,c',hx,hs'.cut _,u,rfl,h5⟩
 | ext h=>exact hg.ext _ _ _ _ _ h
 | awC hh _ hk ih=>exact hg.awC _ _ _ _ _ hh _ _ _ _ ih hk
end AI
namespace AI
open Go Go.RowKit
def akM:Value->Value->Bool
 | .int k a,.int k' b=>k == k'&&a == b
 | .bool a,.bool b=>a == b
 | .string a,.string b=>a.data.toList == b.data.toList
 | .nilIface,.nilIface=>true
 | .nilFunc,.nilFunc=>true
 | .pointer none,.pointer none=>true
 | .map none,.map none=>true
 | .tuple a,.tuple b=>a.size == 0&&b.size == 0
 | _,_=>false
def qQ{a b:Value}(h:akM a b=true):a=b:=by
 unfold akM at h;split at h;simp at h;rw[h.1,h.2];simp at h;rw[h];simp only[beq_iff_eq] at h;rename_i x y;have:x=y:=ByteArray.ext (Array.ext' h);rw[this];rfl;rfl;rfl;rfl;rename_i x y;simp at h;rw[h.1,h.2];cases h
mutual
def Tp:AV->AV->Bool
 | .sc a,.sc b=>akM a b
 | .agg a,.agg b=>XJ a b
 | .CZ a,.CZ b=>XJ a b
 | .sl o n a,.sl p m b=>decide (o=p)&&n == m&&XJ a b
 | .msl a b c,.msl x y z=>a == x&&b == y&&c == z
 | .el a,.el b=>XJ a b
 | .ptr a b,.ptr x y=>a == x&&b == y
 | .fn f a b,.fn g x y=>decide (f=g)&&XJ a x&&XJ b y
 | .ifc t a,.ifc u b=>t == u&&Tp a b
 | .mp a,.mp b=>a == b
 | _,_=>false
def XJ:List AV->List AV->Bool
 | [],[]=>true
 | a::as,b::bs=>Tp a b&&XJ as bs
 | _,_=>false
end
mutual
def qP:∀{a b:AV},Tp a b=true->a=b
 | .sc a,b,h=>by cases b<;>simp[Tp] at h;rw[qQ h]
 | .agg a,b,h=>by cases b<;>simp[Tp] at h;rw[OU h]
 | .CZ a,b,h=>by cases b<;>simp[Tp] at h;rw[OU h]
 | .sl o n a,b,h=>by cases b<;>simp[Tp] at h;rw[h.1.1,h.1.2,OU h.2]
 | .msl _ _ _,b,h=>by cases b<;>simp[Tp] at h;rw[h.1.1,h.1.2,h.2]
 | .el a,b,h=>by cases b<;>simp[Tp] at h;rw[OU h]
 | .ptr _ _,b,h=>by cases b<;>simp[Tp] at h;rw[h.1,h.2]
 | .fn f a c,b,h=>by cases b<;>simp[Tp] at h;rw[h.1.1,OU h.1.2,OU h.2]
 | .ifc t a,b,h=>by cases b<;>simp[Tp] at h;rw[h.1,qP h.2]
 | .mp _,b,h=>by cases b<;>simp[Tp] at h;rw[h]
 | .any,b,h=>by cases b<;>simp[Tp] at h
def OU:∀{a b:List AV},XJ a b=true->a=b
 | [],b,h=>by cases b<;>simp[XJ] at h;rfl
 | a::as,b,h=>by cases b<;>simp[XJ] at h;rw[qP h.1,OU h.2]
end
def reads:Op->Bool
 | .load .. | .lookup ..=>true
 | .call cl=>(match cl.callee with
   | .builtin .len=>true
   | _=>false)
 | _=>false
def VD{P:Program}{G:Bc}{fr:List AV}{s:AS}{o:Oper}{r:AR}(hq:quiet o.op=true)(h:Qo P G fr s o=some r):∃v,r=.val v s:=by
 unfold Qo at h;split at h<;>rename_i ho<;>(try (rw[ho] at hq;simp[quiet] at hq;done))
 all_goals first
   | (obtain⟨v,_,rfl⟩:=map_some h;exact⟨_,rfl⟩)
   | (split at h
      all_goals first
        | (obtain⟨v,_,rfl⟩:=map_some h;exact⟨_,rfl⟩)
        | (cases h;done)
        | (cases h;exact⟨_,rfl⟩)
        | (split at h
           all_goals first
             | (cases h;done)
             | (cases h;exact⟨_,rfl⟩)))
   | (obtain⟨_,_,h2⟩:=bind_some h;obtain⟨v,_,rfl⟩:=map_some h2;exact⟨_,rfl⟩)
   | (rw[ho] at hq
      unfold S4 at h;split at h
      all_goals first
        | (obtain⟨_,_,h2⟩:=bind_some h;obtain⟨v,_,rfl⟩:=map_some h2;exact⟨_,rfl⟩)
        | (rename_i Iy;simp[quiet,Iy] at hq;done)
        | (split at h
           all_goals first
             | (obtain⟨v,_,rfl⟩:=map_some h;exact⟨_,rfl⟩)
             | (cases h;done))
        | (cases h;done))
   | (cases h;done)
def TP{P:Program}{G:Bc}{fr:List AV}{s:AS}{o:Oper}{v:AV}{s':AS}(hq:quiet o.op=true)(hr:reads o.op=false)(h:Qo P G fr s o=some (.val v s'))(s2:AS):Qo P G fr s2 o=some (.val v s2):=by
 have e:=VD hq h;obtain⟨v',e⟩:=e;injection e with e1 e2
 subst e1 e2;obtain⟨dst,op,ty,pos,after,guard⟩:=o;cases op<;>simp only[quiet,reads,Bool.false_eq_true] at hq hr<;>simp only[Qo] at h ⊢
 all_goals first
   | (obtain⟨v',h1,h2⟩:=map_some h;injection h2 with h2;subst h2;rw[h1];rfl)
   | (obtain⟨q,h0,h2⟩:=bind_some h;obtain⟨v',h1,h3⟩:=map_some h2;injection h3 with h3;subst h3;rw[h0,Option.bind_some,h1];rfl)
   | (split at h
      all_goals first
        | (obtain⟨v',h1,h2⟩:=map_some h;injection h2 with h2;subst h2;simp only[*,Option.map_some];done)
        | (cases h;done)
        | (cases h;simp only[*];done)
        | (split at h
           all_goals first
             | (cases h;done)
             | (cases h;simp[*];done)))
   | (cases hr;done)
   | (rename_i cl
      unfold S4 at h ⊢;split at h
      all_goals first
        | (rename_i Iy;simp[Iy] at hr;done)
        | (rename_i Iy;simp[Iy] at hq;done)
        | (simp only;obtain⟨q,h0,h2⟩:=bind_some h;obtain⟨v',h1,h3⟩:=map_some h2;injection h3 with h3;subst h3;rw[h0,Option.bind_some,h1];rfl)
        | (cases h;done))
end AI
namespace AI
open Go Go.RowKit
inductive Tk where
 | code (c:Code) (fr:List AV) (s:AS)
 | loop (c:Code) (fr:List AV) (s:AS)
 | ops (ops:Array Oper) (l:List Oper) (fr:List AV) (s:AS)
 | draw (ops:Array Oper) (l:List Oper) (fr:List AV) (s:AS) (q:Nat)
 | op (ops:Array Oper) (o:Oper) (fr:List AV) (s:AS)
 | call (f:FuncId) (args:List AV) (s:AS)
inductive Rs where
 | code (e:AX) (fr:List AV) (s:AS)
 | call (r:CR) (s:AS)
 | tr (l:List (List AV×AS×AV)) (fr:List AV) (s:AS)
abbrev arL:=FuncId->List AV->AS->Option (CR×AS)
def Nt:List Oper->Nat->List Nat
 | [],_=>[]
 | o::os,i=>if calm o.op then Nt os (i+1) else i::Nt os (i+1)
def aiQ(ms:List Nat)(ls:List Nat)(i k:Nat):Bool:=ls.all λl=>(!Sr ms i l||decide (l < k))&&(!Sr ms l i||decide (k<=l))
def tL(P:Program)(G:Bc)(ms ls:List Nat)(i:Nat)(o:Oper)(fr:List AV)(v:AV):List AS->Nat->Bool
 | [],_=>true
 | s::ss,k=>(!aiQ ms ls i k||(match Qo P G fr s o with
     | some (.val u _)=>Tp u v
     | _=>false))&&tL P G ms ls i o fr v ss (k+1)
def tP(P:Program)(G:Bc)(ops:Array Oper)(ms ls:List Nat)(Ng:List AS):List Oper->List (List AV×AS×AV)->Nat->Bool
 | o::os,t::ts,i=>(!(quiet o.op&&reads o.op)||!CC ops t.1 o||tL P G ms ls i o t.1 t.2.2 Ng 0)&&tP P G ops ms ls Ng os ts (i+1)
 | _,_,_=>true
def XK(ms ls:List Nat)(i id:Nat)(cs:List AV):List AS->Nat->Bool
 | [],_=>true
 | s::ss,k=>(!aiQ ms ls i k||(match s.get id with
     | some (.cells ds)=>XJ ds cs
     | _=>false))&&XK ms ls i id cs ss (k+1)
def To(P:Program)(ops:Array Oper)(ms ls:List Nat)(Ng:List AS):List Oper->List (List AV×AS×AV)->Nat->Nat->Bool
 | o::os,t::ts,i,q=>(match o.op with
   | .alloc e=>(!CC ops t.1 o||(match Mw P e with
     | some z=>XK ms ls i q (cellsOf z) Ng 0
     | none=>false))&&To P ops ms ls Ng os ts (i+1) (q+1)
   | _=>To P ops ms ls Ng os ts (i+1) q)
 | _,_,_,_=>true
def rsv(P:Program):List Oper->Option (List Bo)
 | []=>some []
 | o::l=>(match o.op with
   | .alloc e=>(match Mw P e,rsv P l with
     | some z,some r=>some (.cells (cellsOf z)::r)
     | _,_=>none)
   | _=>rsv P l)
def apC(P:Program)(G:Bc)(ops:Array Oper)(tr:List (List AV×AS×AV))(sf:AS):Bool :=
 match Nt ops.toList 0 with
 | []=>true
 | ls=>tP P G ops (Ij ops.toList []) ls (tr.map (·.2.1)++[sf]) ops.toList tr 0
def Xj(P:Program)(ops:Array Oper)(tr:List (List AV×AS×AV))(sf:AS)(q:Nat):List Bo->Bool
 | []=>true
 | _=>To P ops (Ij ops.toList []) (Nt ops.toList 0) (tr.map (·.2.1)++[sf]) ops.toList tr 0 q
def azJ(P:Program)(G:Bc)(ops:Array Oper)(tr:List (List AV×AS×AV))(sf:AS)(q:Nat)(r:List Bo):Bool :=
 match apC P G ops tr sf with
 | true=>Xj P ops tr sf q r
 | false=>false
def aAX:AV->Bool
 | .ptr _ _ | .msl _ _ _ | .mp _ | .fn _ _ _=>true
 | _=>false
def avD:List AV->Bool
 | []=>false
 | a::l=>match aAX a with
   | true=>true
   | false=>avD l
def esc:AV->Bool
 | .agg l=>avD l
 | .CZ l=>avD l
 | a=>aAX a
def fin(v:AV)(s:AS)(n:Nat):AS:=match esc v with
 | true=>s
 | false=>s.cut n
def Pa(ops:Array Oper)(fr:List AV)(o:Oper)(q:Nat):AV:=match CC ops fr o with
 | true=>.ptr q 0
 | false=>.sc undef
inductive SJ(P:Program)(G:Bc)(X:Wp)(H:Tj)(ops:Array Oper):Nat->List Oper->List AV->AS->List (List AV×AS×AV)->List AV->AS->Prop where
 | nil {q:Nat} {fr:List AV} {s:AS}:SJ P G X H ops q [] fr s [] fr s
 | cons {q:Nat} {o:Oper} {l:List Oper} {fr fr':List AV} {s s1 s':AS} {v:AV} {t:List (List AV×AS×AV)} (ha:B1 o.op=false) (h:J P G X H (.op ops o fr s (.ret v) s1)) (k:SJ P G X H ops q l (Jw fr o.dst v) s1 t fr' s'):SJ P G X H ops q (o::l) fr s ((fr,s,v)::t) fr' s'
 | alloc {q:Nat} {o:Oper} {l:List Oper} {fr fr':List AV} {s s':AS} {t:List (List AV×AS×AV)} (ha:B1 o.op=true) (k:SJ P G X H ops (q+1) l (Jw fr o.dst (Pa ops fr o q)) s t fr' s'):SJ P G X H ops q (o::l) fr s ((fr,s,Pa ops fr o q)::t) fr' s'
section
variable {P:Program} {G:Bc} {X:Wp} {H:Tj} {ops:Array Oper}
def SJ.len{q:Nat}{l:List Oper}{fr fr':List AV}{s s':AS}{t:List (List AV×AS×AV)}(h:SJ P G X H ops q l fr s t fr' s'):t.length=l.length:=by
 induction h with
 | nil=>rfl
 | cons _ _ _ ih=>simp[ih]
 | alloc _ _ ih=>simp[ih]
def FR(t:List (List AV×AS×AV))(sf:AS)(i:Nat):AS:=match t[i]? with
 | some x=>x.2.1
 | none=>sf
def KD(t:List (List AV×AS×AV))(i:Nat):AV:=match t[i]? with
 | some x=>x.2.2
 | none=>.sc undef
def SJ.at{q:Nat}{l:List Oper}{fr fr':List AV}{s s':AS}{t:List (List AV×AS×AV)}(h:SJ P G X H ops q l fr s t fr' s'):FR t s' 0=s/\∀i o,l[i]?=some o->∃fi,t[i]?=some (fi,FR t s' i,KD t i) /\
   ((B1 o.op=false/\J P G X H (.op ops o fi (FR t s' i) (.ret (KD t i)) (FR t s' (i+1))))\/(B1 o.op=true/\FR t s' (i+1)=FR t s' i/\KD t i=Pa ops fi o (q+mK l i))):=by
 induction h with
 | nil=>exact⟨rfl,λi o ho=>by simp at ho⟩
 | @cons q o l fr fr' s s1 s' v t ha h k ih =>
   refine⟨rfl,λi o' ho=>?_⟩;cases i with
   | zero =>
     simp at ho;subst ho;refine⟨fr,rfl,.inl ⟨ha,?_⟩⟩
     have:FR ((fr,s,v)::t) s' 1=s1:=by
       have:=ih.1;unfold FR at this ⊢;simpa using this
     rw[this];exact h
   | succ i =>
     obtain⟨fi,h1,h2⟩:=ih.2 i o' (by simpa using ho)
     refine⟨fi,?_,?_⟩;have:((fr,s,v)::t)[i+1]?=t[i]?:=by simp
     rw[this,h1];simp[FR,KD];simp only[mK,ha,Nat.zero_add];simpa[FR,KD] using h2
 | @alloc q o l fr fr' s s' t ha k ih =>
   refine⟨rfl,λi o' ho=>?_⟩;cases i with
   | zero =>
     simp at ho;subst ho;refine⟨fr,rfl,.inr ⟨ha,?_,?_⟩⟩;have:=ih.1;unfold FR at this ⊢;simpa using this
     simp[KD,mK]
   | succ i =>
     obtain⟨fi,h1,h2⟩:=ih.2 i o' (by simpa using ho)
     refine⟨fi,?_,?_⟩;have:((fr,s,Pa ops fr o q)::t)[i+1]?=t[i]?:=by simp
     rw[this,h1];simp[FR,KD];simp only[mK,ha];rw[<- Nat.add_assoc];simpa[FR,KD] using h2
def SJ.cQ{q:Nat}{l:List Oper}{fr fr':List AV}{s s':AS}{t:List (List AV×AS×AV)}(h:SJ P G X H ops q l fr s t fr' s')(dst:Nat->Option Tmp)(vals:Nat->AV)(f0:List AV)(k:Nat)(hfr:fr=Iz f0 dst vals (λ_=>true) k)(hd:∀i o,l[i]?=some o->dst (k+i)=o.dst)(hv:∀i,vals (k+i)=KD t i\/l.length<=i) :
   fr'=Iz f0 dst vals (λ_=>true) (k+l.length)/\∀i x,t[i]?=some x->x.1=Iz f0 dst vals (λ_=>true) (k+i):=by
 have key:∀{q:Nat} {o:Oper} {l:List Oper} {fr fr':List AV} {s:AS} {v:AV} {t:List (List AV×AS×AV)}
     (_:∀(k:Nat),Jw fr o.dst v=Iz f0 dst vals (λ_=>true) k->(∀i o,l[i]?=some o->dst (k+i)=o.dst)->(∀i,vals (k+i)=KD t i\/l.length<=i)->fr'=Iz f0 dst vals (λ_=>true) (k+l.length)/\∀i x,t[i]?=some x->x.1=Iz f0 dst vals (λ_=>true) (k+i))
     (k:Nat),fr=Iz f0 dst vals (λ_=>true) k->(∀i o',(o::l)[i]?=some o'->dst (k+i)=o'.dst)->(∀i,vals (k+i)=KD ((fr,s,v)::t) i\/(o::l).length<=i) ->
     fr'=Iz f0 dst vals (λ_=>true) (k+(o::l).length)/\∀i x,((fr,s,v)::t)[i]?=some x->x.1=Iz f0 dst vals (λ_=>true) (k+i):=by
   intro q o l fr fr' s v t ih k hfr hd hv;have hd0:=hd 0 o rfl
   have hv0:vals k=v:=by
     rcases hv 0 with h0 | h0
     simpa[KD] using h0
     simp at h0
   have:=ih (k+1) (by simp only[Iz,if_true];rw[hfr,<- hd0,hv0];rfl) (λi o' V8=>by have:=hd (i+1) o' (by simpa using V8);rwa[show k+1+i=k+(i+1) from by omega]) (λi=>by
     rcases hv (i+1) with h1 | h1
     left;rw[show k+1+i=k+(i+1) from by omega,h1];simp[KD];right;simp at h1;omega)
   refine⟨by rw[this.1];congr 1;simp;omega,λi x hx=>?_⟩;cases i with
   | zero=>simp at hx;subst hx;exact hfr
   | succ i =>
     have h2:=this.2 i x (by simpa using hx)
     rw[h2];congr 1;omega
 induction h generalizing k with
 | nil=>exact⟨hfr,λi x hx=>by simp at hx⟩
 | @cons q o l fr fr' s s1 s' v t ha h _ ih=>exact key (q:=q) (λk h1 h2 h3=>ih k h1 h2 h3) k hfr hd hv
 | @alloc q o l fr fr' s s' t ha _ ih=>exact key (q:=q) (λk h1 h2 h3=>ih k h1 h2 h3) k hfr hd hv
def arG{i k:Nat}{ls:List Nat}(hls:∀l,l∈ls->Yw ops l)(h:Win ops i k):aiQ (Ij ops.toList []) ls i k=true:=by
 unfold aiQ;rw[List.all_eq_true];intro l hl;have h1:=h.1 l (hls l hl);have h2:=h.2 l (hls l hl);cases hd1:Sr (Ij ops.toList []) i l<;>cases hd2:Sr (Ij ops.toList []) l i<;>simp_all
def dR{os:List Oper}{i l:Nat}(h:l∈Nt os i):∃j o,l=i+j/\os[j]?=some o/\calm o.op=false:=by
 induction os generalizing i with
 | nil=>simp[Nt] at h
 | cons x os ih =>
   simp only[Nt] at h;split at h;obtain⟨j,o,h1,h2,h3⟩:=ih h;exact⟨j+1,o,by omega,by simpa using h2,h3⟩
   rename_i hq;rcases List.mem_cons.1 h with h | h
   exact⟨0,x,by omega,rfl,by simpa using hq⟩
   obtain⟨j,o,h1,h2,h3⟩:=ih h;exact⟨j+1,o,by omega,by simpa using h2,h3⟩
def Ka{o:Oper}{fr:List AV}{s s':AS}{v:AV}(hq:quiet o.op=true)(h:J P G X H (.op ops o fr s (.ret v) s')):s'=s/\((CC ops fr o=false/\v=.sc undef)\/(CC ops fr o=true/\Qo P G fr s o=some (.val v s))):=by
 cases h with
 | N4 hw h =>
   obtain⟨v',e⟩:=VD hq h;injection e with e1 e2
   subst e2;exact⟨rfl,.inr ⟨hw,h⟩⟩
 | oZ hw=>exact⟨rfl,.inl ⟨hw,rfl⟩⟩
 | R7 hw h hc =>
   obtain⟨v',e⟩:=VD hq h;cases e
 | pA Zn=>rw[hq] at Zn;cases Zn
 | dU Zn=>rw[hq] at Zn;cases Zn
 | afB _ ho Iy=>simp[quiet,ho,Iy] at hq
def vB{ms ls:List Nat}{i id:Nat}{cs:List AV}{ss:List AS}{k0:Nat}(h:XK ms ls i id cs ss k0=true){k:Nat}{s:AS}(hs:ss[k]?=some s)(hw:aiQ ms ls i (k0+k)=true):s.get id=some (.cells cs):=by
 induction ss generalizing k0 k with
 | nil=>simp at hs
 | cons x ss ih =>
   simp only[XK,Bool.and_eq_true] at h;cases k with
   | zero =>
     simp at hs;subst hs;rw[Nat.add_zero] at hw;have h1:=h.1;rw[hw] at h1;simp only[Bool.not_true,Bool.false_or] at h1;split at h1;rename_i ds hu;rw[hu,OU h1];cases h1
   | succ k=>exact ih h.2 (by simpa using hs) (by rwa[show k0+1+k=k0+(k+1) from by omega])
def uQ{ms ls:List Nat}{Ng:List AS}{os:List Oper}{ts:List (List AV×AS×AV)}{i0 q:Nat}(h:To P ops ms ls Ng os ts i0 q=true){i:Nat}{o:Oper}{e:TypeId}{x:List AV×AS×AV}(ho:os[i]?=some o)(hx:ts[i]?=some x)(he:o.op=.alloc e)(hw:CC ops x.1 o=true):∃z,Mw P e=some z/\XK ms ls (i0+i) (q+mK os i) (cellsOf z) Ng 0=true:=by
 induction os generalizing ts i0 i q with
 | nil=>simp at ho
 | cons y os ih =>
   cases ts with
   | nil=>simp at hx
   | cons t ts =>
     cases i with
     | zero =>
       simp at ho hx;subst ho hx;simp only[To,he,hw,Bool.not_true,Bool.false_or,Bool.and_eq_true] at h;have h1:=h.1;split at h1;rename_i z hz;exact⟨z,hz,h1⟩;cases h1
     | succ i =>
       simp only[To] at h;split at h;rename_i e' he';rw[Bool.and_eq_true] at h;have:=ih h.2 (by simpa using ho) (by simpa using hx)
       simp only[mK,he',B1];rwa[show i0+1+i=i0+(i+1) from by omega,Nat.add_assoc q] at this;rename_i hne;have:=ih h (by simpa using ho) (by simpa using hx)
       have mF:B1 y.op=false:=by
         cases dI:B1 y.op with
         | false=>rfl
         | true=>obtain⟨e',he'⟩:=KR dI;exact absurd he' (hne e')
       simp only[mK,mF,Nat.zero_add];rwa[show i0+1+i=i0+(i+1) from by omega] at this
def aoP{l:List Oper}{r:List Bo}(h:rsv P l=some r):r.length=mK l l.length:=by
 induction l generalizing r with
 | nil=>simp[rsv] at h;subst h;rfl
 | cons o l ih =>
   simp only[rsv] at h;split at h;rename_i e he;split at h;rename_i z r' hz hr;cases h;simp only[List.length_cons,mK,he,B1,ih hr];omega;cases h;rename_i hne
   have mF:B1 o.op=false:=by
     cases dI:B1 o.op with
     | false=>rfl
     | true=>obtain⟨e',he'⟩:=KR dI;exact absurd he' (hne e')
   simp only[List.length_cons,mK,mF,ih h];omega
def Q9{o:Oper}{e:TypeId}(h:o.op=.alloc e):quiet o.op=false:=by rw[h];rfl
end
end AI
namespace AI
open Go Go.RowKit
def inI:Int->Bool
 | .ofNat m=>Nat.ble m 9223372036854775807
 | .negSucc m=>Nat.ble m 9223372036854775807
def Nh(k:IntKind)(n:Int):Int:=match k with
 | .i64=>(match inI n with | true=>n | false=>IntKind.i64.wrap n)
 | k=>k.wrap n
def axC{n:Int}(h:inI n=true):IntKind.i64.wrap n=n:=by
 refine IntWalk.i64_in n ?_;cases n with
 | ofNat m =>
   have:=Nat.le_of_ble_eq_true h;have e:Int.ofNat m=(m:Int):=rfl;rw[e];have h2:(m:Int)<=9223372036854775807:=Int.ofNat_le.2 this;have h3:(0:Int)<=m:=Int.natCast_nonneg m;omega
 | negSucc m =>
   have:=Nat.le_of_ble_eq_true h;rw[Int.negSucc_eq];constructor;have e:(-9223372036854775808:Int)=-(9223372036854775807+1):=rfl;rw[e];have h2:(m:Int)<=9223372036854775807:=Int.ofNat_le.2 this;omega;have h2:(0:Int)<=m:=Int.natCast_nonneg m;omega
def U7(k:IntKind)(n:Int):Nh k n=k.wrap n:=by
 cases k<;>try rfl
 simp only[Nh];cases h:inI n with
 | true=>exact(axC h).symm
 | false=>rfl
def zZ:Int->Int->Int
 | .ofNat a,.ofNat b=>.ofNat (Nat.add a b)
 | a,b=>a+b
def bU(a b:Int):zZ a b=a+b:=by cases a<;>cases b<;>rfl
def aEE(a b:Nat):Int:=match Nat.ble b a with
 | true=>.ofNat (Nat.sub a b)
 | false=>(a:Int) - (b:Int)
def eU:Int->Int->Int
 | .ofNat a,.ofNat b=>aEE a b
 | a,b=>a - b
def eV(a b:Int):eU a b=a - b:=by
 cases a<;>cases b<;>try rfl
 rename_i a b;simp only[eU,aEE];cases h:Nat.ble b a with
 | true =>
   have:=Nat.le_of_ble_eq_true h;show Int.ofNat (a - b)=(a:Int) - (b:Int);exact Int.ofNat_sub this
 | false=>rfl
def CS:Int->Int->Bool
 | .ofNat a,.ofNat b=>Nat.beq a b
 | .negSucc a,.negSucc b=>Nat.beq a b
 | _,_=>false
def Qy(a b:Int):CS a b=(a == b):=by
 cases a<;>cases b<;>simp only[CS]
 rename_i a b;rw[Bool.eq_iff_iff,beq_iff_eq,Int.ofNat.injEq];exact⟨λh=>Nat.eq_of_beq_eq_true h,λh=>by subst h;exact Nat.beq_refl a⟩;rw[Bool.eq_iff_iff,beq_iff_eq];exact⟨λh=>by simp at h,λh=>by cases h⟩;rw[Bool.eq_iff_iff,beq_iff_eq];exact⟨λh=>by simp at h,λh=>by cases h⟩;rename_i a b;rw[Bool.eq_iff_iff,beq_iff_eq,Int.negSucc.injEq];exact⟨λh=>Nat.eq_of_beq_eq_true h,λh=>by subst h;exact Nat.beq_refl a⟩
def N1:Int->Int->Bool
 | .ofNat a,.ofNat b=>Nat.ble a b
 | a,b=>decide (a<=b)
def Yr(a b:Int):N1 a b=decide (a<=b):=by
 cases a<;>cases b<;>try rfl
 rename_i a b;simp only[N1];rw[Bool.eq_iff_iff,decide_eq_true_iff];show _↔(a:Int)<=(b:Int);rw[Int.ofNat_le];exact⟨Nat.le_of_ble_eq_true,Nat.ble_eq_true_of_le⟩
def DM:Int->Int->Bool
 | .ofNat a,.ofNat b=>Nat.ble (Nat.succ a) b
 | a,b=>decide (a < b)
def R5(a b:Int):DM a b=decide (a < b):=by
 cases a<;>cases b<;>try rfl
 rename_i a b;simp only[DM];rw[Bool.eq_iff_iff,decide_eq_true_iff];show _↔(a:Int) < (b:Int);rw[Int.ofNat_lt];exact⟨Nat.le_of_ble_eq_true,Nat.ble_eq_true_of_le⟩
def sameKind:IntKind->IntKind->Bool
 | .i64,.i64=>true
 | .u8,.u8=>true
 | _,_=>false
def Wl{a b:IntKind}(h:sameKind a b=true):a=b:=by cases a<;>cases b<;>first | rfl | cases h
def amC(k:IntKind)(a b:Int):BinOp->Option Value
 | .add=>some (.int k (Nh k (zZ a b)))
 | .sub=>some (.int k (Nh k (eU a b)))
 | .mul=>some (.int k (Nh k (a*b)))
 | .eql=>some (.bool (CS a b))
 | .neq=>some (.bool (!CS a b))
 | .lss=>some (.bool (DM a b))
 | .leq=>some (.bool (N1 a b))
 | .gtr=>some (.bool (DM b a))
 | .geq=>some (.bool (N1 b a))
 | _=>none
def amD{P:Program}{op:BinOp}{k:IntKind}{a b:Int}{t:TypeId}{xo yo:Operand}{v:Value}(h:amC k a b op=some v):pv P (do eqGuard op t xo yo (.int k a) (.int k b);binOp op t (.int k a) (.int k b))=some v/\scalar v=true:=by
 cases op<;>simp only[amC,Option.some.injEq,reduceCtorEq] at h<;>subst h<;>refine⟨?_,rfl⟩<;>simp[eqGuard,binOp,Op.intArith,Op.intCmp,pv,U7,bU,eV,Qy,R5,Yr,bne,Bind.bind,Sem.bind,Pure.pure]
def B2:List UInt8->List UInt8->Bool
 | [],[]=>true
 | a::l,b::m=>(match Nat.beq a.toNat b.toNat with
   | true=>B2 l m
   | false=>false)
 | _,_=>false
def Tt(l m:List UInt8):B2 l m=(l == m):=by
 induction l generalizing m with
 | nil=>cases m<;>rfl
 | cons a l ih =>
   cases m with
   | nil=>rfl
   | cons b m =>
     simp only[B2];cases h:Nat.beq a.toNat b.toNat with
     | true =>
       have:a=b:=UInt8.toNat_inj.1 (Nat.eq_of_beq_eq_true h);subst this;simp only[ih];simp
     | false =>
       have:a≠b:=λe=>by subst e;have:=Nat.ne_of_beq_eq_false h;exact this rfl
       simp[this]
def azL(x y:ByteArray):BinOp->Option Value
 | .eql=>some (.bool (B2 x.data.toList y.data.toList))
 | .neq=>some (.bool (!B2 x.data.toList y.data.toList))
 | op=>uV op x y
def apE(x y:ByteArray)(op:BinOp):azL x y op=uV op x y:=by cases op<;>simp only[azL,uV,Tt]
def agF(v:Option Value):Option AV:=match v with
 | some v=>(match scalar v with | true=>some (.sc v) | false=>none)
 | none=>none
def agG(v:Option Value):agF v=v.bind ZG:=by
 cases v with
 | none=>rfl
 | some v=>simp only[agF,Option.bind_some,ZG];cases scalar v<;>rfl
def scF(P:Program)(op:BinOp)(t:TypeId)(xo yo:Operand)(x y:Value):Option AV :=
 match x with
 | .int k a=>(match y with
   | .int k' b=>(match sameKind k k' with
     | true=>(match amC k a b op with
       | some v=>some (.sc v)
       | none=>Ll P op t xo yo (.sc (.int k a)) (.sc (.int k' b)))
     | false=>Ll P op t xo yo (.sc (.int k a)) (.sc (.int k' b)))
   | y=>Ll P op t xo yo (.sc (.int k a)) (.sc y))
 | .string a=>(match y with
   | .string b=>agF (azL a b op)
   | y=>Ll P op t xo yo (.sc (.string a)) (.sc y))
 | x=>Ll P op t xo yo (.sc x) (.sc y)
def Xu(P:Program)(op:BinOp)(t:TypeId)(xo yo:Operand)(a b:AV):Option AV :=
 match a with
 | .sc x=>(match b with
   | .sc y=>scF P op t xo yo x y
   | b=>Ll P op t xo yo (.sc x) b)
 | a=>Ll P op t xo yo a b
def NN(P:Program)(op:BinOp)(t:TypeId)(xo yo:Operand)(a b:AV):Xu P op t xo yo a b=Ll P op t xo yo a b:=by
 unfold Xu;cases a with
 | sc x =>
   cases b with
   | sc y =>
     simp only[scF];cases x with
     | int k a =>
       cases y with
       | int k' b =>
         simp only;cases hk:sameKind k k' with
         | false=>rfl
         | true =>
           have:=Wl hk;subst this;simp only;cases hf:amC k a b op with
           | none=>rfl
           | some v =>
             obtain⟨h1,h2⟩:=amD (P:=P) (t:=t) (xo:=xo) (yo:=yo) hf;simp[Ll,S3,U0,h1,ZG,h2]
       | _=>rfl
     | string a =>
       cases y with
       | string b=>simp only[agG,apE];rfl
       | _=>rfl
     | _=>rfl
   | _=>rfl
 | _=>rfl
def aeW:List UInt8->Nat->Option UInt8
 | [],_=>none
 | a::_,0=>some a
 | _::l,n+1=>aeW l n
def anB(l:List UInt8)(n:Nat):aeW l n=l[n]?:=by
 induction l generalizing n with
 | nil=>simp[aeW]
 | cons a l ih=>cases n<;>simp[aeW,ih]
def aAP:Option UInt8->Option AV
 | some b=>some (.sc (.int .u8 (.ofNat b.toNat)))
 | none=>none
def WQ(P:Program)(t:TypeId)(x ix:AV):Option AV :=
 match x with
 | .sc (.string s)=>(match P.underlying t with
   | some .string=>(match SK ix with
     | some i=>aAP (aeW s.data.toList i)
     | none=>none)
   | _=>Lm P t (.sc (.string s)) ix)
 | x=>Lm P t x ix
def mO(P:Program)(t:TypeId)(x ix:AV):WQ P t x ix=Lm P t x ix:=by
 unfold WQ;cases x with
 | sc v =>
   cases v with
   | string s =>
     simp only;split
     · rename_i hu
       unfold Lm;rw[hu];cases SK ix with
       | none=>rfl
       | some i =>
         simp only[anB];cases s.data.toList[i]?<;>rfl
     rfl
   | _=>rfl
 | _=>rfl
end AI
namespace AI
open Go Go.RowKit
def nth:List AV->Nat->AV
 | [],_=>.sc undef
 | a::_,0=>a
 | _::l,n+1=>nth l n
def axZ(l:List AV)(n:Nat):nth l n=l.getD n (.sc undef):=by
 induction l generalizing n with
 | nil=>simp[nth]
 | cons a l ih=>cases n<;>simp[nth,ih]
def evG:Option (List AV)->Option AV
 | some cs=>some (.el cs)
 | none=>none
def AZ(G:Bc)(fr:List AV):Operand->Option AV
 | .tmp t=>some (nth fr t)
 | .const v=>Wg v
 | .global g=>evG (G g)
 | .func f=>some (.fn (.func f) [] [])
def Cv(G:Bc)(fr:List AV)(x:Operand):AZ G fr x=Bg G fr x:=by
 cases x with
 | tmp t=>simp only[AZ,Bg,axZ]
 | const v=>rfl
 | global g=>simp only[AZ,Bg];cases G g<;>rfl
 | func f=>rfl
def MU(s:AS):Option AV->Option AR
 | some v=>some (.val v s)
 | none=>none
def SI(s:AS)(o:Option AV):MU s o=o.map (λv=>.val v s):=by cases o<;>rfl
def lG:Option AS->Option AR
 | some s=>some (.val (.sc undef) s)
 | none=>none
def aqO(o:Option AS):lG o=o.map (λs=>.val (.sc undef) s):=by cases o<;>rfl
def yH:Option (AV×AS)->Option AR
 | some r=>some (.val r.1 r.2)
 | none=>none
def uF(o:Option (AV×AS)):yH o=o.map (λr=>.val r.1 r.2):=by cases o<;>rfl
def fN{α β:Type}(o:Option α)(f:α->Option β):Option β:=match o with
 | some a=>f a
 | none=>none
def cD{α β:Type}(o:Option α)(f:α->Option β):fN o f=o.bind f:=by cases o<;>rfl
def two{β:Type}(a b:Option AV)(f:AV->AV->Option β):Option β:=match a with
 | some x=>(match b with
   | some y=>f x y
   | none=>none)
 | none=>none
def three{β:Type}(a b d:Option AV)(f:AV->AV->AV->Option β):Option β:=match a with
 | some x=>(match b with
   | some y=>(match d with
     | some z=>f x y z
     | none=>none)
   | none=>none)
 | none=>none
def atA(x y:Option AV):Option AV->Option AV
 | some (.sc (.bool t))=>(match t with | true=>x | false=>y)
 | _=>none
def aeV(s:AS):Option AV->Option AR
 | some z=>some (.val (.ptr s.nx 0) (s.new (.cells (cellsOf z))))
 | none=>none
def sP(s:AS):Option AV->Option AR
 | some z=>(match R0 z with | true=>none | false=>some (.val (.ptr s.nx 0) (s.new (.cells (cellsOf z)))))
 | none=>none
def mY(s:AS):Option AV->Option AR
 | some v=>(match notNil v with | true=>some (.val v s) | false=>none)
 | none=>none
def oF(t:TypeId)(s:AS)(v:Option AV):Option TypeDesc->Option AR
 | some d=>(match v with
   | some v=>(match isIface d with | true=>none | false=>some (.val (.ifc t v) s))
   | none=>none)
 | none=>none
def func1(f:Fn)(s:AS)(b:Option (List AV)):Option (List AV)->Option AR
 | some a=>(match b with
   | some b=>some (.val (.fn f a b) s)
   | none=>none)
 | none=>none
def agU(P:Program)(s:AS)(t:TypeId)(l h m:Option (Option AV)):Option AV->Option AR
 | some a=>(match l with
   | some l=>(match h with
     | some h=>(match m with
       | some m=>MU s (KN P t a l h m)
       | none=>none)
     | none=>none)
   | none=>none)
 | none=>none
def aDL:Option AV->Option AR
 | some (.ifc t v)=>some (.pan (.ifc t v))
 | _=>none
def aAW(P:Program)(as:Option (List AV)):Option AV->Option AR
 | some (.fn (.func g) first caps)=>(match as with
   | some as=>(match Mx P g with | true=>some (.ent g (first++as++caps)) | false=>none)
   | none=>none)
 | _=>none
def aCZ(P:Program)(G:Bc)(fr:List AV)(s:AS):List Operand->List TypeId->Option AR
 | [x],[t]=>MU s (fN (AZ G fr x) (Wq P s t))
 | _,_=>none
def aAG(P:Program)(G:Bc)(fr:List AV)(s:AS):List Operand->List TypeId->Option AR
 | [x,y],[t,tx]=>yH (two (AZ G fr x) (AZ G fr y) (Mc P s t tx))
 | _,_=>none
def atC(P:Program)(s:AS)(f:List Value->Sem Value):Option (List Value)->Option AR
 | some vs=>MU s (VY P (f vs))
 | none=>none
def atD(P:Program)(s:AS)(f:Value->Sem Value):Option Value->Option AR
 | some v=>MU s (VY P (f v))
 | none=>none
def RT(P:Program)(G:Bc)(fr:List AV)(s:AS)(o:Oper)(cl:Call):Builtin->Option AR
 | .len=>aCZ P G fr s cl.args.toList cl.argTypes.toList
 | .append=>aAG P G fr s cl.args.toList cl.argTypes.toList
 | .max=>atC P s (λvs=>Builtin.max_ cl.argTypes o.type vs.toArray) (fN (Zu G fr cl.args.toList) O4)
 | .min=>atC P s (λvs=>Builtin.min_ cl.argTypes o.type vs.toArray) (fN (Zu G fr cl.args.toList) O4)
 | _=>none
def bR(P:Program)(G:Bc)(fr:List AV)(s:AS)(o:Oper)(cl:Call):Option AR :=
 match cl.callee with
 | .builtin b=>RT P G fr s o cl b
 | .value f=>aAW P (Zu G fr cl.args.toList) (AZ G fr f)
 | _=>none
def iZ(s:AS):Option Operand->Option AR
 | none=>some (.val (.mp s.nx) (s.new (.map [] 0)))
 | some _=>none
def Uj(P:Program)(G:Bc)(fr:List AV)(s:AS)(o:Oper):Option AR :=
 match o.op with
 | .move x=>MU s (AZ G fr x)
 | .assign x=>MU s (AZ G fr x)
 | .pick c a b=>MU s (atA (AZ G fr a) (AZ G fr b) (AZ G fr c))
 | .alloc e=>aeV s (Mw P e)
 | .box _ x=>sP s (AZ G fr x)
 | .build t ps=>MU s (fN (Mf G fr ps.toList) (Xv P t))
 | .buildSlice t n ps=>MU s (fN (Mf G fr ps.toList) (Mu P t n))
 | .load t a=>MU s (fN (AZ G fr a) (KY P s t))
 | .store t a x=>lG (two (AZ G fr a) (AZ G fr x) (L2 P s t))
 | .nilCheck x=>mY s (AZ G fr x)
 | .binOp op t x y _=>MU s (two (AZ G fr x) (AZ G fr y) (Xu P op t x y))
 | .unOp op _ x=>atD P s (Op.unary op) (fN (AZ G fr x) Y1)
 | .convert src dst x=>MU s (fN (AZ G fr x) (VX P src dst))
 | .makeInterface t x=>oF t s (AZ G fr x) (P.underlying t)
 | .makeFunc f first caps=>func1 f s (Zu G fr caps.toList) (Zu G fr first.toList)
 | .makeMap _ r=>iZ s r
 | .makeSlice t l c=>yH (two (AZ G fr l) (AZ G fr c) (JE P s t))
 | .slice t x lo hi mx=>agU P s t (fO G fr lo) (fO G fr hi) (fO G fr mx) (AZ G fr x)
 | .fieldAddr t x k=>MU s (fN (AZ G fr x) λa=>RH P t a k)
 | .field t x k=>MU s (fN (AZ G fr x) λa=>Xy P t a k)
 | .indexAddr t x i=>MU s (two (AZ G fr x) (AZ G fr i) (Dz P t))
 | .index t x i=>MU s (two (AZ G fr x) (AZ G fr i) (WQ P t))
 | .lookup t x k ok=>MU s (two (AZ G fr x) (AZ G fr k) λa b=>Ji P s t a b ok)
 | .mapUpdate t m k x=>lG (three (AZ G fr m) (AZ G fr k) (AZ G fr x) (KF P s t))
 | .insert t m k x=>lG (three (AZ G fr m) (AZ G fr k) (AZ G fr x) (KF P s t))
 | .mapEntry t m k=>yH (two (AZ G fr m) (AZ G fr k) (PI P s t))
 | .entryStore _ m st x=>lG (three (AZ G fr m) (AZ G fr st) (AZ G fr x) (Mv s))
 | .extract x k=>MU s (fN (AZ G fr x) λa=>RG a k)
 | .call cl=>bR P G fr s o cl
 | .panic x=>aDL (AZ G fr x)
 | _=>none
def uN(P:Program)(G:Bc)(fr:List AV)(s:AS)(o:Oper)(cl:Call):bR P G fr s o cl=S4 P G fr s o cl:=by
 unfold bR S4;cases hc:cl.callee with
 | value f =>
   simp only[Cv];cases Bg G fr f with
   | none=>rfl
   | some v =>
     cases v with
     | fn g a b =>
       cases g with
       | func g =>
         cases Zu G fr cl.args.toList with
         | none=>rfl
         | some as =>
           simp only[aAW];cases Mx P g<;>rfl
       | _=>rfl
     | _=>rfl
 | invoke r m=>rfl
 | builtin b =>
   cases b<;>try rfl
   · simp only[RT]
     cases hx:cl.args.toList with
     | nil=>rfl
     | cons x xs =>
       cases xs with
       | nil=>rfl
       | cons y ys =>
         cases ys with
         | cons z zs=>rfl
         | nil =>
           cases ht:cl.argTypes.toList with
           | nil=>rfl
           | cons t ts =>
             cases ts with
             | nil=>rfl
             | cons u us =>
               cases us with
               | cons v vs=>rfl
               | nil =>
                 simp only[aAG,Cv];cases Bg G fr x<;>cases Bg G fr y<;>first | rfl | exact uF _
   · simp only[RT]
     cases hx:cl.args.toList with
     | nil=>rfl
     | cons x xs =>
       cases xs with
       | cons y ys=>rfl
       | nil =>
         cases ht:cl.argTypes.toList with
         | nil=>rfl
         | cons t ts =>
           cases ts with
           | cons u us=>rfl
           | nil=>simp only[aCZ,Cv,cD];exact SI _ _
   simp only[RT,cD];cases (Zu G fr cl.args.toList).bind O4 with
   | none=>rfl
   | some vs=>exact SI _ _
   simp only[RT,cD];cases (Zu G fr cl.args.toList).bind O4 with
   | none=>rfl
   | some vs=>exact SI _ _
def Nn(P:Program)(G:Bc)(fr:List AV)(s:AS)(o:Oper):Uj P G fr s o=Qo P G fr s o:=by
 unfold Uj Qo;cases ho:o.op<;>simp only[Cv,SI,aqO,uF,cD,uN]
 case pick c a b =>
   cases Bg G fr c with
   | none=>rfl
   | some v =>
     cases v with
     | sc u=>cases u<;>first | rfl | (rename_i t;cases t<;>rfl)
     | _=>rfl
 case alloc e=>cases Mw P e<;>rfl
 case box e x =>
   cases Bg G fr x with
   | none=>rfl
   | some v=>cases v<;>rfl
 case store t a x=>cases Bg G fr a<;>cases Bg G fr x<;>rfl
 case nilCheck x =>
   cases Bg G fr x with
   | none=>rfl
   | some v=>simp only[mY];cases notNil v<;>rfl
 case binOp op t x y z=>cases Bg G fr x<;>cases Bg G fr y<;>first | rfl | (simp only[two,NN])
 case unOp op t x=>cases (Bg G fr x).bind Y1 with
   | none=>rfl
   | some v=>exact SI _ _
 case makeInterface t x =>
   cases Bg G fr x with
   | none=>cases P.underlying t<;>rfl
   | some v =>
     cases P.underlying t with
     | none=>rfl
     | some d=>simp only[oF];cases isIface d<;>rfl
 case makeFunc f a b=>cases Zu G fr a.toList<;>cases Zu G fr b.toList<;>rfl
 case makeMap t r=>cases r<;>rfl
 case makeSlice t l c=>cases Bg G fr l<;>cases Bg G fr c<;>rfl
 case slice t x lo hi mx =>
   cases Bg G fr x<;>cases fO G fr lo<;>cases fO G fr hi<;>cases fO G fr mx<;>first | rfl | exact SI _ _
 case indexAddr t x i=>cases Bg G fr x<;>cases Bg G fr i<;>rfl
 case index t x i=>cases Bg G fr x<;>cases Bg G fr i<;>first | rfl | (simp only[two,mO])
 case lookup t x k ok=>cases Bg G fr x<;>cases Bg G fr k<;>rfl
 case mapUpdate t m k x=>cases Bg G fr m<;>cases Bg G fr k<;>cases Bg G fr x<;>rfl
 case insert t m k x=>cases Bg G fr m<;>cases Bg G fr k<;>cases Bg G fr x<;>rfl
 case mapEntry t m k=>cases Bg G fr m<;>cases Bg G fr k<;>rfl
 case entryStore t m k x=>cases Bg G fr m<;>cases Bg G fr k<;>cases Bg G fr x<;>rfl
 case panic x =>
   cases Bg G fr x with
   | none=>rfl
   | some v=>cases v<;>rfl
end AI
namespace AI
open Go Go.RowKit
abbrev Rec:=Tk->Option Rs
def aEA(r:Rec)(y:Code):Option Rs->Option Rs
 | some (.code e fr s)=>(match e with
   | .normal=>r (.code y fr s)
   | e=>some (.code e fr s))
 | _=>none
def arZ(r:Rec)(x y:Code)(fr:List AV)(s:AS):Option AV->Option Rs
 | some (.sc (.bool t))=>(match t with
   | true=>r (.code x fr s)
   | false=>r (.code y fr s))
 | _=>none
def aaG(id:Nat):Option Rs->Option Rs
 | some (.code e fr s)=>some (.code (E5 id e) fr s)
 | _=>none
def aaU:Option Rs->Option Rs
 | some (.code e fr s)=>some (.code e fr s)
 | _=>none
def aAV(P:Program)(G:Bc)(ops:Array Oper)(q:Nat)(rs:List Bo):Option Rs->Option Rs
 | some (.tr t fr s)=>(match azJ P G ops t s q rs with
   | true=>some (.code .normal fr s)
   | false=>none)
 | _=>none
def aCA(P:Program)(G:Bc)(r:Rec)(ops:Array Oper)(fr:List AV)(s:AS):Option (List Bo)->Option Rs
 | some rs=>aAV P G ops s.nx rs (r (.draw ops ops.toList fr (s.hold rs) s.nx))
 | none=>none
def aAU(P:Program)(G:Bc)(r:Rec)(ops:Array Oper)(fr:List AV)(s:AS):Bool->Option Rs
 | true=>aCA P G r ops fr s (rsv P ops.toList)
 | false=>none
def tC(P:Program)(G:Bc)(r:Rec)(ops:Array Oper)(fr:List AV)(s:AS):Bool->Option Rs
 | false=>aaU (r (.ops ops ops.toList fr s))
 | true=>aAU P G r ops fr s (ME ops)
def agY(P:Program)(G:Bc)(r:Rec)(fr:List AV)(s:AS):Code->Option Rs
 | .skip=>some (.code .normal fr s)
 | .exit id=>some (.code (.exit id) fr s)
 | .ret=>some (.code .ret fr s)
 | .seq x y=>aEA r y (r (.code x fr s))
 | .cond q x y=>arZ r x y fr s (AZ G fr q)
 | .block id c=>aaG id (r (.code c fr s))
 | .loop c=>aaU (r (.loop c fr s))
 | .region _ ops d=>tC P G r ops fr s d
 | _=>none
def asV(r:Rec)(c:Code):Option Rs->Option Rs
 | some (.code e fr s)=>(match e with
   | .normal=>r (.loop c fr s)
   | e=>some (.code e fr s))
 | _=>none
def aLW(r:Rec)(ops:Array Oper)(dst:Option Tmp)(l:List Oper)(fr:List AV):Option Rs->Option Rs
 | some (.call c s)=>(match c with
   | .ret v=>r (.ops ops l (Jw fr dst v) s)
   | .pan v=>some (.code (.pan v) fr s))
 | _=>none
def apD(r:Rec)(ops:Array Oper)(fr:List AV)(s:AS):List Oper->Option Rs
 | []=>some (.code .normal fr s)
 | o::l=>aLW r ops o.dst l fr (r (.op ops o fr s))
def trK(fr:List AV)(s:AS)(v:AV):Option Rs->Option Rs
 | some (.tr t V5 s2)=>some (.tr ((fr,s,v)::t) V5 s2)
 | _=>none
def azS(r:Rec)(ops:Array Oper)(dst:Option Tmp)(l:List Oper)(fr:List AV)(s:AS)(q:Nat):Option Rs->Option Rs
 | some (.call (.ret v) s1)=>trK fr s v (r (.draw ops l (Jw fr dst v) s1 q))
 | _=>none
def auL(r:Rec)(ops:Array Oper)(o:Oper)(l:List Oper)(fr:List AV)(s:AS)(q:Nat)(v:AV):Option Rs:=trK fr s v (r (.draw ops l (Jw fr o.dst v) s (q+1)))
def azR(r:Rec)(ops:Array Oper)(o:Oper)(l:List Oper)(fr:List AV)(s:AS)(q:Nat):Bool->Option Rs
 | true=>auL r ops o l fr s q (Pa ops fr o q)
 | false=>azS r ops o.dst l fr s q (r (.op ops o fr s))
def kR(r:Rec)(ops:Array Oper)(fr:List AV)(s:AS)(q:Nat):List Oper->Option Rs
 | []=>some (.tr [] fr s)
 | o::l=>azR r ops o l fr s q (B1 o.op)
def aAQ:Option Rs->Option Rs
 | some (.call c s)=>some (.call c s)
 | _=>none
def opK(r:Rec)(s:AS):Option AR->Option Rs
 | some (.val v s1)=>some (.call (.ret v) s1)
 | some (.pan v)=>some (.call (.pan v) s)
 | some (.ent f args)=>aAQ (r (.call f args s))
 | none=>none
def acE(ops:Array Oper)(fr:List AV):Option (Nat×Bool)->Bool
 | none=>true
 | some p=>(match (ops[p.1]?).bind (·.dst) with
   | some d=>(match nth fr d with
     | .sc (.bool b)=>b == p.2
     | _=>false)
   | none=>false)
def azK(P:Program)(G:Bc)(r:Rec)(fr:List AV)(s:AS)(o:Oper):Bool->Option Rs
 | true=>opK r s (Uj P G fr s o)
 | false=>some (.call (.ret (.sc undef)) s)
def aCC(k:CR->Option CR):Option Rs->Option Rs
 | some (.call c s)=>(match k c with
   | some c1=>some (.call c1 s)
   | none=>none)
 | _=>none
def aDP(s:AS)(n:Nat):Option AV->Option Rs
 | some v=>some (.call (.ret v) (fin v s n))
 | none=>none
def aAO(P:Program)(fn:Func)(n:Nat):Option Rs->Option Rs
 | some (.code e fr s)=>(match e with
   | .normal=>aDP s n (JF P s fn fr)
   | .ret=>aDP s n (JF P s fn fr)
   | .pan v=>some (.call (.pan v) (s.cut n))
   | .exit _=>none)
 | _=>none
def aAN(P:Program)(r:Rec)(fn:Func)(args:List AV)(s:AS):Option Code->Option Rs
 | some c=>aAO P fn s.nx (r (.code c (args++List.replicate (fn.ntmps - args.length) (.sc undef)) s))
 | none=>none
def rC(P:Program)(r:Rec)(args:List AV)(s:AS):Option Func->Option Rs
 | some fn=>aAN P r fn args s fn.body
 | none=>none
def aCB(P:Program)(r:Rec)(f:FuncId)(args:List AV)(s:AS):Option (FuncId×List AV×(CR->Option CR))->Option Rs
 | some (g,X4,k)=>aCC k (r (.call g X4 s))
 | none=>rC P r args s P.funcs[f]?
def aAY(P:Program)(H:Tj)(r:Rec)(f:FuncId)(args:List AV)(s:AS):Option (CR×AS)->Option Rs
 | some (c,s1)=>some (.call c s1)
 | none=>aCB P r f args s (H f args)
def step(P:Program)(G:Bc)(X:arL)(H:Tj)(r:Rec):Tk->Option Rs
 | .code c fr s=>agY P G r fr s c
 | .loop c fr s=>asV r c (r (.code c fr s))
 | .ops ops l fr s=>apD r ops fr s l
 | .draw ops l fr s q=>kR r ops fr s q l
 | .op ops o fr s=>azK P G r fr s o (acE ops fr o.guard)
 | .call f args s=>aAY P H r f args s (X f args s)
end AI
namespace AI
open Go Go.RowKit
def aLT(l:List AV):Nat->AV:=List.rec (motive:=λ_=>Nat->AV) (λ_=>.sc undef) (λa _ ih n=>Nat.rec (motive:=λ_=>AV) a (λk _=>ih k) n) l
def aMB(v:AV)(l:List AV):Nat->List AV:=List.rec (motive:=λ_=>Nat->List AV) (λ_=>[]) (λa t ih n=>Nat.rec (motive:=λ_=>List AV) (v::t) (λk _=>a::ih k) n) l
def aAH(fr:List AV)(dst:Option Tmp)(v:AV):List AV:=Option.rec (motive:=λ_=>List AV) fr (λd=>aMB v fr d) dst
abbrev Sm:=Program->Bc->List AV->AS->Oper->Option AR
def avF(t:Tmp)(_:Bc)(fr:List AV):Option AV:=some (aLT fr t)
def alB(v:Value)(_:Bc)(_:List AV):Option AV:=Wg v
def avE(g:Nat)(G:Bc)(_:List AV):Option AV:=evG (G g)
def aIV(f:FuncId)(_:Bc)(_:List AV):Option AV:=some (.fn (.func f) [] [])
def evR(x:Operand):Bc->List AV->Option AV:=Operand.rec (motive:=λ_=>Bc->List AV->Option AV) avF alB avE aIV x
def dX{α β:Type}(o:Option α)(f:α->Option β):Option β:=Option.rec (motive:=λ_=>Option β) none f o
def aDC(s:AS)(v:AV):Option AR:=some (.val v s)
def yI(s:AS)(o:Option AV):Option AR:=dX o (aDC s)
def tM(x:Operand):Sm:=λ_ G fr s _=>yI s (evR x G fr)
def aoV(c a b:Operand):Sm:=λ_ G fr s _=>MU s (atA (AZ G fr a) (AZ G fr b) (AZ G fr c))
def agH(e:TypeId):Sm:=λP _ _ s _=>aeV s (Mw P e)
def azA(_:TypeId)(x:Operand):Sm:=λ_ G fr s _=>sP s (AZ G fr x)
def agI(t:TypeId)(ps:Array (Nat×Operand)):Sm:=λP G fr s _=>MU s (fN (Mf G fr ps.toList) (Xv P t))
def ZH(t:TypeId)(n:Nat)(ps:Array (Nat×Operand)):Sm:=λP G fr s _=>MU s (fN (Mf G fr ps.toList) (Mu P t n))
def aoT(t:TypeId)(a:Operand):Sm:=λP G fr s _=>yI s (dX (evR a G fr) (KY P s t))
def agQ(t:TypeId)(a x:Operand):Sm:=λP G fr s _=>lG (two (AZ G fr a) (AZ G fr x) (L2 P s t))
def azC(x:Operand):Sm:=λ_ G fr s _=>mY s (AZ G fr x)
def ayZ(op:BinOp)(t:TypeId)(x y:Operand)(_:TypeId):Sm:=λP G fr s _=>yI s (dX (evR x G fr) (λa=>dX (evR y G fr) (λb=>Xu P op t x y a b)))
def aDY(op:UnOp)(_:TypeId)(x:Operand):Sm:=λP G fr s _=>atD P s (Op.unary op) (fN (AZ G fr x) Y1)
def aoR(src dst:TypeId)(x:Operand):Sm:=λP G fr s _=>MU s (fN (AZ G fr x) (VX P src dst))
def agL(t:TypeId)(x:Operand):Sm:=λP G fr s _=>oF t s (AZ G fr x) (P.underlying t)
def aoS(f:Fn)(first caps:Array Operand):Sm:=λ_ G fr s _=>func1 f s (Zu G fr caps.toList) (Zu G fr first.toList)
def azB(_:TypeId)(r:Option Operand):Sm:=λ_ _ _ s _=>iZ s r
def aoU(t:TypeId)(l c:Operand):Sm:=λP G fr s _=>yH (two (AZ G fr l) (AZ G fr c) (JE P s t))
def agP(t:TypeId)(x:Operand)(lo hi mx:Option Operand):Sm:=λP G fr s _=>agU P s t (fO G fr lo) (fO G fr hi) (fO G fr mx) (AZ G fr x)
def xI(t:TypeId)(x:Operand)(k:Nat):Sm:=λP G fr s _=>yI s (dX (evR x G fr) λa=>RH P t a k)
def agK(t:TypeId)(x:Operand)(k:Nat):Sm:=λP G fr s _=>MU s (fN (AZ G fr x) λa=>Xy P t a k)
def xJ(t:TypeId)(x i:Operand):Sm:=λP G fr s _=>yI s (dX (evR x G fr) (λa=>dX (evR i G fr) (λb=>Dz P t a b)))
def agM(t:TypeId)(x i:Operand):Sm:=λP G fr s _=>yI s (dX (evR x G fr) (λa=>dX (evR i G fr) (λb=>WQ P t a b)))
def xK(t:TypeId)(x k:Operand)(ok:Bool):Sm:=λP G fr s _=>MU s (two (AZ G fr x) (AZ G fr k) λa b=>Ji P s t a b ok)
def agO(t:TypeId)(m k x:Operand):Sm:=λP G fr s _=>lG (three (AZ G fr m) (AZ G fr k) (AZ G fr x) (KF P s t))
def agJ(t:TypeId)(m k:Operand):Sm:=λP G fr s _=>yH (two (AZ G fr m) (AZ G fr k) (PI P s t))
def xH(_:TypeId)(m st x:Operand):Sm:=λ_ G fr s _=>lG (three (AZ G fr m) (AZ G fr st) (AZ G fr x) (Mv s))
def pQ(x:Operand)(k:Nat):Sm:=λ_ G fr s _=>MU s (fN (AZ G fr x) λa=>RG a k)
def aoQ(cl:Call):Sm:=λP G fr s o=>bR P G fr s o cl
def agN(x:Operand):Sm:=λ_ G fr _ _=>aDL (AZ G fr x)
def aDX:Sm:=λ_ _ _ _ _=>none
def aDJ(op:Op):Sm:=match op with
 | .move x=>tM x
 | .assign x=>tM x
 | .pick c a b=>aoV c a b
 | .alloc e=>agH e
 | .box e x=>azA e x
 | .build t ps=>agI t ps
 | .buildSlice t n ps=>ZH t n ps
 | .load t a=>aoT t a
 | .store t a x=>agQ t a x
 | .nilCheck x=>azC x
 | .binOp op t x y z=>ayZ op t x y z
 | .unOp op t x=>aDY op t x
 | .convert a b x=>aoR a b x
 | .makeInterface t x=>agL t x
 | .makeFunc f a b=>aoS f a b
 | .makeMap t r=>azB t r
 | .makeSlice t l c=>aoU t l c
 | .slice t x lo hi mx=>agP t x lo hi mx
 | .fieldAddr t x k=>xI t x k
 | .field t x k=>agK t x k
 | .indexAddr t x i=>xJ t x i
 | .index t x i=>agM t x i
 | .lookup t x k ok=>xK t x k ok
 | .mapUpdate t m k x=>agO t m k x
 | .insert t m k x=>agO t m k x
 | .mapEntry t m k=>agJ t m k
 | .entryStore t m st x=>xH t m st x
 | .extract x k=>pQ x k
 | .call cl=>aoQ cl
 | .panic x=>agN x
 | _=>aDX
def acF(ops:Array Oper)(fr:List AV)(g:Option (Nat×Bool)):Bool:=Option.rec (motive:=λ_=>Bool) true (λp=>acE ops fr (some p)) g
def aDK(r:Rec)(ops:Array Oper)(dst:Option Tmp)(l:List Oper)(fr:List AV):Option Rs->Option Rs
 | some (.call c s)=>(match c with
   | .ret v=>r (.ops ops l (aAH fr dst v) s)
   | .pan v=>some (.code (.pan v) fr s))
 | _=>none
def tQ(P:Program)(G:Bc)(r:Rec)(fr:List AV)(s:AS)(o:Oper)(b:Bool):Option Rs:=Bool.rec (motive:=λ_=>Option Rs) (some (.call (.ret (.sc undef)) s)) (opK r s (aDJ o.op P G fr s o)) b
def agZ(P:Program)(G:Bc)(r:Rec)(ops:Array Oper)(fr:List AV)(s:AS)(l:List Oper):Option Rs:=List.rec (motive:=λ_=>Option Rs) (some (.code .normal fr s)) (λo l _=>aDK r ops o.dst l fr (tQ P G r fr s o (acF ops fr o.guard))) l
abbrev Ss:=Program->Bc->Rec->List AV->AS->Option Rs
def azI:Ss:=λ_ _ _ fr s=>some (.code .normal fr s)
def azG(id:Nat):Ss:=λ_ _ _ fr s=>some (.code (.exit id) fr s)
def aEB:Ss:=λ_ _ _ fr s=>some (.code .ret fr s)
def aEC(x y:Code):Ss:=λ_ _ r fr s=>aEA r y (r (.code x fr s))
def azF(q:Operand)(x y:Code):Ss:=λ_ G r fr s=>arZ r x y fr s (AZ G fr q)
def apA(id:Nat)(c:Code):Ss:=λ_ _ r fr s=>aaG id (r (.code c fr s))
def azH(c:Code):Ss:=λ_ _ r fr s=>aaU (r (.loop c fr s))
def agX(_:Nat)(ops:Array Oper)(d:Bool):Ss:=λP G r fr s=>tC P G r ops fr s d
def aMC:Ss:=λ_ _ _ _ _=>none
def akV(c:Code):Ss:=match c with
 | .skip=>azI
 | .exit id=>azG id
 | .ret=>aEB
 | .seq x y=>aEC x y
 | .cond q x y=>azF q x y
 | .block id c=>apA id c
 | .loop c=>azH c
 | .region id ops d=>agX id ops d
 | _=>aMC
def Ou(P:Program)(G:Bc)(X:arL)(H:Tj)(r:Rec):Tk->Option Rs
 | .code c fr s=>akV c P G r fr s
 | .loop c fr s=>asV r c (r (.code c fr s))
 | .ops ops l fr s=>agZ P G r ops fr s l
 | .draw ops l fr s q=>kR r ops fr s q l
 | .op ops o fr s=>tQ P G r fr s o (acF ops fr o.guard)
 | .call f args s=>aAY P H r f args s (X f args s)
end AI
namespace AI
open Go Go.RowKit
mutual
def plain:AV->Bool
 | .sc _=>true
 | .agg cs=>BS cs
 | .CZ cs=>BS cs
 | .sl o _ cs=>(match o with | .row _ _=>false | _=>true)&&BS cs
 | .ifc _ v=>plain v
 | .el cs=>BS cs
 | .fn _ a b=>BS a&&BS b
 | .any=>true
 | _=>false
def BS:List AV->Bool
 | []=>true
 | a::l=>plain a&&BS l
end
mutual
def TD:AV->AV
 | .agg cs=>.agg (Yv cs)
 | .CZ cs=>.CZ (Yv cs)
 | .sl o n cs=>.sl (match o with | .row _ _=>.lost | o=>o) n (Yv cs)
 | .ifc t v=>.ifc t (TD v)
 | .el cs=>.el (Yv cs)
 | a=>a
def Yv:List AV->List AV
 | []=>[]
 | a::l=>TD a::Yv l
end
mutual
def cE:AV->Bool
 | .sc _=>true
 | .agg cs=>Lr cs
 | .CZ cs=>Lr cs
 | .sl _ _ cs=>Lr cs
 | .ifc _ v=>cE v
 | .el cs=>Lr cs
 | .any=>true
 | _=>false
def Lr:List AV->Bool
 | []=>true
 | a::l=>cE a&&Lr l
end
section
variable {c c':Cx} {w w':World}
mutual
def Rp.plain(hv:∀g i v,PE c w g i v->PE c' w' g i v):∀{a:AV} {v:Value},AI.plain a=true->Rp c w a v->Rp c' w' a v:=by
 intro a v hp h;cases h with
 | sc h1=>exact .sc h1
 | agg h1=>exact .agg (CT.plain hv hp h1)
 | CZ h1=>exact .CZ (CT.plain hv hp h1)
 | @sl0 own A cap h1 =>
   simp only[AI.plain,Bool.and_eq_true] at hp;cases own with
   | full=>exact .sl0 h1
   | nil=>exact .sl0 h1
   | nn=>exact .sl0 h1
   | lost=>exact .sl0 h1
   | row r sz=>cases hp.1
 | @M4 own n cap g o cs hn h1 ho =>
   simp only[AI.plain,Bool.and_eq_true] at hp;refine .M4 hn (Bk.plain hv hp.2 h1) ?_;cases own with
   | full=>exact ho
   | nil=>exact ho
   | nn=>exact ho
   | lost=>trivial
   | row r sz=>cases hp.1
 | msl hn h1=>cases hp
 | el h1=>exact .el (Bk.plain hv hp h1)
 | ptr h1=>cases hp
 | fn h1 h2 =>
   simp only[AI.plain,Bool.and_eq_true] at hp;exact .fn (CT.plain hv hp.1 h1) (CT.plain hv hp.2 h2)
 | ifc h1=>exact .ifc (Rp.plain hv hp h1)
 | mp h1=>cases hp
 | any h1=>exact .any h1
 | raw=>first | (cases hp;done) | exact .raw
def CT.plain(hv:∀g i v,PE c w g i v->PE c' w' g i v):∀{a:List AV} {v:List Value},AI.BS a=true->CT c w a v->CT c' w' a v:=by
 intro a v hp h;cases h with
 | nil=>exact .nil
 | cons h1 t =>
   simp only[AI.BS,Bool.and_eq_true] at hp;exact .cons (Rp.plain hv hp.1 h1) (CT.plain hv hp.2 t)
def Bk.plain(hv:∀g i v,PE c w g i v->PE c' w' g i v):∀{a:List AV} {g o:Nat},AI.BS a=true->Bk c w g o a->Bk c' w' g o a:=by
 intro a g o hp h;cases h with
 | nil=>exact .nil
 | cons hvv h1 t =>
   simp only[AI.BS,Bool.and_eq_true] at hp;exact .cons (hv _ _ _ hvv) (Rp.plain hv hp.1 h1) (Bk.plain hv hp.2 t)
end
mutual
def Rp.TD(hv:∀g i v,PE c w g i v->PE c' w' g i v):∀{a:AV} {v:Value},cE a=true->Rp c w a v->Rp c' w' (AI.TD a) v:=by
 intro a v hp h;cases h with
 | sc h1=>exact .sc h1
 | agg h1=>exact .agg (CT.TD hv hp h1)
 | CZ h1=>exact .CZ (CT.TD hv hp h1)
 | @sl0 own A cap h1 =>
   cases own with
   | full=>exact .sl0 h1
   | nil=>exact .sl0 h1
   | nn=>exact .sl0 h1
   | lost=>exact .sl0 h1
   | row r sz=>exact .sl0 trivial
 | @M4 own n cap g o cs hn h1 ho =>
   have h2:=Bk.TD hv hp h1;refine .M4 hn h2 ?_;cases own with
   | full=>exact ho
   | nil=>exact ho
   | nn=>exact ho
   | lost=>trivial
   | row r sz=>trivial
 | msl hn h1=>cases hp
 | el h1=>exact .el (Bk.TD hv hp h1)
 | ptr h1=>cases hp
 | fn h1 h2=>cases hp
 | ifc h1=>exact .ifc (Rp.TD hv hp h1)
 | mp h1=>cases hp
 | any h1=>exact .any h1
 | raw=>first | (cases hp;done) | exact .raw
def CT.TD(hv:∀g i v,PE c w g i v->PE c' w' g i v):∀{a:List AV} {v:List Value},Lr a=true->CT c w a v->CT c' w' (AI.Yv a) v:=by
 intro a v hp h;cases h with
 | nil=>exact .nil
 | cons h1 t =>
   simp only[AI.Lr,Bool.and_eq_true] at hp;exact .cons (Rp.TD hv hp.1 h1) (CT.TD hv hp.2 t)
def Bk.TD(hv:∀g i v,PE c w g i v->PE c' w' g i v):∀{a:List AV} {g o:Nat},Lr a=true->Bk c w g o a->Bk c' w' g o (AI.Yv a):=by
 intro a g o hp h;cases h with
 | nil=>exact .nil
 | cons hvv h1 t =>
   simp only[AI.Lr,Bool.and_eq_true] at hp;exact .cons (hv _ _ _ hvv) (Rp.TD hv hp.1 h1) (Bk.TD hv hp.2 t)
end
end
def s0:AS:=⟨[],0,[],0⟩
end AI
namespace AI
open Go Go.RowKit
mutual
def under(n m:Nat):AV->Bool
 | .sc _=>true
 | .agg cs=>FC n m cs
 | .CZ cs=>FC n m cs
 | .sl o _ cs=>(match o with | .row r _=>decide (r < m) | _=>true)&&FC n m cs
 | .msl id _ _=>decide (id < n)
 | .el cs=>FC n m cs
 | .ptr id _=>decide (id < n)
 | .fn _ a b=>FC n m a&&FC n m b
 | .ifc _ v=>under n m v
 | .mp id=>decide (id < n)
 | .any=>true
 | .raw _ _ _=>true
def FC(n m:Nat):List AV->Bool
 | []=>true
 | a::l=>under n m a&&FC n m l
end
mutual
def Hu(n m:Nat):∀{a:AV},plain a=true->under n m a=true
 | .sc _,_=>rfl
 | .agg cs,h=>by simp only[plain] at h;simp only[under];exact BN n m h
 | .CZ cs,h=>by simp only[plain] at h;simp only[under];exact BN n m h
 | .sl o k cs,h=>by
   simp only[plain,Bool.and_eq_true] at h;simp only[under,Bool.and_eq_true];refine⟨?_,BN n m h.2⟩;cases o with
   | row r sz=>cases h.1
   | _=>rfl
 | .msl _ _ _,h=>by cases h
 | .el cs,h=>by simp only[plain] at h;simp only[under];exact BN n m h
 | .ptr _ _,h=>by cases h
 | .fn _ a b,h=>by
   simp only[plain,Bool.and_eq_true] at h;simp only[under,Bool.and_eq_true];exact⟨BN n m h.1,BN n m h.2⟩
 | .ifc _ v,h=>by simp only[plain] at h;simp only[under];exact Hu n m h
 | .mp _,h=>by cases h
 | .any,_=>rfl
 | .raw _ _ _,_=>rfl
def BN(n m:Nat):∀{l:List AV},BS l=true->FC n m l=true
 | [],_=>rfl
 | a::l,h=>by
   simp only[BS,Bool.and_eq_true] at h;simp only[FC,Bool.and_eq_true];exact⟨Hu n m h.1,BN n m h.2⟩
end
def Cx.upto(c:Cx)(n m:Nat):Cx:=⟨c.base,c.Dy.take n,c.rows.take m,c.bad⟩
def JX{α:Type}{l:List α}{n i:Nat}{x:α}(h:(l.take n)[i]?=some x):l[i]?=some x/\i < n:=by
 rw[List.getElem?_take] at h;split at h;rename_i hi;exact⟨h,hi⟩;cases h
def UX{α:Type}{l:List α}{n i:Nat}{x:α}(h:l[i]?=some x)(hi:i < n):(l.take n)[i]?=some x:=by
 rw[List.getElem?_take,if_pos hi];exact h
section
variable {c:Cx} {w:World} {n m:Nat}
def agR{g i:Nat}(h:(c.upto n m).xN g i):c.xN g i:=by
 rcases h with h | ⟨r,n,cap,sz,hr,h⟩ | h
 exact .inl (List.mem_of_mem_take h);exact .inr (.inl ⟨r,n,cap,sz,(JX hr).1,h⟩);exact .inr (.inr h)
def Zd{g i:Nat}{v:Value}(h:PE c w g i v):PE (c.upto n m) w g i v:=⟨h.1,λhs=>h.2.1 (agR hs),h.2.2⟩
mutual
def Rp.upto:∀{a:AV} {v:Value},under n m a=true->Rp c w a v->Rp (c.upto n m) w a v:=by
 intro a v hp h;cases h with
 | sc h1=>exact .sc h1
 | agg h1=>exact .agg (CT.upto hp h1)
 | CZ h1=>exact .CZ (CT.upto hp h1)
 | @sl0 own A cap h1 =>
   simp only[AI.under,Bool.and_eq_true] at hp;cases own with
   | full=>exact .sl0 h1
   | nil=>exact .sl0 h1
   | nn=>exact .sl0 h1
   | lost=>exact .sl0 trivial
   | row r sz =>
     have hr:r < m:=of_decide_eq_true hp.1;refine .sl0 ⟨h1.1,?_⟩;have:=h1.2;simp only[Cx.upto,List.length_take];omega
 | @M4 own k cap g o cs hn h1 ho =>
   simp only[AI.under,Bool.and_eq_true] at hp;refine .M4 hn (Bk.upto hp.2 h1) ?_;cases own with
   | full=>exact ho
   | nil=>exact ho
   | nn=>exact ho
   | lost=>trivial
   | row r sz =>
     have hr:r < m:=of_decide_eq_true hp.1;refine⟨ho.1,ho.2.1,?_,λe=>ho.2.2.2.1 (JX e).1,λg' n' c' s' e=>ho.2.2.2.2 g' n' c' s' (JX e).1⟩;have:=ho.2.2.1;simp only[Cx.upto,List.length_take];omega
 | msl hn h1=>exact .msl hn (UX h1 (of_decide_eq_true hp))
 | el h1=>exact .el (Bk.upto hp h1)
 | ptr h1=>exact .ptr (UX h1 (of_decide_eq_true hp))
 | fn h1 h2 =>
   simp only[AI.under,Bool.and_eq_true] at hp;exact .fn (CT.upto hp.1 h1) (CT.upto hp.2 h2)
 | ifc h1=>exact .ifc (Rp.upto hp h1)
 | mp h1=>exact .mp (UX h1 (of_decide_eq_true hp))
 | any h1=>exact .any h1
 | raw=>exact .raw
def CT.upto:∀{a:List AV} {v:List Value},FC n m a=true->CT c w a v->CT (c.upto n m) w a v:=by
 intro a v hp h;cases h with
 | nil=>exact .nil
 | cons h1 t =>
   simp only[AI.FC,Bool.and_eq_true] at hp;exact .cons (Rp.upto hp.1 h1) (CT.upto hp.2 t)
def Bk.upto:∀{a:List AV} {g o:Nat},FC n m a=true->Bk c w g o a->Bk (c.upto n m) w g o a:=by
 intro a g o hp h;cases h with
 | nil=>exact .nil
 | cons hvv h1 t =>
   simp only[AI.FC,Bool.and_eq_true] at hp;exact .cons (Zd hvv) (Rp.upto hp.1 h1) (Bk.upto hp.2 t)
end
end
def Us:AV->Bool
 | .sc v=>WR v
 | _=>true
def Tq{c:Cx}{w:World}{a:AV}{v:Value}(h:Rp c w a v)(hd:Us a=true):WR v=true:=by
 cases h<;>first | rfl | exact hd | assumption | (cases hd;done)
def qE:AV->AV
 | .sl _ n cs=>.sl .lost n cs
 | a=>a
inductive Fg(n m:Nat):List AV->List AV->Prop where
 | nil:Fg n m [] []
 | UF {a:AV} {l k:List AV} (h:under n m a=true) (t:Fg n m l k):Fg n m (a::l) (a::k)
 | drop {a:AV} {l k:List AV} (h:Us a=true) (t:Fg n m l k):Fg n m (a::l) (.any::k)
 | lost {o:Own} {j:Nat} {cs l k:List AV} (h:FC n m cs=true) (t:Fg n m l k):Fg n m (.sl o j cs::l) (.sl .lost j cs::k)
def Fg.ok{n m:Nat}{l k:List AV}(h:Fg n m l k){c:Cx}{w:World}{vs:List Value}(hr:CT c w l vs):CT (c.upto n m) w k vs:=by
 induction h generalizing vs with
 | nil=>cases hr;exact .nil
 | UF h _ ih=>cases hr with | cons h1 t=>exact .cons (h1.upto h) (ih t)
 | drop h _ ih=>cases hr with | cons h1 t=>exact .cons (.any (Tq h1 h)) (ih t)
 | @lost o j cs l k h _ ih =>
   cases hr with
   | cons h1 t =>
     refine .cons ?_ (ih t);cases h1 with
     | sl0 _=>exact .sl0 trivial
     | M4 hn hc ho=>exact .M4 hn (hc.upto h) trivial
def Xl(n m:Nat):List (Value×AV×Nat)->Bool
 | []=>true
 | e::l=>under n m e.2.1&&Xl n m l
def aiE(n m:Nat):Bo->Bool
 | .cells cs=>FC n m cs
 | .map es _=>Xl n m es
def KL.upto{c:Cx}{w:World}{n m:Nat}:∀{es:List (Value×AV×Nat)} {fs:List MapEntry},Xl n m es=true->KL c w es fs->KL (c.upto n m) w es fs:=by
 intro es
 induction es with
 | nil=>intro fs _ h;cases h;exact .nil
 | cons e es ih =>
   intro fs hu h;obtain⟨x,a,b⟩:=e;simp only[Xl,Bool.and_eq_true] at hu;cases h with | cons h1 t=>exact .cons (h1.upto hu.1) (ih hu.2 t)
def FD.upto{c:Cx}{w:World}{n m:Nat}{b:Bo}{o:Obj}(hb:aiE n m b=true)(h:FD c w b o):FD (c.upto n m) w b o:=by
 cases h with
 | I3 ext h1=>exact .I3 ext (h1.upto hb)
 | map h1=>exact .map (h1.upto hb)
def Fits(n m:Nat)(a b:AV):Prop:=∀(c:Cx) (w:World) (v:Value),Rp c w a v->Rp (c.upto n m) w b v
def KX(n m:Nat)(a b:List AV):Prop:=∀(c:Cx) (w:World) (v:List Value),CT c w a v->CT (c.upto n m) w b v
def S2(n m:Nat)(a b:List AV):Prop:=∀(c:Cx) (w:World) (g o:Nat),Bk c w g o a->Bk (c.upto n m) w g o b
def S1(n m:Nat)(a b:Bo):Prop:=∀(c:Cx) (w:World) (o:Obj),FD c w a o->FD (c.upto n m) w b o
def Fg.fits{n m:Nat}{l k:List AV}(h:Fg n m l k):KX n m l k:=λ_ _ _ hr=>h.ok hr
def Fits.under{n m:Nat}{a:AV}(h:AI.under n m a=true):Fits n m a a:=λ_ _ _ hr=>hr.upto h
def KX.under{n m:Nat}{a:List AV}(h:AI.FC n m a=true):KX n m a a:=λ_ _ _ hr=>hr.upto h
def S2.under{n m:Nat}{a:List AV}(h:AI.FC n m a=true):S2 n m a a:=λ_ _ _ _ hr=>hr.upto h
def S1.under{n m:Nat}{b:Bo}(h:aiE n m b=true):S1 n m b b:=λ_ _ _ hr=>hr.upto h
def Fits.plain{n m:Nat}{a:AV}(h:AI.plain a=true):Fits n m a a:=.under (Hu n m h)
def KX.plain{n m:Nat}{a:List AV}(h:BS a=true):KX n m a a:=.under (BN n m h)
def S2.plain{n m:Nat}{a:List AV}(h:BS a=true):S2 n m a a:=.under (BN n m h)
def Fits.sc{n m:Nat}{v:Value}:Fits n m (.sc v) (.sc v):=.under rfl
def Fits.drop{n m:Nat}{a:AV}(h:Us a=true):Fits n m a .any:=λ_ _ _ hr=>.any (Tq hr h)
def Fits.agg{n m:Nat}{a b:List AV}(h:KX n m a b):Fits n m (.agg a) (.agg b):=λ_ _ _ hr=>by cases hr with | agg h1=>exact .agg (h _ _ _ h1)
def Fits.CZ{n m:Nat}{a b:List AV}(h:KX n m a b):Fits n m (.CZ a) (.CZ b):=λ_ _ _ hr=>by cases hr with | CZ h1=>exact .CZ (h _ _ _ h1)
def Fits.lost{n m:Nat}{o:Own}{k:Nat}{a b:List AV}(h:S2 n m a b)(e:a=[]->b=[]):Fits n m (.sl o k a) (.sl .lost k b):=λ_ _ _ hr=>by
 cases hr with
 | sl0 _=>rw[e rfl];exact .sl0 trivial
 | M4 hn hc ho=>exact .M4 hn (h _ _ _ _ hc) trivial
def KX.nil{n m:Nat}:KX n m [] []:=λ_ _ _ hr=>by cases hr;exact .nil
def KX.cons{n m:Nat}{a b:AV}{l k:List AV}(h:Fits n m a b)(t:KX n m l k):KX n m (a::l) (b::k):=λ_ _ _ hr=>by cases hr with | cons h1 t1=>exact .cons (h _ _ _ h1) (t _ _ _ t1)
def S2.nil{n m:Nat}:S2 n m [] []:=λ_ _ _ _ hr=>by cases hr;exact .nil
def S2.cons{n m:Nat}{a b:AV}{l k:List AV}(h:Fits n m a b)(t:S2 n m l k):S2 n m (a::l) (b::k):=λ_ _ _ _ hr=>by cases hr with | cons hv h1 t1=>exact .cons (Zd hv) (h _ _ _ h1) (t _ _ _ _ t1)
def S1.cells{n m:Nat}{a b:List AV}(h:KX n m a b):S1 n m (.cells a) (.cells b):=λ_ _ _ hr=>by cases hr with | I3 ext h1=>exact .I3 ext (h _ _ _ h1)
def alJ{G:Bc}(hG:∀g cs,G g=some cs->BS cs=true){s s' s2:AS}{fr' fr2:List AV}(hn:s2.nx=s.nx)(hr:s2.nr=s.nr)
   (hd:Kt s2.h s2.nx) (aJJ:∀id b,look id s2.h=some b->∃b',look id s'.h=some b'/\S1 s.nx s.nr b' b) (hF:∀r n,Fl r s2.F=some n->Fl r s'.F=some n/\r < s.nr)
   (hf:KX s.nx s.nr fr' fr2) (cx:Cx) (w:World) (c':Cx) (w':World) (vs:List Value) (hx:Ext cx w c' w') (hs:St G cx w s) (hs':St G c' w' s') (hfr:CT c' w' fr' vs) :
   ∃c2,Ext cx w c2 w'/\St G c2 w' s2/\CT c2 w' fr2 vs:=by
 have Ty:c'.Dy.take s.nx=cx.Dy:=by
   obtain⟨t,ht⟩:=hx.Dy;rw[<- ht,hs.len,List.take_left]
 have hrl:(c'.rows.take s.nr).length=cx.rows.length:=by
   have:=hx.JU;rw[List.length_take,hs.JU];omega
 refine⟨c'.upto s.nx s.nr,⟨?_,?_,λr x Zo h=>?_,λg i v hv=>Zd (hx.fC g i v hv),hx.below,hx.base,hx.bad,λg hg=>hx.jP g (List.mem_of_mem_take hg),λr g n cap sz h=>hx.kB r g n cap sz (JX h).1,hx.UF⟩,?_,hf _ _ _ hfr⟩;show cx.Dy <+: c'.Dy.take s.nx;rw[Ty];exact List.prefix_refl _;show cx.rows.length<=(c'.rows.take s.nr).length;omega;exact hx.rows r x Zo (JX h).1;refine⟨?_,hd,λi j g h1 h2=>hs'.nodup i j g (JX h1).1 (JX h2).1,λg hg=>hs'.low g (List.mem_of_mem_take hg),λid g b h1 h2=>?_,?_,λr g n cap sz h=>?_,λr n h=>?_,λg hg=>hs'.OQ g (List.mem_of_mem_take hg),hs'.OH,λr r' g n cap sz n' cap' PF h h'=>hs'.JR r r' g n cap sz n' cap' PF (JX h).1 (JX h').1,λg cs hg=>(hs'.Ph g cs hg).upto (BN _ _ (hG g cs hg)),hs'.RS⟩;show s2.nx=(c'.Dy.take s.nx).length;rw[Ty,hn,hs.len];obtain⟨b',h3,h4⟩:=aJJ id b h2;obtain⟨o,ho,hb⟩:=hs'.box id g b' (JX h1).1 h3;exact⟨o,ho,h4 _ _ _ hb⟩;show s2.nr=(c'.rows.take s.nr).length;rw[hrl,hr,hs.JU];obtain⟨a1,a2,a3,a4⟩:=hs'.row r g n cap sz (JX h).1;exact⟨a1,a2,λhm=>a3 (List.mem_of_mem_take hm),a4⟩;obtain⟨h1,h2⟩:=hF r n h;rcases hs'.Kn r n h1 with ⟨h3,h4⟩ | ⟨g,cap,sz,h3⟩
 exact .inl ⟨UX h3 h2,h4⟩;exact .inr ⟨g,cap,sz,UX h3 h2⟩
end AI
namespace AI
open Go Go.RowKit
section
variable {P:Program} {G:Bc} {X:Wp} {H:Tj}
def W(P:Program)(G:Bc)(X:Wp)(H:Tj)(c:Code)(fr:List AV)(s:AS)(Q:AX->List AV->AS->Prop):Prop:=∃e fr' s',J P G X H (.code c fr s e fr' s')/\Q e fr' s'
def WL(P:Program)(G:Bc)(X:Wp)(H:Tj)(c:Code)(fr:List AV)(s:AS)(Q:AX->List AV->AS->Prop):Prop:=∃e fr' s',J P G X H (.loop c fr s e fr' s')/\Q e fr' s'
def WC(P:Program)(G:Bc)(X:Wp)(H:Tj)(f:FuncId)(args:List AV)(s:AS)(Q:CR->AS->Prop):Prop:=∃r s',J P G X H (.call f args s r s')/\Q r s'
def atO(P:Program)(G:Bc)(X:Wp)(H:Tj)(y:Code)(Q:AX->List AV->AS->Prop):AX->List AV->AS->Prop
 | .normal,fr,s=>W P G X H y fr s Q
 | e,fr,s=>Q e fr s
def EP(id:Nat)(Q:AX->List AV->AS->Prop):AX->List AV->AS->Prop:=λe fr s=>Q (E5 id e) fr s
def Un(P:Program)(fn:Func)(n:Nat)(Q:CR->AS->Prop):AX->List AV->AS->Prop
 | .normal,fr,s=>∃v,JF P s fn fr=some v/\Q (.ret v) (s.cut n)
 | .ret,fr,s=>∃v,JF P s fn fr=some v/\Q (.ret v) (s.cut n)
 | .pan v,_,s=>Q (.pan v) (s.cut n)
 | _,_,_=>False
def W.mono{c:Code}{fr:List AV}{s:AS}{Q R:AX->List AV->AS->Prop}(h:W P G X H c fr s Q)(k:∀e fr s,Q e fr s->R e fr s):W P G X H c fr s R:=by
 obtain⟨e,fr',s',h1,h2⟩:=h;exact⟨e,fr',s',h1,k _ _ _ h2⟩
def WC.mono{f:FuncId}{args:List AV}{s:AS}{Q R:CR->AS->Prop}(h:WC P G X H f args s Q)(k:∀r s,Q r s->R r s):WC P G X H f args s R:=by
 obtain⟨r,s',h1,h2⟩:=h;exact⟨r,s',h1,k _ _ h2⟩
def aAE{x y:Code}{fr:List AV}{s:AS}{Q:AX->List AV->AS->Prop}(h:W P G X H x fr s (atO P G X H y Q)):W P G X H (.seq x y) fr s Q:=by
 obtain⟨e,V5,s1,h1,h2⟩:=h;cases e with
 | normal =>
   obtain⟨e2,fr2,s2,h3,h4⟩:=h2;exact⟨e2,fr2,s2,.seq h1 h3,h4⟩
 | exit id=>exact⟨_,_,_,.pT h1 (by simp),h2⟩
 | ret=>exact⟨_,_,_,.pT h1 (by simp),h2⟩
 | pan v=>exact⟨_,_,_,.pT h1 (by simp),h2⟩
def akH{q:Operand}{x y:Code}{fr:List AV}{s:AS}{Q:AX->List AV->AS->Prop}(hq:Bg G fr q=some (.sc (.bool true)))(h:W P G X H x fr s Q):W P G X H (.cond q x y) fr s Q:=by
 obtain⟨e,V5,s1,h1,h2⟩:=h;exact⟨e,V5,s1,.cond hq h1,h2⟩
def akG{q:Operand}{x y:Code}{fr:List AV}{s:AS}{Q:AX->List AV->AS->Prop}(hq:Bg G fr q=some (.sc (.bool false)))(h:W P G X H y fr s Q):W P G X H (.cond q x y) fr s Q:=by
 obtain⟨e,V5,s1,h1,h2⟩:=h;exact⟨e,V5,s1,.cond hq h1,h2⟩
def qL{id:Nat}{c:Code}{fr:List AV}{s:AS}{Q:AX->List AV->AS->Prop}(h:W P G X H c fr s (EP id Q)):W P G X H (.block id c) fr s Q:=by
 obtain⟨e,V5,s1,h1,h2⟩:=h;exact⟨_,V5,s1,.block h1,h2⟩
def auI{c:Code}{fr:List AV}{s:AS}{Q:AX->List AV->AS->Prop}(h:WL P G X H c fr s Q):W P G X H (.loop c) fr s Q:=by
 obtain⟨e,V5,s1,h1,h2⟩:=h;exact⟨_,V5,s1,.loop h1,h2⟩
def drop_cons{α:Type}{o:α}{l m:List α}{k:Nat}(h:o::l=m.drop k):m[k]?=some o/\l=m.drop (k+1):=by
 constructor;have:=congrArg (λx=>x[0]?) h;simpa using this.symm
 have:=congrArg List.tail h;rw[List.tail_drop] at this;exact this
def Ay{f:FuncId}{fn:Func}{c:Code}{args:List AV}{s:AS}{Q:CR->AS->Prop}(hf:P.funcs[f]?=some fn)(hb:fn.body=some c)(h:W P G X H c (args++List.replicate (fn.ntmps - args.length) (.sc undef)) s (Un P fn s.nx Q)):WC P G X H f args s Q:=by
 obtain⟨e,V5,s1,h1,h2⟩:=h;cases e with
 | normal=>obtain⟨v,h3,h4⟩:=h2;exact⟨_,_,.body hf hb h1 (.inl rfl) h3 (.inl rfl),h4⟩
 | ret=>obtain⟨v,h3,h4⟩:=h2;exact⟨_,_,.body hf hb h1 (.inr rfl) h3 (.inl rfl),h4⟩
 | pan v=>exact⟨_,_,.arU hf hb h1,h2⟩
 | exit id=>exact h2.elim
end
end AI
namespace AI
open Go Go.RowKit
abbrev XS(P:Program)(G:Bc):Wp:=λf args s r s'=>Sound P G (.call f args s r s')
def H0:Tj:=λ_ _=>none
def Tv{P:Program}{G:Bc}(h:P.follows .mixedOrders=true):arN P G (XS P G) H0:=⟨h,λ_ _ _ _ _ h=>h,λ_ _ _ _ _ h=>by cases h⟩
def Pure(P:Program)(G:Bc)(f:FuncId)(args:List AV)(v:AV):Prop:=∀s,Sound P G (.call f args s (.ret v) s)
def rows{α:Type}(f:α->List AV)(l:List α):List AV:=l.flatMap f
def aK{α:Type}{f:α->List AV}{k:Nat}(hf:∀x,(f x).length=k){l:List α}{i:Nat}{x:α}(h:l[i]?=some x):(rows f l).drop (i*k)=f x++rows f (l.drop (i+1)):=by
 induction l generalizing i with
 | nil=>simp at h
 | cons y l ih =>
   cases i with
   | zero=>simp at h;subst h;simp[rows]
   | succ i =>
     have:=ih (i:=i) (by simpa using h)
     have e:rows f (y::l)=f y++rows f l:=by simp[rows]
     rw[e,List.drop_append,hf y,show(i+1)*k - k=i*k by rw[Nat.add_mul];omega,List.drop_eq_nil_of_le (by rw[hf y,Nat.add_mul];omega),List.nil_append,this];simp
def Sb{α:Type}{f:α->List AV}{k:Nat}(hf:∀x,(f x).length=k)(l:List α):(rows f l).length=l.length*k:=by
 induction l with
 | nil=>simp[rows]
 | cons y l ih =>
   have e:rows f (y::l)=f y++rows f l:=by simp[rows]
   rw[e,List.length_append,hf y,ih,List.length_cons,Nat.add_mul];omega
def Wi{α:Type}(f:α->List AV)(l m:List α):rows f (l++m)=rows f l++rows f m:=by simp[rows]
def I1{α:Type}(f:α->List AV)(x:α)(m:List α):rows f (x::m)=f x++rows f m:=by simp[rows]
def pM{α:Type}{f:α->List AV}{l:List α}(h:∀x∈l,BS (f x)=true):BS (rows f l)=true:=by
 have Ws:∀a b:List AV,BS a=true->BS b=true->BS (a++b)=true:=by
   intro a b ha hb
   induction a with
   | nil=>exact hb
   | cons x a ih =>
     simp only[BS,Bool.and_eq_true,List.cons_append] at ha ⊢;exact⟨ha.1,ih ha.2⟩
 induction l with
 | nil=>rfl
 | cons y l ih=>rw[I1];exact Ws _ _ (h y List.mem_cons_self) (ih λx hx=>h x (List.mem_cons_of_mem _ hx))
def oH{P:Program}{α:Type}{f:α->List AV}{k:Nat}{t elem:TypeId}{e:TypeInfo}(hu:P.underlying t=some (.slice elem))(he:P.info? elem=some e)(hk:e.size=k)(hf:∀x,(f x).length=k){own:Own}{l:List α}{i:Nat}{x:α}(h:l[i]?=some x) :
   Dz P t (.sl own l.length (rows f l)) (.sc (.int .i64 (i:Int)))=some (.el (f x++rows f (l.drop (i+1)))):=by
 have hi:=(List.getElem?_eq_some_iff.1 h).1
 have hn:SK (.sc (.int .i64 (i:Int)))=some i:=by
   unfold SK;simp
 unfold Dz;rw[hu,hn];simp only[he,hk,if_pos hi,aK hf h]
def aiS{i:Nat}(h:i<=9223372036854775807):IntKind.i64.wrap (i:Int)=(i:Int):=by
 refine IntWalk.i64_in _ ?_;omega
end AI
namespace AI
open Go Go.RowKit
section
variable {G:Bc}
inductive NZ where
 | t (tmp sz:Nat)
 | b (id i sz:Nat)
 | l (tmp:Nat)
 | lb (id i:Nat)
def anA:AV->Bool
 | .sl .full n cs=>(match n with | 0=>(match cs with | []=>true | _=>false) | _=>false)
 | _=>false
def nz1(fr:List AV)(s:AS):NZ->Option (List AV×AS)
 | .t k sz=>(match fr[k]? with
   | some a=>(match anA a with
     | true=>some (fr.set k (.sl (.row s.nr sz) 0 []),s.tok)
     | false=>none)
   | none=>none)
 | .b id i sz=>(match look id s.h with
   | some (.cells cs)=>(match cs[i]? with
     | some a=>(match anA a with
       | true=>some (fr,⟨tX id (.cells (cs.set i (.sl (.row s.nr sz) 0 []))) s.h,s.nx,(s.nr,0)::s.F,s.nr+1⟩)
       | false=>none)
     | none=>none)
   | _=>none)
 | .l k=>(match fr[k]? with
   | some a=>some (fr.set k (qE a),s)
   | none=>none)
 | .lb id i=>(match look id s.h with
   | some (.cells cs)=>(match cs[i]? with
     | some a=>some (fr,⟨tX id (.cells (cs.set i (qE a))) s.h,s.nx,s.F,s.nr⟩)
     | none=>none)
   | _=>none)
def nzs:List NZ->List AV->AS->Option (List AV×AS)
 | [],fr,s=>some (fr,s)
 | z::l,fr,s=>(match nz1 fr s z with
   | some (fr,s)=>nzs l fr s
   | none=>none)
def Wkn(G:Bc)(fr:List AV)(s:AS)(fr2:List AV)(s2:AS):Prop:=∀(cx:Cx) (w:World) (vs:List Value),St G cx w s->CT cx w fr vs->∃cx2,Ext cx w cx2 w/\St G cx2 w s2/\CT cx2 w fr2 vs
def Wkn.refl{fr:List AV}{s:AS}:Wkn G fr s fr s:=λcx w vs h1 h2=>⟨cx,Ext.refl _ _,h1,h2⟩
def Wkn.trans{fr fr2 fr3:List AV}{s s2 s3:AS}(h:Wkn G fr s fr2 s2)(k:Wkn G fr2 s2 fr3 s3):Wkn G fr s fr3 s3:=λcx w vs h1 h2=>by
 obtain⟨c2,x2,s2,r2⟩:=h cx w vs h1 h2;obtain⟨c3,x3,s3,r3⟩:=k c2 w vs s2 r2;exact⟨c3,x2.trans x3,s3,r3⟩
def sQ{a:AV}(h:anA a=true){c:Cx}{w:World}{v:Value}(hr:Rp c w a v){r sz:Nat}(hl:r < c.rows.length):Rp c w (.sl (.row r sz) 0 []) v:=by
 unfold anA at h;split at h
 · split at h
   · split at h
     · cases hr with
       | sl0 h0=>exact .sl0 ⟨h0,hl⟩
       | M4 hn hc ho =>
         have:_=0:=ho;subst this;exact .sl0 ⟨rfl,hl⟩
     cases h
   cases h
 cases h
def aY{a:AV}{c:Cx}{w:World}{v:Value}(hr:Rp c w a v):Rp c w (qE a) v:=by
 cases hr with
 | sl0 _=>exact .sl0 trivial
 | M4 hn hc ho=>exact .M4 hn hc trivial
 | sc h=>exact .sc h
 | agg h=>exact .agg h
 | CZ h=>exact .CZ h
 | msl h1 h2=>exact .msl h1 h2
 | el h=>exact .el h
 | ptr h=>exact .ptr h
 | fn h1 h2=>exact .fn h1 h2
 | ifc h=>exact .ifc h
 | mp h=>exact .mp h
 | any h=>exact .any h
 | raw=>exact .raw
def CT.aoX{c:Cx}{w:World}{as:List AV}{vs:List Value}(h:CT c w as vs){i:Nat}{a b:AV}(ha:as[i]?=some a)(hb:∀v,Rp c w a v->Rp c w b v):CT c w (as.set i b) vs:=by
 induction as generalizing vs i with
 | nil=>simp at ha
 | cons x as ih =>
   cases h with
   | cons h1 t =>
     cases i with
     | zero=>simp at ha;subst ha;exact .cons (hb _ h1) t
     | succ i=>exact .cons h1 (ih t (by simpa using ha))
def St.wZ{c:Cx}{w:World}{s:AS}(h:St G c w s){id:Nat}{b b2:Bo}(hb:look id s.h=some b)(hk:∀o,FD c w b o->FD c w b2 o):St G c w ⟨tX id b2 s.h,s.nx,s.F,s.nr⟩ :=
 ⟨h.len,Y8 h.desc,h.nodup,h.low,λRe g b' h1 h2=>by
   rcases Y9 h2 with ⟨rfl,rfl⟩ | ⟨_,h3⟩
   obtain⟨o,ho,hbo⟩:=h.box _ g b h1 hb;exact⟨o,ho,hk o hbo⟩;exact h.box Re g b' h1 h3,h.JU,h.row,h.Kn,h.OQ,h.OH,h.JR,h.Ph,h.RS⟩
def ayB{fr fr2:List AV}{s s2:AS}{z:NZ}(h:nz1 fr s z=some (fr2,s2)):Wkn G fr s fr2 s2:=by
 intro cx w vs hs hr;cases z with
 | t k sz =>
   simp only[nz1] at h;split at h;rename_i a ha;split at h;rename_i hn;cases h;obtain⟨x,st⟩:=hs.tok;refine⟨_,x,st,(hr.mono x).aoX ha (λv hv=>sQ hn hv ?_)⟩;simp[hs.JU];cases h;cases h
 | b id i sz =>
   simp only[nz1] at h;split at h;rename_i cs hb;split at h;rename_i a ha;split at h;rename_i hn;cases h;obtain⟨x,st⟩:=hs.tok;refine⟨_,x,st.wZ (b:=.cells cs) hb (λo ho=>?_),hr.mono x⟩;cases ho with
   | I3 ext h1=>exact .I3 ext (h1.aoX ha (λv hv=>sQ hn hv (by simp[hs.JU])))
   cases h;cases h;cases h
 | l k =>
   simp only[nz1] at h;split at h;rename_i a ha;cases h;exact⟨cx,Ext.refl _ _,hs,hr.aoX ha (λv hv=>aY hv)⟩;cases h
 | lb id i =>
   simp only[nz1] at h;split at h;rename_i cs hb;split at h;rename_i a ha;cases h;refine⟨cx,Ext.refl _ _,hs.wZ (b:=.cells cs) hb (λo ho=>?_),hr⟩;cases ho with
   | I3 ext h1=>exact .I3 ext (h1.aoX ha (λv hv=>aY hv))
   cases h;cases h
def oV:∀{l:List NZ} {fr fr2:List AV} {s s2:AS},nzs l fr s=some (fr2,s2)->Wkn G fr s fr2 s2:=by
 intro l
 induction l with
 | nil=>intro fr fr2 s s2 h;simp only[nzs] at h;cases h;exact .refl
 | cons z l ih =>
   intro fr fr2 s s2 h;simp only[nzs] at h;split at h;rename_i f1 s1 h1;exact(ayB h1).trans (ih h);cases h
end
end AI
namespace AI
open Go Go.RowKit
def eqV:Value->Value->Bool
 | .string a,.string b=>B2 a.data.toList b.data.toList
 | .int k a,.int k' b=>(match sameKind k k' with | true=>CS a b | false=>false)
 | a,b=>akM a b
def avC{a b:Value}(h:eqV a b=true):a=b:=by
 unfold eqV at h;split at h;rename_i x y;rw[Tt,beq_iff_eq] at h;have:x=y:=ByteArray.ext (Array.ext' h);rw[this];split at h;rename_i hk;rw[Qy,beq_iff_eq] at h;rw[Wl hk,h];cases h;exact qQ h
def asB:Own->Own->Bool
 | .full,.full=>true
 | .lost,.lost=>true
 | .nil,.nil=>true
 | .nn,.nn=>true
 | _,_=>false
def abL{a b:Own}(h:asB a b=true):a=b:=by cases a<;>cases b<;>first | rfl | cases h
mutual
def cM:AV->AV->Bool
 | .sc a,.sc b=>eqV a b
 | .agg a,.agg b=>eqL a b
 | .CZ a,.CZ b=>eqL a b
 | .sl o n a,.sl p m b=>(match asB o p with
   | true=>(match Nat.beq n m with | true=>eqL a b | false=>false)
   | false=>false)
 | .ifc t a,.ifc u b=>(match Nat.beq t u with | true=>cM a b | false=>false)
 | _,_=>false
def eqL:List AV->List AV->Bool
 | [],[]=>true
 | a::as,b::bs=>(match cM a b with | true=>eqL as bs | false=>false)
 | _,_=>false
end
mutual
def abI:∀{a b:AV},cM a b=true->a=b
 | .sc a,b,h=>by
   cases b<;>first
     | (simp only[cM] at h;rw[avC h])
     | (simp[cM] at h;done)
 | .agg a,b,h=>by
   cases b<;>first
     | (simp only[cM] at h;rw[cO h])
     | (simp[cM] at h;done)
 | .CZ a,b,h=>by
   cases b<;>first
     | (simp only[cM] at h;rw[cO h])
     | (simp[cM] at h;done)
 | .sl o n a,b,h=>by
   cases b<;>first
     | (simp only[cM] at h
        split at h;rename_i h1;split at h;rename_i h2;rw[abL h1,beq_true h2,cO h];cases h;cases h)
     | (simp[cM] at h;done)
 | .ifc t a,b,h=>by
   cases b<;>first
     | (simp only[cM] at h
        split at h;rename_i h1;rw[beq_true h1,abI h];cases h)
     | (simp[cM] at h;done)
 | .msl _ _ _,b,h=>by simp[cM] at h
 | .el _,b,h=>by simp[cM] at h
 | .ptr _ _,b,h=>by simp[cM] at h
 | .fn _ _ _,b,h=>by simp[cM] at h
 | .mp _,b,h=>by simp[cM] at h
 | .any,b,h=>by simp[cM] at h
def cO:∀{a b:List AV},eqL a b=true->a=b
 | [],b,h=>by cases b<;>first | rfl | (simp[eqL] at h;done)
 | a::as,b,h=>by
   cases b<;>first
     | (simp[eqL] at h;done)
     | (simp only[eqL] at h
        split at h;rename_i h1;rw[abI h1,cO h];cases h)
end
structure Ent where
 f:Nat
 args:List AV
 box:Option (List AV×List AV)
 v:AV
def zJ(P:Program)(G:Bc)(e:Ent):Prop:=match e.box with
 | none=>∀s,Sound P G (.call e.f e.args s (.ret e.v) s)
 | some (cs,cs')=>∀s id,s.get id=some (.cells cs)->Sound P G (.call e.f (.ptr id 0::e.args) s (.ret e.v) (s.put id (.cells cs')))
def aMW.cons{P:Program}{G:Bc}{e:Ent}{l:List Ent}(he:zJ P G e)(hl:∀e∈l,zJ P G e):∀e'∈e::l,zJ P G e':=λe' h=>by
 rcases List.mem_cons.1 h with h | h
 rw[h];exact he;exact hl e' h
end AI
namespace AI
open Go Go.RowKit
inductive Hn where
 | k
 | b (b:Bool)
 | i (z:Int)
 | w (v:AV)
 | a (v:AV) (s:AS)
 | ae (v:AV)
 | af (v:AV)
 | m (s:AS)
 | l (v:AV)
 | s (s:AS)
 | c (v:AV) (s:AS)
 | o (v:AV)
 | z (c:Nat)
 | p (v:AV) (s:AS)
 | g (sz k:Nat) (cs:List AV)
 | u (v:AV) (pre:List (Nat×Bo)) (tp:List (Nat×Nat)) (Q3:List (Nat×Bo)) (tu:List (Nat×Nat))
 | q (v:AV) (pre:List (Nat×Bo)) (tp:List (Nat×Nat)) (Q3:List (Nat×Bo)) (tu:List (Nat×Nat))
 | n (l:List NZ)
 | x (b:Bo) (v:AV)
 | y (b b2:Bo)
 | lb (m:Bo) (v:AV)
 | sb (m m2:Bo)
 | mb (n:Nat) (m:Bo)
 | za
 | zq (c:Nat)
 | cn (v:AV) (h:List (Nat×Bo)) (dn:Nat) (F:List (Nat×Nat)) (dr:Nat)
 | f (id:Nat) (b b2:Bo)
inductive Cd where
 | eqb (B b:Bool)
 | eqi (X z:Int)
 | idx (t:TypeId) (a b v:AV)
 | bin (op:BinOp) (t:TypeId) (x y:Operand) (a b v:AV)
 | call (f:FuncId) (args:List AV) (s:AS) (v:AV)
 | Ws (s:AS) (t tx:TypeId) (a b v:AV) (s1:AS)
 | ix (t:TypeId) (a b v:AV)
 | lk (s:AS) (t:TypeId) (a b:AV) (ok:Bool) (v:AV)
 | ms (s:AS) (t:TypeId) (a b v:AV) (s1:AS)
 | arY (f:FuncId) (args:List AV) (s:AS) (v:AV) (s1:AS)
 | ld (s:AS) (t:TypeId) (a v:AV)
 | st (s:AS) (t:TypeId) (a x:AV) (s1:AS)
 | mk (s:AS) (t:TypeId) (a b v:AV) (s1:AS)
 | sli (t:TypeId) (a:AV) (l h m:Option AV) (v:AV)
 | arX (f:FuncId) (args:List AV) (s:AS) (v:AV) (s1:AS)
 | pur (f:FuncId) (args:List AV) (v:AV)
 | Zv (t tx:TypeId) (own:Own) (n:Nat) (cs:List AV) (b:AV) (sz k:Nat) (qV:List AV)
 | eqn (k n:Nat)
 | E9 (f:FuncId) (args:List AV) (r:CR) (pre:List (Nat×Bo)) (tp:List (Nat×Nat)) (Q3:List (Nat×Bo)) (tu:List (Nat×Nat))
 | yQ (a b:List (Option Bo)) (c d:List (Option Nat))
 | lkB (b:Bo) (t:TypeId) (k:AV) (ok:Bool) (v:AV)
 | msB (b:Bo) (t:TypeId) (k v:AV) (b2:Bo)
 | ldB (b:Bo) (t:TypeId) (off:Nat) (v:AV)
 | stB (b:Bo) (t:TypeId) (off:Nat) (x:AV) (b2:Bo)
 | mkB (t:TypeId) (a x:AV) (n:Nat) (m:Bo)
 | apB (t tx:TypeId) (a b:AV) (n:Nat) (m:Bo)
 | arW (f:FuncId) (args:List AV) (nx nr:Nat) (v:AV) (h:List (Nat×Bo)) (dn:Nat) (F:List (Nat×Nat)) (dr:Nat)
 | rd (nr:Nat) (b b2:Bo)
 | cv (t t2:TypeId) (a v:AV)
 | apf (t tx:TypeId) (a b v:AV)
def AS.VN(s:AS):List (Nat×Bo)->AS
 | []=>s
 | e::l=>(s.put e.1 e.2).VN l
def AS.S8(s:AS):List (Nat×Nat)->AS
 | []=>s
 | e::l=>(AS.mk s.h s.nx (xL e.1 e.2 s.F) s.nr).S8 l
def X5(s:AS):List (Nat×Bo)->List (Option Bo)
 | []=>[]
 | e::l=>s.get e.1::X5 s l
def OC:List (Nat×Bo)->List (Option Bo)
 | []=>[]
 | e::l=>some e.2::OC l
def ZT(F:List (Nat×Nat)):List (Nat×Nat)->List (Option Nat)
 | []=>[]
 | e::l=>Fl e.1 F::ZT F l
def O5:List (Nat×Nat)->List (Option Nat)
 | []=>[]
 | e::l=>some e.2::O5 l
def Cd.ok(P:Program)(G:Bc):Cd->Prop
 | .eqb B b=>B=b
 | .eqi X z=>X=z
 | .idx t a b v=>Dz P t a b=some v
 | .bin op t x y a b v=>Ll P op t x y a b=some v
 | .call f args s v=>Sound P G (.call f args s (.ret v) s)
 | .Ws s t tx a b v s1=>∃v0,Mc P s t tx a b=some (v0,s1)/\∀c w u,Rp c w v0 u->Rp c w v u
 | .ix t a b v=>Lm P t a b=some v
 | .lk s t a b ok v=>Ji P s t a b ok=some v
 | .ms s t a b v s1=>KF P s t a b v=some s1
 | .arY f args s v s1=>Sound P G (.call f args s (.ret v) s1)
 | .ld s t a v=>KY P s t a=some v
 | .st s t a x s1=>L2 P s t a x=some s1
 | .mk s t a b v s1=>JE P s t a b=some (v,s1)
 | .sli t a l h m v=>KN P t a l h m=some v
 | .arX f args s v s1=>Sound P G (.call f args s (.pan v) s1)
 | .pur f args v=>∀s,Sound P G (.call f args s (.ret v) s)
 | .Zv t tx own n cs b sz k qV=>∀s:AS,N3 sz s.F n own=true->∃cs0,Mc P s t tx (.sl own n cs) b=some (.sl (asZ s sz own) k cs0,s.to k own)/\∀c w u o,Rp c w (.sl o k cs0) u->Rp c w (.sl o k qV) u
 | .eqn k n=>k=n
 | .E9 f args r pre tp Q3 tu=>∀s:AS,X5 s pre=OC pre->ZT s.F tp=O5 tp->Sound P G (.call f args s r ((s.VN Q3).S8 tu))
 | .yQ a b c d=>a=b/\c=d
 | .lkB b t k ok v=>∀(s:AS) (id:Nat),s.get id=some b->Ji P s t (.mp id) k ok=some v
 | .msB b t k v b2=>∀(s:AS) (id:Nat),s.get id=some b->KF P s t (.mp id) k v=some (s.put id b2)
 | .ldB b t off v=>∀(s:AS) (id:Nat),s.get id=some b->KY P s t (.ptr id off)=some v
 | .stB b t off x b2=>∀(s:AS) (id:Nat),s.get id=some b->L2 P s t (.ptr id off) x=some (s.put id b2)
 | .mkB t a x n m=>∀s:AS,∃m0,JE P s t a x=some (.msl s.nx 0 n,s.new m0)/\∀(cx:Cx) (w:World) (o:Obj),FD cx w m0 o->FD cx w m o
 | .apB t tx a b n m=>∀s:AS,aAB P G t tx a b s (.msl s.nx 0 n) (s.new m)
 | .arW f args nx nr v h dn F dr=>∀s:AS,s.nx=nx->s.nr=nr->Sound P G (.call f args s (.ret v) ⟨h++s.h,s.nx+dn,F++s.F,s.nr+dr⟩)
 | .apf t tx a b v=>∀s:AS,∃v0,Mc P s t tx a b=some (v0,s)/\∀c w u,Rp c w v0 u->Rp c w v u
 | .cv t t2 a v=>VX P t t2 a=some v
 | .rd nr b b2=>∀(cx:Cx) (w:World) (o:Obj),nr < cx.rows.length->FD cx w b o->FD cx w b2 o
def Rq(P:Program)(G:Bc):List Cd->Prop
 | []=>True
 | c::l=>c.ok P G/\Rq P G l
def Rq.Ws{P:Program}{G:Bc}{l m:List Cd}(h:Rq P G (l++m)):Rq P G l/\Rq P G m:=by
 induction l with
 | nil=>exact⟨trivial,h⟩
 | cons c l ih=>exact⟨⟨h.1,(ih h.2).1⟩,(ih h.2).2⟩
abbrev HO:=Option (AV×AS×List Hn×List Cd)
def Lu(s1:Option AR)(hs:List Hn):HO:=match s1 with
 | some (.val v s)=>some (v,s,hs,[])
 | _=>none
def aBG(P:Program)(op:BinOp)(t:TypeId)(x y:Operand)(a b:AV)(s:AS):List Hn->HO
 | .k::hs=>(match Xu P op t x y a b with
   | some v=>some (v,s,hs,[])
   | none=>none)
 | .b c::hs=>(match Xu P op t x y a b with
   | some (.sc (.bool B))=>some (.sc (.bool c),s,hs,[.eqb B c])
   | _=>none)
 | .i z::hs=>(match Xu P op t x y a b with
   | some (.sc (.int k X))=>some (.sc (.int k z),s,hs,[.eqi X z])
   | _=>none)
 | .w v::hs=>some (v,s,hs,[.bin op t x y a b v])
 | _=>none
def aBJ(P:Program)(t:TypeId)(a b:AV)(s:AS):List Hn->HO
 | .k::hs=>(match Dz P t a b with
   | some v=>some (v,s,hs,[])
   | none=>none)
 | .w v::hs=>some (v,s,hs,[.idx t a b v])
 | _=>none
def X8(s:AS)(r:Option AR):List Hn->HO
 | .w v::hs=>(match r with
   | some (.ent f args)=>some (v,s,hs,[.pur f args v])
   | _=>none)
 | .a v s1::hs=>(match r with
   | some (.ent f args)=>some (v,s1,hs,[.arY f args s v s1])
   | _=>none)
 | .u v pre tp Q3 tu::hs=>(match r with
   | some (.ent f args)=>some (v,(s.VN Q3).S8 tu,hs,[.E9 f args (.ret v) pre tp Q3 tu,.yQ (X5 s pre) (OC pre) (ZT s.F tp) (O5 tp)])
   | _=>none)
 | .cn v h dn F dr::hs=>(match r with
   | some (.ent f args)=>some (v,⟨h++s.h,s.nx+dn,F++s.F,s.nr+dr⟩,hs,[.arW f args s.nx s.nr v h dn F dr])
   | _=>none)
 | _=>none
def acG(s:AS)(t tx:TypeId)(a b:AV):List Hn->HO
 | .mb n m::hs=>some (.msl s.nx 0 n,s.new m,hs,[.apB t tx a b n m])
 | .a v s1::hs=>some (v,s1,hs,[.Ws s t tx a b v s1])
 | .ae v::hs=>some (v,s,hs,[.Ws s t tx a b v s])
 | .af v::hs=>some (v,s,hs,[.apf t tx a b v])
 | .g sz k qV::hs=>(match a with
   | .sl .full n cs=>some (.sl (.row s.nr sz) k qV,s.add k,hs,[.Zv t tx .full n cs b sz k qV])
   | .sl (.row r z) n cs=>(match Fl r s.F with
     | some m=>(match Nat.beq z sz with
       | true=>some (.sl (.row r sz) k qV,s.grow r k,hs,[.Zv t tx (.row r z) n cs b sz k qV,.eqn m n])
       | false=>none)
     | none=>none)
   | _=>none)
 | _=>none
def aBK(P:Program)(t:TypeId)(a b:AV)(s:AS):List Hn->HO
 | .k::hs=>(match Lm P t a b with
   | some v=>some (v,s,hs,[])
   | none=>none)
 | .w v::hs=>some (v,s,hs,[.ix t a b v])
 | _=>none
def asH(t:TypeId)(a b:AV)(ok:Bool)(s:AS):List Hn->HO
 | .w v::hs=>some (v,s,hs,[.lk s t a b ok v])
 | .x m v::hs=>(match a with
   | .mp id=>some (v,s,hs,[.lkB m t b ok v,.yQ [s.get id] [some m] [] []])
   | _=>none)
 | _=>none
def avO(t:TypeId)(a b v:AV)(s:AS):List Hn->HO
 | .m s1::hs=>some (.sc undef,s1,hs,[.ms s t a b v s1])
 | .y m m2::hs=>(match a with
   | .mp id=>some (.sc undef,s.put id m2,hs,[.msB m t b v m2,.yQ [s.get id] [some m] [] []])
   | _=>none)
 | _=>none
def acJ(t:TypeId)(a:Option AV)(s:AS)(r:Option AR):List Hn->HO
 | .l v::hs=>(match a with
   | some a=>some (v,s,hs,[.ld s t a v])
   | none=>none)
 | .lb m v::hs=>(match a with
   | some (.ptr id off)=>some (v,s,hs,[.ldB m t off v,.yQ [s.get id] [some m] [] []])
   | _=>none)
 | hs=>Lu r hs
def nN(t:TypeId)(a x:Option AV)(s:AS)(r:Option AR):List Hn->HO
 | .s s1::hs=>(match a,x with
   | some a,some x=>some (.sc undef,s1,hs,[.st s t a x s1])
   | _,_=>none)
 | .sb m m2::hs=>(match a,x with
   | some (.ptr id off),some x=>some (.sc undef,s.put id m2,hs,[.stB m t off x m2,.yQ [s.get id] [some m] [] []])
   | _,_=>none)
 | hs=>Lu r hs
def acL(t:TypeId)(a x:Option AV)(s:AS)(r:Option AR):List Hn->HO
 | .c v s1::hs=>(match a,x with
   | some a,some x=>some (v,s1,hs,[.mk s t a x v s1])
   | _,_=>none)
 | .mb n m::hs=>(match a,x with
   | some a,some x=>some (.msl s.nx 0 n,s.new m,hs,[.mkB t a x n m])
   | _,_=>none)
 | hs=>Lu r hs
def avP(t:TypeId)(a:Option AV)(l h m:Option (Option AV))(s:AS)(r:Option AR):List Hn->HO
 | .o v::hs=>(match a,l,h,m with
   | some a,some l,some h,some m=>some (v,s,hs,[.sli t a l h m v])
   | _,_,_,_=>none)
 | hs=>Lu r hs
def asF(P:Program)(t t2:TypeId)(a:AV)(s:AS):List Hn->HO
 | .w v::hs=>some (v,s,hs,[.cv t t2 a v])
 | hs=>(match VX P t t2 a with
   | some v=>some (v,s,hs,[])
   | none=>none)
def vO(P:Program)(G:Bc)(fr:List AV)(s:AS)(o:Oper)(hs:List Hn):HO :=
 match o.op with
 | .binOp op t x y _=>(match AZ G fr x with
   | some a=>(match AZ G fr y with
     | some b=>aBG P op t x y a b s hs
     | none=>none)
   | none=>none)
 | .indexAddr t x i=>(match AZ G fr x with
   | some a=>(match AZ G fr i with
     | some b=>aBJ P t a b s hs
     | none=>none)
   | none=>none)
 | .index t x i=>(match AZ G fr x with
   | some a=>(match AZ G fr i with
     | some b=>aBK P t a b s hs
     | none=>none)
   | none=>none)
 | .convert t t2 x=>(match AZ G fr x with
   | some (.sl o n cs)=>asF P t t2 (.sl o n cs) s hs
   | _=>Lu (Uj P G fr s o) hs)
 | .lookup t x k ok=>(match AZ G fr x with
   | some a=>(match AZ G fr k with
     | some b=>asH t a b ok s hs
     | none=>none)
   | none=>none)
 | .mapUpdate t m k x=>(match AZ G fr m with
   | some a=>(match AZ G fr k with
     | some b=>(match AZ G fr x with
       | some v=>avO t a b v s hs
       | none=>none)
     | none=>none)
   | none=>none)
 | .load t x=>acJ t (Bg G fr x) s (Uj P G fr s o) hs
 | .store t x y=>nN t (Bg G fr x) (Bg G fr y) s (Uj P G fr s o) hs
 | .makeSlice t x y=>acL t (Bg G fr x) (Bg G fr y) s (Uj P G fr s o) hs
 | .slice t x lo hi mx=>avP t (Bg G fr x) (fO G fr lo) (fO G fr hi) (fO G fr mx) s (Uj P G fr s o) hs
 | .call cl=>(match cl.callee with
   | .value _=>X8 s (Uj P G fr s o) hs
   | .builtin .append=>(match cl.args.toList,cl.argTypes.toList with
     | [x,y],[t,tx]=>(match AZ G fr x with
       | some a=>(match AZ G fr y with
         | some b=>acG s t tx a b hs
         | none=>none)
       | none=>none)
     | _,_=>none)
   | _=>Lu (Uj P G fr s o) hs)
 | _=>Lu (Uj P G fr s o) hs
def ZW(P:Program)(G:Bc)(ops:Array Oper)(fr:List AV)(s:AS)(o:Oper)(hs:List Hn):HO :=
 match CC ops fr o with
 | true=>vO P G fr s o hs
 | false=>some (.sc undef,s,hs,[])
section
variable {P:Program} {G:Bc} {ops:Array Oper}
def Vm{r:Option AR}{hs hs':List Hn}{v:AV}{s:AS}{cd:List Cd}(h:Lu r hs=some (v,s,hs',cd)):r=some (.val v s):=by
 unfold Lu at h;split at h;cases h;rfl;cases h
def acK{t:TypeId}{a:Option AV}{r:Option AR}{hs hs':List Hn}{v:AV}{s s1:AS}{cd:List Cd}(h:acJ t a s r hs=some (v,s1,hs',cd))(hc:Rq P G cd):(∃a',a=some a'/\KY P s t a'=some v/\s1=s)\/Lu r hs=some (v,s1,hs',cd):=by
 unfold acJ at h;split at h;split at h;cases h;exact .inl ⟨_,rfl,hc.1,rfl⟩;cases h;split at h;cases h;exact .inl ⟨_,rfl,hc.1 _ _ (List.cons.inj hc.2.1.1).1,rfl⟩;cases h;exact .inr h
def Vn{t:TypeId}{a x:Option AV}{r:Option AR}{hs hs':List Hn}{v:AV}{s s1:AS}{cd:List Cd}(h:nN t a x s r hs=some (v,s1,hs',cd))(hc:Rq P G cd):(∃a' x',a=some a'/\x=some x'/\L2 P s t a' x'=some s1/\v=.sc undef)\/Lu r hs=some (v,s1,hs',cd):=by
 unfold nN at h;split at h;split at h;cases h;exact .inl ⟨_,_,rfl,rfl,hc.1,rfl⟩;cases h;split at h;cases h;exact .inl ⟨_,_,rfl,rfl,hc.1 _ _ (List.cons.inj hc.2.1.1).1,rfl⟩;cases h;exact .inr h
def acM{t:TypeId}{a x:Option AV}{r:Option AR}{hs hs':List Hn}{v:AV}{s s1:AS}{cd:List Cd}(h:acL t a x s r hs=some (v,s1,hs',cd))(hc:Rq P G cd):(∃a' x',a=some a'/\x=some x'/\∃s0,JE P s t a' x'=some (v,s0)/\∀cx w,St G cx w s0->St G cx w s1)\/Lu r hs=some (v,s1,hs',cd):=by
 unfold acL at h;split at h;split at h;cases h;exact .inl ⟨_,_,rfl,rfl,_,hc.1,λ_ _ h=>h⟩;cases h;split at h;cases h;obtain⟨m0,h1,h2⟩:=hc.1 s;refine .inl ⟨_,_,rfl,rfl,_,h1,λcx w hs=>?_⟩;have:=hs.wZ (id:=s.nx) (b:=m0) (b2:=_) (by simp[AS.new,look]) (λo ho=>h2 cx w o ho);simpa[AS.new,tX] using this
 cases h;exact .inr h
def alQ{t:TypeId}{a:Option AV}{l k m:Option (Option AV)}{r:Option AR}{hs hs':List Hn}{v:AV}{s s1:AS}{cd:List Cd}(h:avP t a l k m s r hs=some (v,s1,hs',cd))(hc:Rq P G cd):(∃a' l' k' m',a=some a'/\l=some l'/\k=some k'/\m=some m'/\KN P t a' l' k' m'=some v/\s1=s)\/Lu r hs=some (v,s1,hs',cd):=by
 unfold avP at h;split at h;split at h;cases h;exact .inl ⟨_,_,_,_,rfl,rfl,rfl,rfl,hc.1,rfl⟩;cases h;exact .inr h
def avN{fr:List AV}{s s1:AS}{o:Oper}{hs hs':List Hn}{v:AV}{cd:List Cd}(hw:CC ops fr o=true)(h:vO P G fr s o hs=some (v,s1,hs',cd))(hc:Rq P G cd):J P G (XS P G) H0 (.op ops o fr s (.ret v) s1):=by
 have TL:Lu (Uj P G fr s o) hs=some (v,s1,hs',cd)->J P G (XS P G) H0 (.op ops o fr s (.ret v) s1):=λh=>by
   have:=Vm h;rw[Nn] at this;exact .N4 hw this
 unfold vO at h;split at h;rename_i op t x y z ho;rw[Cv,Cv] at h;split at h;rename_i a ha;split at h;rename_i b hb
 have fin:∀v',Ll P op t x y a b=some v'->s1=s->v=v'->J P G (XS P G) H0 (.op ops o fr s (.ret v) s1):=by
   intro v' h1 h2 h3;subst h2 h3;refine .N4 hw ?_;unfold Qo;rw[ho];simp only[ha,hb,h1,Option.map_some]
 unfold aBG at h;rw[NN] at h;split at h;split at h;rename_i h1;cases h;exact fin _ h1 rfl rfl;cases h;split at h;rename_i h1;cases h;have e:_=_:=hc.1;subst e;exact fin _ h1 rfl rfl;cases h;split at h;rename_i h1;cases h;have e:_=_:=hc.1;subst e;exact fin _ h1 rfl rfl;cases h;cases h;exact fin _ hc.1 rfl rfl;cases h;cases h;cases h;rename_i t x i ho;rw[Cv,Cv] at h;split at h;rename_i a ha;split at h;rename_i b hb
 have fin:∀v',Dz P t a b=some v'->s1=s->v=v'->J P G (XS P G) H0 (.op ops o fr s (.ret v) s1):=by
   intro v' h1 h2 h3;subst h2 h3;refine .N4 hw ?_;unfold Qo;rw[ho];simp only[ha,hb,h1,Option.map_some]
 unfold aBJ at h;split at h;split at h;rename_i h1;cases h;exact fin _ h1 rfl rfl;cases h;cases h;exact fin _ hc.1 rfl rfl;cases h;cases h;cases h;rename_i t x i ho;rw[Cv,Cv] at h;split at h;rename_i a ha;split at h;rename_i b hb
 have fin:∀v',Lm P t a b=some v'->s1=s->v=v'->J P G (XS P G) H0 (.op ops o fr s (.ret v) s1):=by
   intro v' h1 h2 h3;subst h2 h3;refine .N4 hw ?_;unfold Qo;rw[ho];simp only[ha,hb,h1,Option.map_some]
 unfold aBK at h;split at h;split at h;rename_i h1;cases h;exact fin _ h1 rfl rfl;cases h;cases h;exact fin _ hc.1 rfl rfl;cases h;cases h;cases h;rename_i t t2 x ho;rw[Cv] at h;split at h;rename_i ow n cs ha
 have fin:∀v',VX P t t2 (.sl ow n cs)=some v'->s1=s->v=v'->J P G (XS P G) H0 (.op ops o fr s (.ret v) s1):=by
   intro v' h1 h2 h3;subst h2 h3;refine .N4 hw ?_;unfold Qo;rw[ho];simp only[ha,Option.bind_some,h1,Option.map_some]
 unfold asF at h;split at h;cases h;exact fin _ hc.1 rfl rfl;split at h;rename_i h1;cases h;exact fin _ h1 rfl rfl;cases h;exact TL h;rename_i t x k ok ho;rw[Cv,Cv] at h;split at h;rename_i a ha;split at h;rename_i b hb
 have h1:Ji P s t a b ok=some v/\s1=s:=by
   unfold asH at h;split at h;cases h;exact⟨hc.1,rfl⟩;split at h;cases h;refine⟨hc.1 _ _ ?_,rfl⟩;have h2:=hc.2.1.1;simpa using h2
   cases h;cases h
 obtain⟨h1,rfl⟩:=h1;refine .N4 hw ?_;unfold Qo;rw[ho];simp only[ha,hb,h1,Option.map_some];cases h;cases h;rename_i t m k x ho;rw[Cv,Cv,Cv] at h;split at h;rename_i a ha;split at h;rename_i b hb;split at h;rename_i x' hx
 have h1:KF P s t a b x'=some s1/\v=.sc undef:=by
   unfold avO at h;split at h;cases h;exact⟨hc.1,rfl⟩;split at h;cases h;refine⟨hc.1 _ _ ?_,rfl⟩;have h2:=hc.2.1.1;simpa using h2
   cases h;cases h
 obtain⟨h1,rfl⟩:=h1;refine .N4 hw ?_;unfold Qo;rw[ho];simp only[ha,hb,hx,h1,Option.map_some];cases h;cases h;cases h;rename_i t x ho;rcases acK h hc with ⟨a,ha,h1,rfl⟩ | h1
 refine .N4 hw ?_;unfold Qo;rw[ho];simp only[ha,Option.bind_some,h1,Option.map_some];exact TL h1;rename_i t x y ho;rcases Vn h hc with ⟨a,b,ha,hb,h1,rfl⟩ | h1
 refine .N4 hw ?_;unfold Qo;rw[ho];simp only[ha,hb,h1,Option.map_some];exact TL h1;rename_i t x y ho;rcases acM h hc with ⟨a,b,ha,hb,s0,h1,h2⟩ | h1
 refine .dU ?_ (.N4 (s':=s0) hw ?_) h2;simp only[quiet,ho];unfold Qo;rw[ho];simp only[ha,hb,h1,Option.map_some];exact TL h1;rename_i t x lo hi mx ho;rcases alQ h hc with ⟨a,l,k,m,ha,hl,hk,hm,h1,rfl⟩ | h1
 refine .N4 hw ?_;unfold Qo;rw[ho];simp only[ha,hl,hk,hm,h1,Option.map_some];exact TL h1;rename_i cl ho;split at h;unfold X8 at h;split at h;split at h;rename_i h1;cases h;rw[Nn] at h1;exact .R7 hw h1 (.ext (hc.1 s));cases h;split at h;rename_i h1;cases h;rw[Nn] at h1;exact .R7 hw h1 (.ext hc.1);cases h;split at h;rename_i h1;cases h;rw[Nn] at h1;exact .R7 hw h1 (.ext (hc.1 s hc.2.1.1 hc.2.1.2));cases h;split at h;rename_i h1;cases h;rw[Nn] at h1;exact .R7 hw h1 (.ext (hc.1 s rfl rfl));cases h;cases h;rename_i Iy;split at h;rename_i x y t tx hxs D4;rw[Cv,Cv] at h;split at h;rename_i a ha;split at h;rename_i b hb
 have fin:∀v0,Mc P s t tx a b=some (v0,s1)->(∀c w u,Rp c w v0 u->Rp c w v u)->J P G (XS P G) H0 (.op ops o fr s (.ret v) s1):=by
   intro v0 h1 h2;refine .pA (v:=v0) ?_ (.N4 hw ?_) h2;simp only[quiet,ho,Iy];unfold Qo;rw[ho];simp only[S4,Iy,hxs,D4,ha,hb,h1,Option.map_some]
 unfold acG at h;split at h;cases h;exact .afB hw ho Iy hxs D4 ha hb (hc.1 s);cases h;obtain⟨v0,h1,h2⟩:=hc.1;exact fin v0 h1 h2;cases h;obtain⟨v0,h1,h2⟩:=hc.1;exact fin v0 h1 h2;cases h;obtain⟨v0,h1,h2⟩:=hc.1 s;exact fin v0 h1 h2;split at h;cases h;obtain⟨cs0,h1,h2⟩:=hc.1 s rfl;exact fin _ h1 (λc w u=>h2 c w u _);rename_i r z n cs;split at h;rename_i m hm;split at h;rename_i hz;have hz:=beq_true hz;subst hz;cases h;have e:m=n:=hc.2.1;subst e;obtain⟨cs0,h1,h2⟩:=hc.1 s (by simp[N3,hm]);exact fin _ h1 (λc w u=>h2 c w u _);cases h;cases h;cases h;cases h;cases h;cases h;cases h;exact TL h;exact TL h
def Pj{fr:List AV}{s s1:AS}{o:Oper}{hs hs':List Hn}{v:AV}{cd:List Cd}(h:ZW P G ops fr s o hs=some (v,s1,hs',cd))(hc:Rq P G cd):J P G (XS P G) H0 (.op ops o fr s (.ret v) s1):=by
 unfold ZW at h;split at h;rename_i hw;exact avN hw h hc;rename_i hw;cases h;exact .oZ hw
end
end AI
