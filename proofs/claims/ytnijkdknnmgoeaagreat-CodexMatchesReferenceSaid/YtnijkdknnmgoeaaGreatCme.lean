/- Part of a proof: see the last text. -/
import Derived.Test.YtnijkdknnmgoeaaGreatCmd
import Derived.LoopN
set_option linter.unusedVariables false
set_option linter.unusedSimpArgs false
set_option linter.defProp false
noncomputable section
namespace AI
open Go Go.RowKit
inductive AX where
 | normal
 | exit (id:Nat)
 | ret
 | Mq (v:AV)
inductive CR where
 | ret (v:AV)
 | Mq (v:AV)
def Cl(ops:Array Oper)(fr:List AV)(o:Oper):Bool:=match o.guard with
 | none=>true
 | some (j,want)=>match (ops[j]?).bind (·.dst) with
   | some d=>match fr[d]? with
     | some (.sc (.bool b))=>b == want
     | _=>false
   | none=>false
def Gk(id:Nat):AX->AX
 | .exit TY=>if TY=id then .normal else .exit TY
 | e=>e
def YP(P:Program)(s:AS)(fr:List AV):ResultVar->Option AV
 | .tmp t=>some (fr.getD t (.sc undef))
 | .cell t ty=>Lk P s ty (fr.getD t (.sc undef))
def SG(P:Program)(s:AS)(fr:List AV):List ResultVar->Option (List AV)
 | []=>some []
 | r::rs=>match YP P s fr r,SG P s fr rs with
   | some a,some as=>some (a::as)
   | _,_=>none
def I4(P:Program)(s:AS)(fn:Func)(fr:List AV):Option AV:=match SG P s fr fn.results.toList with
 | some [a]=>some a
 | some as=>some (.Bj as)
 | none=>none
inductive Jd where
 | code (c:Code) (fr:List AV) (s:AS) (e:AX) (Cm:List AV) (s':AS)
 | loop (c:Code) (fr:List AV) (s:AS) (e:AX) (Cm:List AV) (s':AS)
 | ops (ops:Array Oper) (l:List Nat) (fr:List AV) (s:AS) (e:AX) (Cm:List AV) (s':AS)
 | op (ops:Array Oper) (o:Oper) (fr:List AV) (s:AS) (r:CR) (s':AS)
 | call (f:FuncId) (args:List AV) (s:AS) (r:CR) (s':AS)
def C1(ops:Array Oper)(i:Nat):Option Tmp:=(ops[i]?).bind (·.dst)
def Zc(ops:Array Oper)(i:Nat):Prop:=∃o,ops[i]?=some o/\calm o.op=false
def Win(ops:Array Oper)(i k:Nat):Prop:=(∀l,Zc ops l->YV (LS ops.toList []) i l=true->l < k)/\(∀l,Zc ops l->YV (LS ops.toList []) l i=true->k<=l)
abbrev W5:=FuncId->List AV->AS->CR->AS->Prop
abbrev SS:=FuncId->List AV->Option (FuncId×List AV×(CR->Option CR))
def aqX(P:Program)(G:Bh)(t tx:TypeId)(a b:AV)(s:AS)(v:AV)(s':AS):Prop:=∀(c:Cx) (w:World) (va vb:Value) (ty:TypeId),St G c w s->Rp c w a va->Rp c w b vb ->
 ∃u w' c',(Builtin.append_ #[t,tx] ty #[va,vb]).run P w=.ok u w'/\Ext c w c' w'/\St G c' w' s'/\Rp c' w' v u
inductive J(P:Program)(G:Bh)(X:W5)(H:SS):Jd->Prop where
 | skip {fr:List AV} {s:AS}:J P G X H (.code .skip fr s .normal fr s)
 | exit {id:Nat} {fr:List AV} {s:AS}:J P G X H (.code (.exit id) fr s (.exit id) fr s)
 | ret {fr:List AV} {s:AS}:J P G X H (.code .ret fr s .ret fr s)
 | seq {x y:Code} {fr TR Cm:List AV} {s s1 s':AS} {e:AX} (h1:J P G X H (.code x fr s .normal TR s1)) (h2:J P G X H (.code y TR s1 e Cm s')):J P G X H (.code (.seq x y) fr s e Cm s')
 | jK {x y:Code} {fr Cm:List AV} {s s':AS} {e:AX} (h1:J P G X H (.code x fr s e Cm s')) (he:e≠.normal):J P G X H (.code (.seq x y) fr s e Cm s')
 | cond {q:Operand} {x y:Code} {t:Bool} {fr Cm:List AV} {s s':AS} {e:AX} (hq:Bp G fr q=some (.sc (.bool t))) (h:J P G X H (.code (if t then x else y) fr s e Cm s')):J P G X H (.code (.cond q x y) fr s e Cm s')
 | block {id:Nat} {c:Code} {fr Cm:List AV} {s s':AS} {e:AX} (h:J P G X H (.code c fr s e Cm s')):J P G X H (.code (.block id c) fr s (Gk id e) Cm s')
 | loop {c:Code} {fr Cm:List AV} {s s':AS} {e:AX} (h:J P G X H (.loop c fr s e Cm s')):J P G X H (.code (.loop c) fr s e Cm s')
 | aeQ {c:Code} {fr TR Cm:List AV} {s s1 s':AS} {e:AX} (h1:J P G X H (.code c fr s .normal TR s1)) (h2:J P G X H (.loop c TR s1 e Cm s')):J P G X H (.loop c fr s e Cm s')
 | cZ {c:Code} {fr Cm:List AV} {s s':AS} {e:AX} (h1:J P G X H (.code c fr s e Cm s')) (he:e≠.normal):J P G X H (.loop c fr s e Cm s')
 | region {id:Nat} {ops:Array Oper} {fr Cm:List AV} {s s':AS} {e:AX} (h:J P G X H (.ops ops (List.range ops.size) fr s e Cm s')):J P G X H (.code (.region id ops false) fr s e Cm s')
 | xZ {ops:Array Oper} {fr:List AV} {s:AS}:J P G X H (.ops ops [] fr s .normal fr s)
 | oZ {ops:Array Oper} {i:Nat} {l:List Nat} {o:Oper} {v:AV} {fr Cm:List AV} {s s1 s':AS} {e:AX} (ho:ops[i]?=some o) (h:J P G X H (.op ops o fr s (.ret v) s1)) (t:J P G X H (.ops ops l (Pt fr o.dst v) s1 e Cm s')):J P G X H (.ops ops (i::l) fr s e Cm s')
 | vN {ops:Array Oper} {i:Nat} {l:List Nat} {o:Oper} {v:AV} {fr:List AV} {s s1:AS} (ho:ops[i]?=some o) (h:J P G X H (.op ops o fr s (.Mq v) s1)):J P G X H (.ops ops (i::l) fr s (.Mq v) fr s1)
 | RD {ops:Array Oper} {o:Oper} {fr:List AV} {s s':AS} {v:AV} (hw:Cl ops fr o=true) (h:SW P G fr s o=some (.val v s')):J P G X H (.op ops o fr s (.ret v) s')
 | vJ {ops:Array Oper} {o:Oper} {fr:List AV} {s s':AS} {v v2:AV} (hq:quiet o.op=false) (h:J P G X H (.op ops o fr s (.ret v) s')) (hv:∀cx w u,Rp cx w v u->Rp cx w v2 u):J P G X H (.op ops o fr s (.ret v2) s')
 | pV {ops:Array Oper} {o:Oper} {fr:List AV} {s s1 s2:AS} {v:AV} (hq:quiet o.op=false) (h:J P G X H (.op ops o fr s (.ret v) s1)) (hs:∀cx w,St G cx w s1->St G cx w s2):J P G X H (.op ops o fr s (.ret v) s2)
 | afr {ops:Array Oper} {o:Oper} {fr:List AV} {s s':AS} {cl:Call} {x y:Operand} {t tx:TypeId} {a b v:AV} (hw:Cl ops fr o=true) (ho:o.op=.call cl) (Iv:cl.callee=.builtin .append) (hx:cl.args.toList=[x,y]) (ht:cl.argTypes.toList=[t,tx]) (ha:Bp G fr x=some a) (hb:Bp G fr y=some b) (h:aqX P G t tx a b s v s'):J P G X H (.op ops o fr s (.ret v) s')
 | nF {ops:Array Oper} {o:Oper} {fr:List AV} {s:AS} (hw:Cl ops fr o=false):J P G X H (.op ops o fr s (.ret (.sc undef)) s)
 | S1 {ops:Array Oper} {o:Oper} {fr:List AV} {s s':AS} {f:FuncId} {args:List AV} {r:CR} (hw:Cl ops fr o=true) (h:SW P G fr s o=some (.ent f args)) (hc:J P G X H (.call f args s r s')):J P G X H (.op ops o fr s r s')
 | afg {ops:Array Oper} {o:Oper} {fr:List AV} {s:AS} {v:AV} (hw:Cl ops fr o=true) (h:SW P G fr s o=some (.Mq v)):J P G X H (.op ops o fr s (.Mq v) s)
 | draw {id:Nat} {ops:Array Oper} {f0:List AV} {s0:AS} (rs:List Bb) (vals:Nat->AV) (O2:Nat->AS) (h0:O2 0=s0.hold rs) (Jn:PF ops=true)
     (hl:∀i o,ops[i]?=some o->calm o.op=false->J P G X H (.op ops o (Mr f0 (C1 ops) vals (λ_=>true) i) (O2 i) (.ret (vals i)) (O2 (i+1))))
     (hq:∀i o,ops[i]?=some o->quiet o.op=true->O2 (i+1)=O2 i/\((Cl ops (Mr f0 (C1 ops) vals (λ_=>true) i) o=false/\vals i=.sc undef)\/(Cl ops (Mr f0 (C1 ops) vals (λ_=>true) i) o=true/\∀k,k<=ops.size->Win ops i k->SW P G (Mr f0 (C1 ops) vals (λ_=>true) i) (O2 k) o=some (.val (vals i) (O2 k)))))
     (ha:∀i o e,ops[i]?=some o->o.op=.alloc e->O2 (i+1)=O2 i/\((Cl ops (Mr f0 (C1 ops) vals (λ_=>true) i) o=false/\vals i=.sc undef)\/(Cl ops (Mr f0 (C1 ops) vals (λ_=>true) i) o=true/\∃z,JF P e=some z/\rk ops i < rs.length/\vals i=.ptr (s0.nx+rk ops i) 0/\∀k,k<=ops.size->Win ops i k->(O2 k).get (s0.nx+rk ops i)=some (.cells (cellsOf z))))) :
     J P G X H (.code (.region id ops true) f0 s0 .normal (Mr f0 (C1 ops) vals (λ_=>true) ops.size) (O2 ops.size))
 | body {f:FuncId} {fn:Func} {c:Code} {args Cm:List AV} {s s' s2:AS} {e:AX} {v:AV} (hf:P.funcs[f]?=some fn) (hb:fn.body=some c) (h:J P G X H (.code c (args++List.replicate (fn.ntmps - args.length) (.sc undef)) s e Cm s')) (he:e=.normal\/e=.ret) (hr:I4 P s' fn Cm=some v) (hk:s2=s'.cut s.nx\/s2=s'):J P G X H (.call f args s (.ret v) s2)
 | N5 {f:FuncId} {fn:Func} {c:Code} {args Cm:List AV} {s s':AS} {v:AV} (hf:P.funcs[f]?=some fn) (hb:fn.body=some c) (h:J P G X H (.code c (args++List.replicate (fn.ntmps - args.length) (.sc undef)) s (.Mq v) Cm s')):J P G X H (.call f args s (.Mq v) (s'.cut s.nx))
 | ext {f:FuncId} {args:List AV} {s s':AS} {r:CR} (h:X f args s r s'):J P G X H (.call f args s r s')
 | aok {c:Code} {fr I0 Cm:List AV} {s s2 s':AS} {e:AX} (hw:∀cx w vs,St G cx w s->C8 cx w fr vs->∃cx2,Ext cx w cx2 w/\St G cx2 w s2/\C8 cx2 w I0 vs) (h:J P G X H (.code c I0 s2 e Cm s')):J P G X H (.code c fr s e Cm s')
 | ako {c:Code} {fr I0 Cm:List AV} {s s2 s':AS} {e:AX} (hw:∀cx w vs,St G cx w s->C8 cx w fr vs->∃cx2,Ext cx w cx2 w/\St G cx2 w s2/\C8 cx2 w I0 vs) (h:J P G X H (.loop c I0 s2 e Cm s')):J P G X H (.loop c fr s e Cm s')
 | scope {c:Code} {fr I0 Cm:List AV} {s s2 s':AS} {e:AX} (h:J P G X H (.code c fr s e Cm s')) (he:∀v,e≠.Mq v) (hs:∀cx w c' w' vs,Ext cx w c' w'->St G cx w s->St G c' w' s'->C8 c' w' Cm vs->∃c2,Ext cx w c2 w'/\St G c2 w' s2/\C8 c2 w' I0 vs):J P G X H (.code c fr s e I0 s2)
 | aiV {f g:FuncId} {args Yj:List AV} {k:CR->Option CR} {s s':AS} {r r':CR} (hh:H f args=some (g,Yj,k)) (h:J P G X H (.call g Yj s r s')) (hk:k r=some r'):J P G X H (.call f args s r' s')
def atH(G:Bh)(c:Cx)(w:World)(r:CR)(s':AS)(e:Ending)(w':World):Prop :=
 ∃c',Ext c w c' w'/\St G c' w' s'/\match r with
   | .ret v=>∃u,e=.returned u/\Rp c' w' v u
   | .Mq v=>∃u,e=.panicked [{ v:=u,recovered:=false }]/\Rp c' w' v u
def Xx(G:Bh)(c:Cx)(w:World)(e:AX)(Cm:List AV)(s':AS)(e':Exit)(a':Act)(w':World):Prop :=
 ∃c',Ext c w c' w'/\St G c' w' s'/\a'.defers=[]/\match e with
   | .normal=>e'=.normal/\C8 c' w' Cm a'.tmps.toList
   | .exit id=>e'=.exit id/\C8 c' w' Cm a'.tmps.toList
   | .ret=>e'=.ret/\C8 c' w' Cm a'.tmps.toList
   | .Mq v=>∃u,e'=.panic [{ v:=u,recovered:=false }]/\Rp c' w' v u
def Xx.ext{G:Bh}{c c1:Cx}{w w1:World}{e:AX}{Cm:List AV}{s':AS}{e':Exit}{a':Act}{w':World}(x:Ext c w c1 w1)(h:Xx G c1 w1 e Cm s' e' a' w'):Xx G c w e Cm s' e' a' w':=by
 obtain⟨c',h1,h2⟩:=h;exact⟨c',x.trans h1,h2⟩
def Uo(P:Program)(ops:Array Oper)(o:Oper)(K:Act->World->Prop)(Q:Exit->Act->World->Prop)(a:Act)(w:World):Prop :=
 if Region.wanted o (yielded ops a.tmps) then o.wp P a w K Q else K (a.put o.dst undef) w
def Sound(P:Program)(G:Bh):Jd->Prop
 | .code c fr s e Cm s'=>∀(cx:Cx) (w:World) (a:Act) (Q:Exit->Act->World->Prop),St G cx w s->C8 cx w fr a.tmps.toList->a.defers=[]->(∀e' a' w',Xx G cx w e Cm s' e' a' w'->Q e' a' w')->c.wp P Q a w
 | .loop c fr s e Cm s'=>∃n,∀(cx:Cx) (w:World) (a:Act) (Q:Exit->Act->World->Prop),St G cx w s->C8 cx w fr a.tmps.toList->a.defers=[]->(∀e' a' w',Xx G cx w e Cm s' e' a' w'->Q e' a' w')->Code.rounds P c Q n a w
 | .ops ops l fr s e Cm s'=>∀(cx:Cx) (w:World) (a:Act) (Q:Exit->Act->World->Prop),St G cx w s->C8 cx w fr a.tmps.toList->a.defers=[]->(∀e' a' w',Xx G cx w e Cm s' e' a' w'->Q e' a' w')->wpOps P ops Q l a w
 | .op ops o fr s r s'=>∀(cx:Cx) (w:World) (a:Act) (K:Act->World->Prop) (Q:Exit->Act->World->Prop),St G cx w s->(∀x∈o.op.operands,oX G cx w fr a.eval x)->Cl ops fr o=Region.wanted o (yielded ops a.tmps) ->
     (match r with
       | .ret v=>∀u w' c',Ext cx w c' w'->St G c' w' s'->Rp c' w' v u->K (a.put o.dst u) w'
       | .Mq v=>∀u w' c',Ext cx w c' w'->St G c' w' s'->Rp c' w' v u->Q (.panic [{ v:=u,recovered:=false }]) a w')->Uo P ops o K Q a w
 | .call f args s r s'=>∀(cx:Cx) (w:World) (vs:List Value),St G cx w s->C8 cx w args vs->Calls P f vs.toArray w (atH G cx w r s')
def WA{ops:Array Oper}{fr:List AV}{o:Oper}{c:Cx}{w:World}{tmps:Array Value}(h:∀j want,o.guard=some (j,want)->∀d,(ops[j]?).bind (·.dst)=some d->∃M,C8 c w M tmps.toList/\M[d]?=fr[d]?):Cl ops fr o=Region.wanted o (yielded ops tmps):=by
 unfold Cl Region.wanted;cases hg:o.guard with
 | none=>rfl
 | some p =>
   obtain⟨j,want⟩:=p;simp only;unfold yielded;cases hd:(ops[j]?).bind (·.dst) with
   | none=>simp
   | some d =>
     obtain⟨M,hM,he⟩:=h j want hg d hd;simp only[Option.bind_some];rw[<- he];cases hm:M[d]? with
     | none =>
       have hl:=hM.len;have h1:=List.getElem?_eq_none_iff.1 hm;have h2:tmps[d]?=none:=Array.getElem?_eq_none (by rw[<- Array.length_toList];omega);simp[h2]
     | some b =>
       obtain⟨u,hu,hr⟩:=hM.get hm;rw[Array.getElem?_toList] at hu;rw[hu];cases hr with
       | sc hs=>cases u<;>simp
       | any hs=>cases u<;>first | (simp[cN] at hs;done) | simp
       | _=>simp
def ajo(tmps:Array Value):ResultVar->Sem Value
 | .tmp t=>pure (tmps.getD t undef)
 | .cell a t=>do loadVar t (<- asAddr (tmps.getD a undef))
def vY(fn:Func)(tmps:Array Value):results fn tmps=(do
 let vs <- fn.results.mapM (ajo tmps)
 pure (if h:vs.size=1 then vs[0] else .tuple vs)):=by
 unfold results;congr 2
def uR{P:Program}{G:Bh}{c:Cx}{w:World}{s:AS}{fr:List AV}{tmps:Array Value}(hs:St G c w s)(hf:C8 c w fr tmps.toList){r:ResultVar}{v:AV}(h:YP P s fr r=some v) :
   ∃u,(ajo tmps r).run P w=.ok u w/\Rp c w v u:=by
 have ht:∀t,Rp c w (fr.getD t (.sc undef)) (tmps.getD t undef):=λt=>QU (G:=G) (s:=s) (a:=⟨tmps,[]⟩) (x:=.tmp t) hs hf rfl;cases r with
 | tmp t=>simp only[YP,Option.some.injEq] at h;subst h;exact⟨_,rfl,ht t⟩
 | cell t ty =>
   obtain⟨u,h1,h2⟩:=uE hs h (ht t);refine⟨u,?_,h2⟩;have hr:=ht t;simp only[Instr.loadAt,Sem.run_bind] at h1;simp only[ajo,Sem.run_bind];generalize tmps.getD t undef=x at hr h1;simp only[YP] at h;unfold Lk at h;split at h;rename_i Sr;rw[Sr] at hr;cases hr;simpa[asAddr,Instr.sureAddr] using h1
   rename_i Sr;rw[Sr] at hr;cases hr;simpa[asAddr,Instr.sureAddr] using h1
   cases h
def tH{P:Program}{G:Bh}{c:Cx}{w:World}{s:AS}{fr:List AV}{tmps:Array Value}(hs:St G c w s)(hf:C8 c w fr tmps.toList)(rs:List ResultVar){vs:List AV}(h:SG P s fr rs=some vs) :
   ∃us,(rs.mapM (ajo tmps)).run P w=.ok us w/\C8 c w vs us:=by
 induction rs generalizing vs with
 | nil=>simp[SG] at h;subst h;exact⟨[],rfl,.nil⟩
 | cons r rs ih =>
   simp only[SG] at h;split at h;rename_i a as h1 h2;cases h;obtain⟨u,hu,hr⟩:=uR hs hf h1;obtain⟨us,hus,hrs⟩:=ih h2;refine⟨u::us,?_,.cons hr hrs⟩;rw[List.mapM_cons];simp only[Sem.run_bind,hu,Result.andThen_ok,hus,Sem.run_pure];cases h
def Z7{P:Program}{G:Bh}{c:Cx}{w:World}{s:AS}{fr:List AV}{tmps:Array Value}{fn:Func}{v:AV}(hs:St G c w s)(hf:C8 c w fr tmps.toList)(h:I4 P s fn fr=some v):∃u,(results fn tmps).run P w=.ok u w/\Rp c w v u:=by
 unfold I4 at h;cases hl:SG P s fr fn.results.toList with
 | none=>rw[hl] at h;cases h
 | some as =>
   rw[hl] at h;obtain⟨us,hus,hrs⟩:=tH hs hf _ hl;have hlen:=hrs.len
   have xN:(results fn tmps).run P w=.ok (if h:us.toArray.size=1 then us.toArray[0] else .tuple us.toArray) w:=by
     rw[vY,Array.mapM_eq_mapM_toList];simp only[Sem.run_bind,Sem.run_map,hus,Result.andThen_ok,Sem.run_pure]
   rw[xN];split at h;rename_i a Sr;cases Sr;cases h;cases hrs with
   | cons h1 t=>cases t;exact⟨_,rfl,h1⟩
   rename_i as' KS Sr;cases Sr;cases h
   have:¬us.toArray.size=1:=by
     intro h1;simp at h1;obtain⟨a,ha⟩:=List.length_eq_one_iff.1 (hlen.symm.trans h1);exact KS a ha
   rw[dif_neg this];exact⟨_,rfl,.Bj hrs⟩;rename_i Sr;cases Sr
end AI
namespace AI
open Go Go.RowKit
def JS(L:Nat->Bool):Nat->Nat
 | 0=>0
 | n+1=>JS L n+if L n then 0 else 1
def adl{L:Nat->Bool}:∀(n:Nat),JS L n=0->∀i,i < n->L i=true:=by
 intro n
 induction n with
 | zero=>intro _ i hi;omega
 | succ n ih =>
   intro h i hi;simp only[JS] at h;by_cases hn:i=n;subst hn;by_cases hL:L i=true;exact hL;simp[hL] at h;exact ih (by omega) i (by omega)
def agt{L M:Nat->Bool}{i:Nat}(h0:L i=false)(h1:M i=true)(KS:∀j,j≠i->M j=L j):∀(n:Nat),(i < n->JS L n=JS M n+1)/\(n<=i->JS L n=JS M n):=by
 intro n
 induction n with
 | zero=>exact⟨λh=>by omega,λ_=>rfl⟩
 | succ n ih =>
   refine⟨λh=>?_,λh=>?_⟩;simp only[JS];by_cases hn:n=i;subst hn;rw[ih.2 (Nat.le_refl _),h0,h1];simp;rw[ih.1 (by omega),KS n hn];omega;simp only[JS];rw[ih.2 (by omega),KS n (by omega)]
def fO{ops:Array Oper}{O2:Nat->AS}(hq:∀i o,ops[i]?=some o->calm o.op=true->O2 (i+1)=O2 i){x:Nat}:∀(y:Nat),x<=y->y<=ops.size->(∀m,x<=m->m < y->¬Zc ops m)->O2 x=O2 y:=by
 intro y
 induction y with
 | zero=>intro h _ _;have:x=0:=by omega
         subst this;rfl
 | succ y ih =>
   intro h hn hl;by_cases e:x=y+1;subst e;rfl;rw[ih (by omega) (by omega) (λm h1 h2=>hl m h1 (by omega))];have ho:ops[y]?=some (ops[y]'(by omega)):=Array.getElem?_eq_getElem (by omega);have hy:=hl y (by omega) (by omega);refine(hq y _ ho ?_).symm;cases hqq:calm (ops[y]'(by omega)).op with
   | true=>rfl
   | false=>exact absurd ⟨_,ho,hqq⟩ hy
def mem_ready{ops:Array Oper}{L:Array Bool}(Q5:L.size=ops.size){i:Nat}(h:i∈Region.ready .any ops L):∃o,ops[i]?=some o/\L.getD i false=false/\Met (λj=>L.getD j false) o/\i < ops.size:=by
 unfold Region.ready at h;rw[List.mem_filter,List.mem_range,Bool.and_eq_true] at h;obtain⟨h1,h2,h3⟩:=h;have ho:ops[i]?=some (ops[i]'h1):=Array.getElem?_eq_getElem h1;refine⟨_,ho,?_,λe he hb=>?_,h1⟩;have:i < L.size:=by omega
 simpa[this] using h2
 rw[ho] at h3;simp only[Option.map_some,Option.getD_some] at h3;rw[Array.all_eq_true_iff_forall_mem] at h3;have:=h3 e he;rw[hb] at this;simpa using this
def ad4{ops:Array Oper}{L:Array Bool}(Q5:L.size=ops.size){i:Nat}{o:Oper}(ho:ops[i]?=some o)(hL:L.getD i false=false)(hm:Met (λj=>L.getD j false) o):i∈Region.ready .any ops L:=by
 have h1:=(Array.getElem?_eq_some_iff.1 ho).1;unfold Region.ready;rw[List.mem_filter,List.mem_range,Bool.and_eq_true];refine⟨h1,?_,?_⟩;have:i < L.size:=by omega
 simpa[this] using hL
 rw[ho];simp only[Option.map_some,Option.getD_some];rw[Array.all_eq_true_iff_forall_mem];intro e he;by_cases hb:Region.binds .any e=true;have:=hm e he hb;rw[hb];simpa using this
 simp[hb]
section
variable {P:Program} {G:Bh} {ops:Array Oper} {f0:List AV} {vals:Nat->AV} {O2:Nat->AS}
structure Inv(G:Bh)(ops:Array Oper)(f0:List AV)(vals:Nat->AV)(O2:Nat->AS)(cx0:Cx)(w0:World)(nh:Nat)(L:Array Bool)(a:Act)(w:World):Prop where
 size:L.size=ops.size
 closed:TJ ops.toList (λj=>L.getD j false)
 st:∃c k,k<=ops.size/\(∀l,Zc ops l->(L.getD l false=true↔l < k))/\Ext cx0 w0 c w/\St G c w (O2 k)/\C8 c w (Mr f0 (C1 ops) vals (λj=>L.getD j false) ops.size) a.tmps.toList /\
   ∀j y,ops[j]?=some y->BG y.op=true->L.getD j false=false->rk ops j < nh->c.C6[cx0.C6.length+rk ops j]?=some none
 defers:a.defers=[]
def looks{x y:Oper}{t:Nat}(hx:x.dst=some t)(hy:t∈y.looksAt ops):SM ops x y=true:=by
 simp[SM,hx,hy]
def ami{x y:Oper}{t:Nat}(hx:t∈x.looksAt ops)(hy:y.dst=some t):SM ops x y=true:=by
 simp[SM,hx,hy]
def aqS{x y:Oper}{t:Nat}(hx:x.dst=some t)(hy:y.dst=some t):SM ops x y=true:=by
 simp[SM,hx,hy]
def aaE{x y:Oper}(hx:calm x.op=false)(hy:calm y.op=false):SM ops x y=true:=by
 simp[SM,hx,hy]
def BI{i:Nat}{o:Oper}(h:ops[i]?=some o):ops.toList[i]?=some o:=by rw[Array.getElem?_toList];exact h
def Zx{L:Nat->Bool}(Jn:PF ops=true)(hc:TJ ops.toList L){i j:Nat}{x y:Oper}(hx:ops[i]?=some x)(hy:ops[j]?=some y)(hm:Met L y)(IJ:i < j)(Iv:SM ops x y=true):L i=true :=
 qD hc (BI hy) hm (kJ Jn hx hy IJ Iv)
def S7{L:Nat->Bool}(Jn:PF ops=true)(hc:TJ ops.toList L){i j:Nat}{x y:Oper}(hx:ops[i]?=some x)(hy:ops[j]?=some y)(hL:L i=false)(IJ:i < j)(Iv:SM ops x y=true):L j=false:=by
 cases h:L j with
 | false=>rfl
 | true =>
   have:=qD hc (BI hy) (hc j y (BI hy) h) (kJ Jn hx hy IJ Iv);rw[hL] at this;cases this
def wY{i t:Nat}(h:C1 ops i=some t):∃o,ops[i]?=some o/\o.dst=some t:=by
 unfold C1 at h;cases ho:ops[i]? with
 | none=>rw[ho] at h;cases h
 | some o=>rw[ho] at h;exact⟨o,rfl,by simpa using h⟩
def lL{L:Nat->Bool}(Jn:PF ops=true)(hc:TJ ops.toList L){i:Nat}{o:Oper}(ho:ops[i]?=some o)(hL:L i=false)(hm:Met L o){t:Nat}(ht:t∈o.looksAt ops) :
   (Mr f0 (C1 ops) vals L ops.size)[t]?=(Mr f0 (C1 ops) vals (λ_=>true) i)[t]?:=by
 have hi:=(Array.getElem?_eq_some_iff.1 ho).1;rw[aaU (j:=i) ops.size (by omega)];refine iP i (λj hj hd=>?_);obtain⟨x,hx,hxd⟩:=wY hd;exact Zx Jn hc hx ho hm hj (looks hxd ht);intro j hj _ hd;by_cases e:j=i;subst e;exact hL;obtain⟨y,hy,hyd⟩:=wY hd;exact S7 Jn hc ho hy hL (by omega) (ami ht hyd)
def aib{L M:Nat->Bool}(Jn:PF ops=true)(hc:TJ ops.toList L){i:Nat}{o:Oper}(ho:ops[i]?=some o)(hL:L i=false)(hM:M i=true)(KS:∀j,j≠i->M j=L j) :
   Mr f0 (C1 ops) vals M ops.size=Pt (Mr f0 (C1 ops) vals L ops.size) o.dst (vals i):=by
 have hi:=(Array.getElem?_eq_some_iff.1 ho).1;have hdi:C1 ops i=o.dst:=by unfold C1;rw[ho];rfl
 apply List.ext_getElem?;intro t;by_cases hd:o.dst=some t;rw[aaU (j:=i+1) ops.size (by omega)];simp only[Mr,hM,if_true,hdi,hd];rw[Ro,Ro,bX,bX];intro j hj _ hdj;obtain⟨y,hy,hyd⟩:=wY hdj;rw[KS j (by omega)];exact S7 Jn hc ho hy hL (by omega) (aqS hd hyd);rw[Uz hd];refine iP ops.size (λj _ hdj=>KS j (λe=>hd ?_));rw[<- hdi,<- e];exact hdj
def Ext.anN{c:Cx}{w:World}{c':Cx}{w':World}(h:Ext c w c' w'){id:Nat}{y:Option Nat}(e:c.C6[id]?=some y):c'.C6[id]?=some y:=by
 obtain⟨t,ht⟩:=h.C6;rw[<- ht,List.getElem?_append_left (List.getElem?_eq_some_iff.1 e).1];exact e
def afM{nh:Nat}(Jn:PF ops=true)
   (hl:∀i o,ops[i]?=some o->calm o.op=false->Sound P G (.op ops o (Mr f0 (C1 ops) vals (λ_=>true) i) (O2 i) (.ret (vals i)) (O2 (i+1))))
   (hq:∀i o,ops[i]?=some o->quiet o.op=true->O2 (i+1)=O2 i/\((Cl ops (Mr f0 (C1 ops) vals (λ_=>true) i) o=false/\vals i=.sc undef)\/(Cl ops (Mr f0 (C1 ops) vals (λ_=>true) i) o=true/\∀k,k<=ops.size->Win ops i k->SW P G (Mr f0 (C1 ops) vals (λ_=>true) i) (O2 k) o=some (.val (vals i) (O2 k)))))
   (cx0:Cx) (w0:World)
   (ha:∀i o e,ops[i]?=some o->o.op=.alloc e->O2 (i+1)=O2 i/\((Cl ops (Mr f0 (C1 ops) vals (λ_=>true) i) o=false/\vals i=.sc undef)\/(Cl ops (Mr f0 (C1 ops) vals (λ_=>true) i) o=true/\∃z,JF P e=some z/\rk ops i < nh/\vals i=.ptr (cx0.C6.length+rk ops i) 0/\∀k,k<=ops.size->Win ops i k->(O2 k).get (cx0.C6.length+rk ops i)=some (.cells (cellsOf z)))))
   (Q:Exit->Act->World->Prop) (hQ:∀e' a' w',Xx G cx0 w0 .normal (Mr f0 (C1 ops) vals (λ_=>true) ops.size) (O2 ops.size) e' a' w'->Q e' a' w') :
   ∀(ZQ:Nat) (L:Array Bool) (a:Act) (w:World),Inv G ops f0 vals O2 cx0 w0 nh L a w->JS (λj=>L.getD j false) ops.size=ZQ->wpAny P .any ops Q ZQ L a w:=by
 have hqs:∀i o,ops[i]?=some o->calm o.op=true->O2 (i+1)=O2 i:=λi o h1 h2=>by
   rcases WN h2 with h2 | ⟨e,h2⟩
   exact(hq i o h1 h2).1;exact(ha i o e h1 h2).1
 have fin:∀(L:Array Bool) (a:Act) (w:World),Inv G ops f0 vals O2 cx0 w0 nh L a w->(∀i,i < ops.size->L.getD i false=true)->Q .normal a w:=by
   intro L a w hI HP;obtain⟨c,k,hk,hlk,hx,HK,YR,_⟩:=hI.st;have arW:O2 k=O2 ops.size:=fO hqs ops.size hk (Nat.le_refl _) (λm h1 h2 hm=>by have:=(hlk m hm).1 (HP m h2);omega);rw[arW] at HK;refine hQ _ _ _ ⟨c,hx,HK,hI.defers,rfl,?_⟩
   have:Mr f0 (C1 ops) vals (λj=>L.getD j false) ops.size=Mr f0 (C1 ops) vals (λ_=>true) ops.size:=by
     apply List.ext_getElem?;intro t;exact iP ops.size (λi hi _=>HP i hi)
   rw[<- this];exact YR
 intro ZQ
 induction ZQ with
 | zero =>
   intro L a w hI hc;have HP:=adl ops.size hc;refine⟨?_,fin L a w hI HP⟩;apply List.eq_nil_iff_forall_not_mem.2;intro i hi;obtain⟨o,ho,h1,_,IJ⟩:=mem_ready hI.size hi;have:=HP i IJ;rw[h1] at this;cases this
 | succ ZQ ih =>
   intro L a w hI at6;refine⟨λxX=>fin L a w hI (λi=>?_),λi hi=>?_⟩
   induction i using Nat.strongRecOn with
   | _ i ihi =>
     intro IJ;cases hLi:L.getD i false with
     | true=>rfl
     | false =>
       exfalso;have ho:ops[i]?=some (ops[i]'IJ):=Array.getElem?_eq_getElem IJ
       have:=ad4 hI.size ho hLi (λe he hb=>by
         have h1:=aei Jn ho he hb;exact ihi e.on h1 (by omega))
       rw[xX] at this;cases this
   obtain⟨o,ho,hLi,abD,IJ⟩:=mem_ready hI.size hi;obtain⟨c,k,hk,hlk,hx,HK,YR,xD⟩:=hI.st
   have hMi:(L.setIfInBounds i true).getD i false=true:=by
     have:i < L.size:=by rw[hI.size];exact IJ
     simp[this]
   have hMn:∀j,j≠i->(L.setIfInBounds i true).getD j false=L.getD j false:=by
     intro j hj;simp only[Array.getD_eq_getD_getElem?];rw[Array.getElem?_setIfInBounds_ne (λe=>hj e.symm)]
   have hle:∀j,L.getD j false=true->(L.setIfInBounds i true).getD j false=true:=by
     intro j hj;by_cases e:j=i;subst e;exact hMi;rw[hMn j e];exact hj
   have aed:TJ ops.toList (λj=>(L.setIfInBounds i true).getD j false):=by
     intro j y hy hj e he hb;by_cases ej:j=i;subst ej;rw[BI ho] at hy;cases hy;exact hle _ (abD e he hb);have sG:L.getD j false=true:=by rw[<- hMn j ej];exact hj
     exact hle _ (hI.closed j y hy sG e he hb)
   have aq1:JS (λj=>(L.setIfInBounds i true).getD j false) ops.size=ZQ:=by
     have:=(agt (L:=λj=>L.getD j false) (M:=λj=>(L.setIfInBounds i true).getD j false) hLi hMi hMn ops.size).1 IJ;omega
   have ash:=aib (f0:=f0) (vals:=vals) (L:=λj=>L.getD j false) (M:=λj=>(L.setIfInBounds i true).getD j false) Jn hI.closed ho hLi hMi hMn
   have ajM:∀(k':Nat) (u:Value) (w':World) (c':Cx),k'<=ops.size->(∀l,Zc ops l->((L.setIfInBounds i true).getD l false=true↔l < k'))->Ext cx0 w0 c' w'->Mon c w c' w' ->
       (∀j y,ops[j]?=some y->BG y.op=true->(L.setIfInBounds i true).getD j false=false->rk ops j < nh->c'.C6[cx0.C6.length+rk ops j]?=some none)->St G c' w' (O2 k')->Rp c' w' (vals i) u->wpAny P .any ops Q ZQ (L.setIfInBounds i true) (a.put o.dst u) w':=by
     intro k' u w' c' hk' oS qO hm' hh' TA hu;refine ih _ _ _ ⟨by simp[hI.size],aed,⟨c',k',hk',oS,qO,TA,?_,hh'⟩,by cases o.dst<;>exact hI.defers⟩ aq1
     rw[ash];exact aaf (YR.He hm') hu
   have step:∀(k':Nat) (u:Value) (w':World) (c':Cx),k'<=ops.size->(∀l,Zc ops l->((L.setIfInBounds i true).getD l false=true↔l < k'))->Ext c w c' w'->St G c' w' (O2 k')->Rp c' w' (vals i) u->wpAny P .any ops Q ZQ (L.setIfInBounds i true) (a.put o.dst u) w':=by
     intro k' u w' c' hk' oS qO TA hu;refine ajM k' u w' c' hk' oS (hx.trans qO) qO.mon (λj y hy YY hj hjn=>?_) TA hu;have hji:j≠i:=λe=>by subst e;rw[hMi] at hj;cases hj
     rw[hMn j hji] at hj;exact qO.anN (xD j y hy YY hj hjn)
   have ajR:∀x∈o.op.operands,oX G c w (Mr f0 (C1 ops) vals (λ_=>true) i) a.eval x:=by
     intro x hxo v hv;cases x with
     | tmp t =>
       have aq7:t∈o.looksAt ops:=by
         unfold Oper.looksAt;rw[List.mem_append];left;rw[List.mem_filterMap];exact⟨.tmp t,Array.mem_toList_iff.2 hxo,rfl⟩
       have he:=lL (f0:=f0) (vals:=vals) Jn hI.closed ho hLi abD aq7
       have:Bp G (Mr f0 (C1 ops) vals (λj=>L.getD j false) ops.size) (.tmp t)=some v:=by
         rw[<- hv];simp only[Bp,List.getD_eq_getElem?_getD,he]
       exact QU HK YR this
     | const z=>exact QU (fr:=Mr f0 (C1 ops) vals (λj=>L.getD j false) ops.size) HK YR hv
     | global g=>exact QU (fr:=Mr f0 (C1 ops) vals (λj=>L.getD j false) ops.size) HK YR hv
     | func f=>exact QU (fr:=Mr f0 (C1 ops) vals (λj=>L.getD j false) ops.size) HK YR hv
   have uC:Cl ops (Mr f0 (C1 ops) vals (λ_=>true) i) o=Region.wanted o (yielded ops a.tmps):=by
     refine WA (c:=c) (w:=w) (λj want hg d hd=>⟨_,YR,?_⟩);refine lL Jn hI.closed ho hLi abD ?_;unfold Oper.looksAt;rw[List.mem_append];right;rw[hg];simp[hd]
   have ahq:Uo P ops o (wpAny P .any ops Q ZQ (L.setIfInBounds i true)) Q a w->wpOp P ops Q i (wpAny P .any ops Q ZQ (L.setIfInBounds i true)) a w:=by
     intro h;unfold wpOp;rw[ho];unfold Uo at h;simp only;split;rename_i hw;rw[if_pos hw] at h;exact .inl h;rename_i hw;rw[if_neg hw] at h;exact h
   refine ahq ?_;cases hqo:calm o.op with
   | false =>
     have hki:O2 k=O2 i:=by
       rcases Nat.le_total k i with alZ | alZ
       exact fO hqs i alZ (by omega) (λm h1 h2 hm=>by
         obtain⟨y,hy,vC⟩:=hm;have:=Zx Jn hI.closed hy ho abD h2 (aaE vC hqo);have:=(hlk m ⟨y,hy,vC⟩).1 this;omega)
       exact(fO hqs k alZ hk (λm h1 h2 hm=>by
         obtain⟨y,hy,vC⟩:=hm;have hLm:=(hlk m ⟨y,hy,vC⟩).2 h2;by_cases e:m=i;subst e;rw[hLi] at hLm;cases hLm;have:=S7 Jn hI.closed ho hy hLi (by omega) (aaE hqo vC);rw[this] at hLm;cases hLm)).symm
     rw[hki] at HK;refine hl i o ho hqo c w a _ _ HK ajR uC ?_;intro u w' c' qO TA hu;refine step (i+1) u w' c' (by omega) (λl hl'=>?_) qO TA hu;by_cases e:l=i;subst e;rw[hMi];simp;rw[hMn l e,hlk l hl'];obtain⟨y,hy,vC⟩:=hl';constructor;intro arn;have hLl:=(hlk l ⟨y,hy,vC⟩).2 arn;rcases Nat.lt_or_ge l i with h1 | h1
     omega;have:=S7 Jn hI.closed ho hy hLi (by omega) (aaE hqo vC);rw[this] at hLl;cases hLl;intro arn;have:=Zx Jn hI.closed hy ho abD (by omega) (aaE vC hqo);exact(hlk l ⟨y,hy,vC⟩).1 this
   | true =>
     have oS:∀l,Zc ops l->((L.setIfInBounds i true).getD l false=true↔l < k):=by
       intro l hl'
       have KS:l≠i:=by
         intro e;subst e;obtain⟨y,hy,vC⟩:=hl';rw[ho] at hy;cases hy;rw[hqo] at vC;cases vC
       rw[hMn l KS];exact hlk l hl'
     have XV:Win ops i k:=by
       refine⟨λl hl' hd=>?_,λl hl' hd=>?_⟩;exact(hlk l hl').1 (qD hI.closed (BI ho) abD hd);rcases Nat.lt_or_ge l k with h1 | h1
       exfalso;have hLl:=(hlk l hl').2 h1;obtain⟨y,hy,vC⟩:=hl';have:=qD hI.closed (BI hy) (hI.closed l y (BI hy) hLl) hd;rw[hLi] at this;cases this;exact h1
     unfold Uo;rcases WN hqo with hqo | ⟨e,hoe⟩
     obtain⟨_,VZ⟩:=hq i o ho hqo;rcases VZ with ⟨hw,hv⟩ | ⟨hw,hv⟩
     rw[<- uC,hw];simp only[Bool.false_eq_true,if_false];exact step k undef w c hk oS (Ext.refl c w) HK (by rw[hv];exact .sc rfl);rw[<- uC,hw];simp only[if_true];have api:=mT HK ajR (λ_=>rfl) (hv k hk XV);obtain⟨u,w',c',hr,qO,TA,hu⟩:=api;unfold Oper.wp;rcases hr with hr | ⟨hr,rfl⟩
     rw[hr];exact step k u w' c' hk oS qO TA hu;rw[hr];exact step k undef w' c' hk oS qO TA hu;obtain⟨_,VZ⟩:=ha i o e ho hoe;rcases VZ with ⟨hw,hv⟩ | ⟨hw,z,hz,hrk,hv,aqf⟩
     rw[<- uC,hw];simp only[Bool.false_eq_true,if_false];exact step k undef w c hk oS (Ext.refl c w) HK (by rw[hv];exact .sc rfl);rw[<- uC,hw];simp only[if_true];have hia:BG o.op=true:=by rw[hoe];rfl
     obtain⟨u,w',c',hr,hm',TA,hu,asG,atC⟩:=xS (ρ:=a.eval) HK hoe hz (xD i o ho hia hLi hrk) (aqf k hk XV);unfold Oper.wp;rw[hr];refine ajM k u w' c' hk oS (asG cx0 w0 hx (by omega)) hm' (λj y hy YY hj hjn=>?_) TA (by rw[hv];exact hu);have hji:j≠i:=λe=>by subst e;rw[hMi] at hj;cases hj
     rw[hMn j hji] at hj;have KS:rk ops j≠rk ops i:=λe=>hji (akF hy ho YY hia e);rw[atC _ (by omega)];exact xD j y hy YY hj hjn
end
end AI
namespace AI
open Go Go.RowKit
def aaZ{G:Bh}{c:Cx}{w:World}{s:AS}{fr:List AV}{a:Act}(hs:St G c w s)(hf:C8 c w fr a.tmps.toList)(x:Operand):oX G c w fr a.eval x:=λ_ hv=>QU hs hf hv
def kA{P:Program}{ops:Array Oper}{o:Oper}{i:Nat}{l:List Nat}{Q:Exit->Act->World->Prop}{a:Act}{w:World}(ho:ops[i]?=some o)(h:Uo P ops o (wpOps P ops Q l) Q a w):wpOps P ops Q (i::l) a w:=by
 unfold wpOps;rw[ho];unfold Uo at h;simp only;split;rename_i hw;rw[if_pos hw] at h;exact .inl h;rename_i hw;rw[if_neg hw] at h;exact h
def Xx.mI{G:Bh}{c:Cx}{w:World}{e:AX}{Cm:List AV}{s':AS}{e':Exit}{a':Act}{w':World}(h:Xx G c w e Cm s' e' a' w')(he:e≠.normal):e'≠.normal:=by
 obtain⟨c',_,_,_,h4⟩:=h;cases e with
 | normal=>exact absurd rfl he
 | exit id=>intro h5;rw[h4.1] at h5;cases h5
 | ret=>intro h5;rw[h4.1] at h5;cases h5
 | Mq v=>obtain⟨u,h5,_⟩:=h4;intro h6;rw[h5] at h6;cases h6
def sQ{K:Act->World->Prop}{Q:Exit->Act->World->Prop}{e:Exit}{a:Act}{w:World}(he:e≠.normal)(h:Q e a w):Exit.then K Q e a w:=by
 cases e<;>first | exact absurd rfl he | exact h
structure rO(P:Program)(G:Bh)(X:W5)(H:SS):Prop where
 mixed:P.follows .mixedOrders=true
 ext:∀f args s r s',X f args s r s'->Sound P G (.call f args s r s')
 aiV:∀f args g Yj k,H f args=some (g,Yj,k)->∀s r s' r',Sound P G (.call g Yj s r s')->k r=some r'->Sound P G (.call f args s r' s')
def sound{P:Program}{G:Bh}{X:W5}{H:SS}(hg:rO P G X H){jd:Jd}(h:J P G X H jd):Sound P G jd:=by
 induction h with
 | aok hw _ ih=>intro cx w a Q hs hf hd hQ;obtain⟨c2,x,h1,h2⟩:=hw cx w _ hs hf;exact ih c2 w a Q h1 h2 hd (λe a w hp=>hQ e a w (hp.ext x))
 | ako hw _ ih=>obtain⟨n,ih⟩:=ih;exact⟨n,λcx w a Q hs hf hd hQ=>by obtain⟨c2,x,h1,h2⟩:=hw cx w _ hs hf;exact ih c2 w a Q h1 h2 hd (λe a w hp=>hQ e a w (hp.ext x))⟩
 | vJ _ _ hv ih =>
   intro cx w a K Q hs Kd hwa hK;exact ih cx w a K Q hs Kd hwa (λu w' c' x st hu=>hK u w' c' x st (hv _ _ _ hu))
 | pV _ _ hv ih =>
   intro cx w a K Q hs Kd hwa hK;exact ih cx w a K Q hs Kd hwa (λu w' c' x st hu=>hK u w' c' x (hv _ _ st) hu)
 | @scope c fr I0 Cm s s2 s' e _ he hsc ih =>
   intro cx w a Q hs hf hd hQ;refine ih cx w a Q hs hf hd ?_;rintro e' a' w' ⟨c',hx,DC,kT,h4⟩;cases e with
   | normal=>obtain⟨rfl,h5⟩:=h4;obtain⟨c2,x2,YU,f2⟩:=hsc cx w c' w' _ hx hs DC h5;exact hQ _ _ _ ⟨c2,x2,YU,kT,rfl,f2⟩
   | exit id=>obtain⟨rfl,h5⟩:=h4;obtain⟨c2,x2,YU,f2⟩:=hsc cx w c' w' _ hx hs DC h5;exact hQ _ _ _ ⟨c2,x2,YU,kT,rfl,f2⟩
   | ret=>obtain⟨rfl,h5⟩:=h4;obtain⟨c2,x2,YU,f2⟩:=hsc cx w c' w' _ hx hs DC h5;exact hQ _ _ _ ⟨c2,x2,YU,kT,rfl,f2⟩
   | Mq v=>exact absurd rfl (he v)
 | skip=>intro cx w a Q hs hf hd hQ;exact wp_skip (hQ _ _ _ ⟨cx,Ext.refl _ _,hs,hd,rfl,hf⟩)
 | exit=>intro cx w a Q hs hf hd hQ;exact wp_exit (hQ _ _ _ ⟨cx,Ext.refl _ _,hs,hd,rfl,hf⟩)
 | ret=>intro cx w a Q hs hf hd hQ;exact wp_ret (hQ _ _ _ ⟨cx,Ext.refl _ _,hs,hd,rfl,hf⟩)
 | seq _ _ v9 ih2 =>
   intro cx w a Q hs hf hd hQ;refine wp_seq (v9 cx w a _ hs hf hd ?_);rintro e' a' w' ⟨c',hx,DC,kT,rfl,hf'⟩;exact ih2 c' w' a' Q DC hf' kT (λe2 a2 w2 h2=>hQ e2 a2 w2 (h2.ext hx))
 | jK _ he v9 =>
   intro cx w a Q hs hf hd hQ;refine wp_seq (v9 cx w a _ hs hf hd ?_);intro e' a' w' hp;exact sQ (hp.mI he) (hQ _ _ _ hp)
 | @cond q x y t fr Cm s s' e hq _ ih =>
   intro cx w a Q hs hf hd hQ;have hr:=QU hs hf hq
   have Kd:a.eval q=.bool t:=by
     generalize a.eval q=v at hr;cases hr;rfl
   exact wp_cond Kd (ih cx w a Q hs hf hd hQ)
 | @block id c fr Cm s s' e _ ih =>
   intro cx w a Q hs hf hd hQ;refine wp_block (ih cx w a _ hs hf hd ?_);rintro e' a' w' ⟨c',hx,DC,kT,h4⟩;cases e with
   | normal=>obtain⟨rfl,h5⟩:=h4;exact hQ _ _ _ ⟨c',hx,DC,kT,rfl,h5⟩
   | exit TY =>
     obtain⟨rfl,h5⟩:=h4;show if TY=id then Q .normal a' w' else Q (.exit TY) a' w'
     by_cases hid:TY=id;rw[if_pos hid];refine hQ _ _ _ ⟨c',hx,DC,kT,?_⟩;simp only[Gk,hid,if_true];exact⟨trivial,h5⟩;rw[if_neg hid];refine hQ _ _ _ ⟨c',hx,DC,kT,?_⟩;simp only[Gk,hid,if_false];exact⟨trivial,h5⟩
   | ret=>obtain⟨rfl,h5⟩:=h4;exact hQ _ _ _ ⟨c',hx,DC,kT,rfl,h5⟩
   | Mq v=>obtain⟨u,rfl,h5⟩:=h4;exact hQ _ _ _ ⟨c',hx,DC,kT,u,rfl,h5⟩
 | loop _ ih =>
   intro cx w a Q hs hf hd hQ;obtain⟨n,hn⟩:=ih;exact wp_loop_rounds n (hn cx w a Q hs hf hd hQ)
 | aeQ _ _ v9 ih2 =>
   obtain⟨n,hn⟩:=ih2;refine⟨n+1,?_⟩;intro cx w a Q hs hf hd hQ;rw[rounds_succ];refine v9 cx w a _ hs hf hd ?_;rintro e' a' w' ⟨c',hx,DC,kT,rfl,hf'⟩;exact hn c' w' a' Q DC hf' kT (λe2 a2 w2 h2=>hQ e2 a2 w2 (h2.ext hx))
 | cZ _ he v9 =>
   refine⟨1,?_⟩;intro cx w a Q hs hf hd hQ;rw[rounds_succ];refine v9 cx w a _ hs hf hd ?_;intro e' a' w' hp;exact sQ (hp.mI he) (hQ _ _ _ hp)
 | region _ ih =>
   intro cx w a Q hs hf hd hQ;exact wp_region (ih cx w a Q hs hf hd hQ)
 | xZ=>intro cx w a Q hs hf hd hQ;exact hQ _ _ _ ⟨cx,Ext.refl _ _,hs,hd,rfl,hf⟩
 | @oZ ops i l o v fr Cm s s1 s' e ho _ _ v9 ih2 =>
   intro cx w a Q hs hf hd hQ;refine kA ho (v9 cx w a _ _ hs (λx _=>aaZ hs hf x) (WA (c:=cx) (w:=w) (λ_ _ _ _ _=>⟨fr,hf,rfl⟩)) ?_);intro u w' c' hx DC hu;exact ih2 c' w' (a.put o.dst u) Q DC (aaf (hf.mono hx) hu) (by cases o.dst<;>exact hd) (λe2 a2 w2 h2=>hQ e2 a2 w2 (h2.ext hx))
 | @vN ops i l o v fr s s1 ho _ v9 =>
   intro cx w a Q hs hf hd hQ;refine kA ho (v9 cx w a _ _ hs (λx _=>aaZ hs hf x) (WA (c:=cx) (w:=w) (λ_ _ _ _ _=>⟨fr,hf,rfl⟩)) ?_);intro u w' c' hx DC hu;exact hQ _ _ _ ⟨c',hx,DC,hd,u,rfl,hu⟩
 | @RD ops o fr s s' v hw h =>
   intro cx w a K Q hs Kd hwa hK;unfold Uo;rw[<- hwa,hw];simp only[if_true];obtain⟨u,w',c',hr,hx,DC,hu⟩:=mT hs Kd (λ_=>rfl) h;unfold Oper.wp;rcases hr with hr | ⟨hr,rfl⟩
   rw[hr];exact hK u w' c' hx DC hu;rw[hr];exact hK undef w' c' hx DC hu
 | @afr ops o fr s s' cl x y t tx a b v hw ho Iv hxs hts ha hb h =>
   intro cx w ac K Q hs Kd hwa hK;unfold Uo;rw[<- hwa,hw];simp only[if_true];have e1:cl.args=#[x,y]:=by apply Array.ext';rw[hxs]
   have e2:cl.argTypes=#[t,tx]:=by apply Array.ext';rw[hts]
   have iZ:∀z∈[x,y],z∈o.op.operands:=λz hz=>by rw[ho];simp only[Op.operands,Call.operands,e1,Array.mem_append];exact .inr (by simpa using hz)
   obtain⟨u,w',c',hr,hx,DC,hu⟩:=h cx w _ _ o.type hs (Kd x (iZ x (by simp)) a ha) (Kd y (iZ y (by simp)) b hb);unfold Oper.wp
   have uW:(execOp ac.eval o).run P w=.ok (.value u) w':=by
     simp[execOp,ho,resolve,Iv,e1,e2,invoke,builtin,hr]
   rw[uW];exact hK u w' c' hx DC hu
 | @nF ops o fr s hw =>
   intro cx w a K Q hs Kd hwa hK;unfold Uo;rw[<- hwa,hw];simp only[Bool.false_eq_true,if_false];exact hK undef w cx (Ext.refl _ _) hs (.sc rfl)
 | @S1 ops o fr s s' f args r hw h _ ih =>
   intro cx w a K Q hs Kd hwa hK;unfold Uo;rw[<- hwa,hw];simp only[if_true];obtain⟨vs,hr,G6⟩:=mT hs Kd (λ_=>rfl) h;unfold Oper.wp;rw[hr];refine(ih cx w vs hs G6).mono ?_;rintro e w' ⟨c',hx,DC,h4⟩;cases r with
   | ret v=>obtain⟨u,rfl,hu⟩:=h4;exact hK u w' c' hx DC hu
   | Mq v=>obtain⟨u,rfl,hu⟩:=h4;exact hK u w' c' hx DC hu
 | @afg ops o fr s v hw h =>
   intro cx w a K Q hs Kd hwa hK;unfold Uo;rw[<- hwa,hw];simp only[if_true];obtain⟨u,hr,hu⟩:=mT hs Kd (λ_=>rfl) h;unfold Oper.wp;rw[hr];exact hK u w cx (Ext.refl _ _) hs hu
 | @draw id ops f0 s0 rs vals O2 h0 Jn hl hq ha ihl =>
   intro cx w a Q hs hf hd hQ;refine wp_region_any hg.mixed ?_;obtain⟨x,st⟩:=hs.same (afJ w);obtain⟨c2,x2,YU,aT⟩:=st.holds rs;rw[<- h0] at YU;rw[hs.len] at ha;refine afM (nh:=rs.length) Jn ihl hq cx w ha Q hQ ops.size _ a _ ⟨by simp,?_,⟨c2,0,Nat.zero_le _,?_,x.trans x2,YU,?_,?_⟩,hd⟩ ?_;intro i o ho hL;exfalso;simp only[Array.getD_eq_getD_getElem?,Array.getElem?_replicate] at hL;split at hL<;>simp at hL
   intro l _;simp only[Array.getD_eq_getD_getElem?,Array.getElem?_replicate];split<;>simp
   have:Mr f0 (C1 ops) vals (λj=>(Array.replicate ops.size false).getD j false) ops.size=f0:=by
     have key:∀n,Mr f0 (C1 ops) vals (λj=>(Array.replicate ops.size false).getD j false) n=f0:=by
       intro n
       induction n with
       | zero=>rfl
       | succ n ih =>
         simp only[Mr,ih];rw[if_neg];simp only[Array.getD_eq_getD_getElem?,Array.getElem?_replicate];split<;>simp
     exact key _
   rw[this];exact hf.mono (x.trans x2);intro j y _ _ _ hj;rw[aT,List.getElem?_append_right (by omega)];simp[List.getElem?_replicate];omega
   have key:∀n,JS (λj=>(Array.replicate ops.size false).getD j false) n=n:=by
     intro n
     induction n with
     | zero=>rfl
     | succ n ih =>
       simp only[JS,ih]
       have:(Array.replicate ops.size false).getD n false=false:=by
         simp only[Array.getD_eq_getD_getElem?,Array.getElem?_replicate];split<;>simp
       simp only[this];simp
   exact key _
 | @body f fn c args Cm s s' s2 e v hf hb _ he hr hk ih =>
   intro cx w vs hs G6;have hl:=G6.len;refine calls_of_wp hf hb (ih cx w _ _ hs ?_ rfl ?_);simp only[Array.toList_append,Array.toList_replicate];rw[List.size_toArray,hl];exact G6.append (C8.replicate (.sc rfl) _);rintro e' a' w' ⟨c',hx,DC,kT,h4⟩
   have hs2:St G c' w' s2:=by
     rcases hk with rfl | rfl
     exact DC.cut _;exact DC
   rcases he with rfl | rfl
   obtain⟨rfl,h5⟩:=h4;obtain⟨u,h6,h7⟩:=Z7 DC h5 hr;exact⟨kT,u,h6,c',hx,hs2,u,rfl,h7⟩;obtain⟨rfl,h5⟩:=h4;obtain⟨u,h6,h7⟩:=Z7 DC h5 hr;exact⟨kT,u,h6,c',hx,hs2,u,rfl,h7⟩
 | @N5 f fn c args Cm s s' v hf hb _ ih =>
   intro cx w vs hs G6;have hl:=G6.len;refine calls_of_wp hf hb (ih cx w _ _ hs ?_ rfl ?_);simp only[Array.toList_append,Array.toList_replicate];rw[List.size_toArray,hl];exact G6.append (C8.replicate (.sc rfl) _);rintro e' a' w' ⟨c',hx,DC,kT,u,rfl,h5⟩;exact⟨kT,c',hx,DC.cut _,u,rfl,h5⟩
 | ext h=>exact hg.ext _ _ _ _ _ h
 | aiV hh _ hk ih=>exact hg.aiV _ _ _ _ _ hh _ _ _ _ ih hk
end AI
namespace AI
open Go Go.RowKit
def aji:Value->Value->Bool
 | .int k a,.int k' b=>k == k'&&a == b
 | .bool a,.bool b=>a == b
 | .string a,.string b=>a.data.toList == b.data.toList
 | .nilIface,.nilIface=>true
 | .nilFunc,.nilFunc=>true
 | .pointer none,.pointer none=>true
 | .map none,.map none=>true
 | .tuple a,.tuple b=>a.size == 0&&b.size == 0
 | _,_=>false
def zR{a b:Value}(h:aji a b=true):a=b:=by
 unfold aji at h;split at h;simp at h;rw[h.1,h.2];simp at h;rw[h];simp only[beq_iff_eq] at h;rename_i x y;have:x=y:=ByteArray.ext (Array.ext' h);rw[this];rfl;rfl;rfl;rfl;rename_i x y;simp at h;rw[h.1,h.2];cases h
mutual
def WV:AV->AV->Bool
 | .sc a,.sc b=>aji a b
 | .agg a,.agg b=>dL a b
 | .Bj a,.Bj b=>dL a b
 | .sl o n a,.sl p m b=>decide (o=p)&&n == m&&dL a b
 | .G2 a b c,.G2 x y z=>a == x&&b == y&&c == z
 | .el a,.el b=>dL a b
 | .ptr a b,.ptr x y=>a == x&&b == y
 | .fn f a b,.fn g x y=>decide (f=g)&&dL a x&&dL b y
 | .TW t a,.TW u b=>t == u&&WV a b
 | .mp a,.mp b=>a == b
 | _,_=>false
def dL:List AV->List AV->Bool
 | [],[]=>true
 | a::as,b::bs=>WV a b&&dL as bs
 | _,_=>false
end
mutual
def m1:∀{a b:AV},WV a b=true->a=b
 | .sc a,b,h=>by cases b<;>simp[WV] at h;rw[zR h]
 | .agg a,b,h=>by cases b<;>simp[WV] at h;rw[Re h]
 | .Bj a,b,h=>by cases b<;>simp[WV] at h;rw[Re h]
 | .sl o n a,b,h=>by cases b<;>simp[WV] at h;rw[h.1.1,h.1.2,Re h.2]
 | .G2 _ _ _,b,h=>by cases b<;>simp[WV] at h;rw[h.1.1,h.1.2,h.2]
 | .el a,b,h=>by cases b<;>simp[WV] at h;rw[Re h]
 | .ptr _ _,b,h=>by cases b<;>simp[WV] at h;rw[h.1,h.2]
 | .fn f a c,b,h=>by cases b<;>simp[WV] at h;rw[h.1.1,Re h.1.2,Re h.2]
 | .TW t a,b,h=>by cases b<;>simp[WV] at h;rw[h.1,m1 h.2]
 | .mp _,b,h=>by cases b<;>simp[WV] at h;rw[h]
 | .any,b,h=>by cases b<;>simp[WV] at h
def Re:∀{a b:List AV},dL a b=true->a=b
 | [],b,h=>by cases b<;>simp[dL] at h;rfl
 | a::as,b,h=>by cases b<;>simp[dL] at h;rw[m1 h.1,Re h.2]
end
def reads:Op->Bool
 | .load .. | .lookup ..=>true
 | .call cl=>(match cl.callee with
   | .builtin .len=>true
   | _=>false)
 | _=>false
def Vo{P:Program}{G:Bh}{fr:List AV}{s:AS}{o:Oper}{r:AR}(hq:quiet o.op=true)(h:SW P G fr s o=some r):∃v,r=.val v s:=by
 unfold SW at h;split at h<;>rename_i ho<;>(try (rw[ho] at hq;simp[quiet] at hq;done))
 all_goals first
   | (obtain⟨v,_,rfl⟩:=map_some h;exact⟨_,rfl⟩)
   | (split at h
      all_goals first
        | (obtain⟨v,_,rfl⟩:=map_some h;exact⟨_,rfl⟩)
        | (cases h;done)
        | (cases h;exact⟨_,rfl⟩)
        | (split at h
           all_goals first
             | (cases h;done)
             | (cases h;exact⟨_,rfl⟩)))
   | (obtain⟨_,_,h2⟩:=bind_some h;obtain⟨v,_,rfl⟩:=map_some h2;exact⟨_,rfl⟩)
   | (rw[ho] at hq
      unfold VT at h;split at h
      all_goals first
        | (obtain⟨_,_,h2⟩:=bind_some h;obtain⟨v,_,rfl⟩:=map_some h2;exact⟨_,rfl⟩)
        | (rename_i Iv;simp[quiet,Iv] at hq;done)
        | (split at h
           all_goals first
             | (obtain⟨v,_,rfl⟩:=map_some h;exact⟨_,rfl⟩)
             | (cases h;done))
        | (cases h;done))
   | (cases h;done)
def S2{P:Program}{G:Bh}{fr:List AV}{s:AS}{o:Oper}{v:AV}{s':AS}(hq:quiet o.op=true)(hr:reads o.op=false)(h:SW P G fr s o=some (.val v s'))(s2:AS):SW P G fr s2 o=some (.val v s2):=by
 have e:=Vo hq h;obtain⟨v',e⟩:=e;injection e with e1 e2
 subst e1 e2;obtain⟨dst,op,ty,pos,after,guard⟩:=o;cases op<;>simp only[quiet,reads,Bool.false_eq_true] at hq hr<;>simp only[SW] at h ⊢
 all_goals first
   | (obtain⟨v',h1,h2⟩:=map_some h;injection h2 with h2;subst h2;rw[h1];rfl)
   | (obtain⟨q,h0,h2⟩:=bind_some h;obtain⟨v',h1,h3⟩:=map_some h2;injection h3 with h3;subst h3;rw[h0,Option.bind_some,h1];rfl)
   | (split at h
      all_goals first
        | (obtain⟨v',h1,h2⟩:=map_some h;injection h2 with h2;subst h2;simp only[*,Option.map_some];done)
        | (cases h;done)
        | (cases h;simp only[*];done)
        | (split at h
           all_goals first
             | (cases h;done)
             | (cases h;simp[*];done)))
   | (cases hr;done)
   | (rename_i cl
      unfold VT at h ⊢;split at h
      all_goals first
        | (rename_i Iv;simp[Iv] at hr;done)
        | (rename_i Iv;simp[Iv] at hq;done)
        | (simp only;obtain⟨q,h0,h2⟩:=bind_some h;obtain⟨v',h1,h3⟩:=map_some h2;injection h3 with h3;subst h3;rw[h0,Option.bind_some,h1];rfl)
        | (cases h;done))
end AI
namespace AI
open Go Go.RowKit
inductive Tk where
 | code (c:Code) (fr:List AV) (s:AS)
 | loop (c:Code) (fr:List AV) (s:AS)
 | ops (ops:Array Oper) (l:List Oper) (fr:List AV) (s:AS)
 | draw (ops:Array Oper) (l:List Oper) (fr:List AV) (s:AS) (q:Nat)
 | op (ops:Array Oper) (o:Oper) (fr:List AV) (s:AS)
 | call (f:FuncId) (args:List AV) (s:AS)
inductive Rs where
 | code (e:AX) (fr:List AV) (s:AS)
 | call (r:CR) (s:AS)
 | tr (l:List (List AV×AS×AV)) (fr:List AV) (s:AS)
abbrev Z5:=FuncId->List AV->AS->Option (CR×AS)
def KY:List Oper->Nat->List Nat
 | [],_=>[]
 | o::os,i=>if calm o.op then KY os (i+1) else i::KY os (i+1)
def abk(ms:List Nat)(ls:List Nat)(i k:Nat):Bool:=ls.all λl=>(!YV ms i l||decide (l < k))&&(!YV ms l i||decide (k<=l))
def Yp(P:Program)(G:Bh)(ms ls:List Nat)(i:Nat)(o:Oper)(fr:List AV)(v:AV):List AS->Nat->Bool
 | [],_=>true
 | s::ss,k=>(!abk ms ls i k||(match SW P G fr s o with
     | some (.val u _)=>WV u v
     | _=>false))&&Yp P G ms ls i o fr v ss (k+1)
def cI(P:Program)(G:Bh)(ops:Array Oper)(ms ls:List Nat)(O2:List AS):List Oper->List (List AV×AS×AV)->Nat->Bool
 | o::os,t::ts,i=>(!(quiet o.op&&reads o.op)||!Cl ops t.1 o||Yp P G ms ls i o t.1 t.2.2 O2 0)&&cI P G ops ms ls O2 os ts (i+1)
 | _,_,_=>true
def gL(ms ls:List Nat)(i id:Nat)(cs:List AV):List AS->Nat->Bool
 | [],_=>true
 | s::ss,k=>(!abk ms ls i k||(match s.get id with
     | some (.cells ds)=>dL ds cs
     | _=>false))&&gL ms ls i id cs ss (k+1)
def UT(P:Program)(ops:Array Oper)(ms ls:List Nat)(O2:List AS):List Oper->List (List AV×AS×AV)->Nat->Nat->Bool
 | o::os,t::ts,i,q=>(match o.op with
   | .alloc e=>(!Cl ops t.1 o||(match JF P e with
     | some z=>gL ms ls i q (cellsOf z) O2 0
     | none=>false))&&UT P ops ms ls O2 os ts (i+1) (q+1)
   | _=>UT P ops ms ls O2 os ts (i+1) q)
 | _,_,_,_=>true
def rsv(P:Program):List Oper->Option (List Bb)
 | []=>some []
 | o::l=>(match o.op with
   | .alloc e=>(match JF P e,rsv P l with
     | some z,some r=>some (.cells (cellsOf z)::r)
     | _,_=>none)
   | _=>rsv P l)
def oM(P:Program)(G:Bh)(ops:Array Oper)(tr:List (List AV×AS×AV))(sf:AS):Bool :=
 match KY ops.toList 0 with
 | []=>true
 | ls=>cI P G ops (LS ops.toList []) ls (tr.map (·.2.1)++[sf]) ops.toList tr 0
def Vt(P:Program)(ops:Array Oper)(tr:List (List AV×AS×AV))(sf:AS)(q:Nat):List Bb->Bool
 | []=>true
 | _=>UT P ops (LS ops.toList []) (KY ops.toList 0) (tr.map (·.2.1)++[sf]) ops.toList tr 0 q
def dO(P:Program)(G:Bh)(ops:Array Oper)(tr:List (List AV×AS×AV))(sf:AS)(q:Nat)(r:List Bb):Bool :=
 match oM P G ops tr sf with
 | true=>Vt P ops tr sf q r
 | false=>false
def ars:AV->Bool
 | .ptr _ _ | .G2 _ _ _ | .mp _ | .fn _ _ _=>true
 | _=>false
def aoC:List AV->Bool
 | []=>false
 | a::l=>match ars a with
   | true=>true
   | false=>aoC l
def esc:AV->Bool
 | .agg l=>aoC l
 | .Bj l=>aoC l
 | a=>ars a
def fin(v:AV)(s:AS)(n:Nat):AS:=match esc v with
 | true=>s
 | false=>s.cut n
def aek(v:AV)(s:AS)(n:Nat):fin v s n=s.cut n\/fin v s n=s:=by
 unfold fin;cases esc v;exact .inl rfl;exact .inr rfl
abbrev XP(X:Z5):W5:=λf args s r s'=>X f args s=some (r,s')
def Nj(ops:Array Oper)(fr:List AV)(o:Oper)(q:Nat):AV:=match Cl ops fr o with
 | true=>.ptr q 0
 | false=>.sc undef
inductive RJ(P:Program)(G:Bh)(X:W5)(H:SS)(ops:Array Oper):Nat->List Oper->List AV->AS->List (List AV×AS×AV)->List AV->AS->Prop where
 | nil {q:Nat} {fr:List AV} {s:AS}:RJ P G X H ops q [] fr s [] fr s
 | cons {q:Nat} {o:Oper} {l:List Oper} {fr Cm:List AV} {s s1 s':AS} {v:AV} {t:List (List AV×AS×AV)} (ha:BG o.op=false) (h:J P G X H (.op ops o fr s (.ret v) s1)) (k:RJ P G X H ops q l (Pt fr o.dst v) s1 t Cm s'):RJ P G X H ops q (o::l) fr s ((fr,s,v)::t) Cm s'
 | alloc {q:Nat} {o:Oper} {l:List Oper} {fr Cm:List AV} {s s':AS} {t:List (List AV×AS×AV)} (ha:BG o.op=true) (k:RJ P G X H ops (q+1) l (Pt fr o.dst (Nj ops fr o q)) s t Cm s'):RJ P G X H ops q (o::l) fr s ((fr,s,Nj ops fr o q)::t) Cm s'
def Rt(P:Program)(G:Bh)(X:W5)(H:SS):Tk->Rs->Prop
 | .code c fr s,.code e Cm s'=>J P G X H (.code c fr s e Cm s')
 | .loop c fr s,.code e Cm s'=>J P G X H (.loop c fr s e Cm s')
 | .ops ops l fr s,.code e Cm s'=>∀k,l=ops.toList.drop k->J P G X H (.ops ops (List.range' k l.length) fr s e Cm s')
 | .draw ops l fr s q,.tr t Cm s'=>RJ P G X H ops q l fr s t Cm s'
 | .op ops o fr s,.call r s'=>J P G X H (.op ops o fr s r s')
 | .call f args s,.call r s'=>J P G X H (.call f args s r s')
 | _,_=>False
section
variable {P:Program} {G:Bh} {X:W5} {H:SS} {ops:Array Oper}
def RJ.len{q:Nat}{l:List Oper}{fr Cm:List AV}{s s':AS}{t:List (List AV×AS×AV)}(h:RJ P G X H ops q l fr s t Cm s'):t.length=l.length:=by
 induction h with
 | nil=>rfl
 | cons _ _ _ ih=>simp[ih]
 | alloc _ _ ih=>simp[ih]
def Eb(t:List (List AV×AS×AV))(sf:AS)(i:Nat):AS:=match t[i]? with
 | some x=>x.2.1
 | none=>sf
def Jg(t:List (List AV×AS×AV))(i:Nat):AV:=match t[i]? with
 | some x=>x.2.2
 | none=>.sc undef
def RJ.at{q:Nat}{l:List Oper}{fr Cm:List AV}{s s':AS}{t:List (List AV×AS×AV)}(h:RJ P G X H ops q l fr s t Cm s'):Eb t s' 0=s/\∀i o,l[i]?=some o->∃fi,t[i]?=some (fi,Eb t s' i,Jg t i) /\
   ((BG o.op=false/\J P G X H (.op ops o fi (Eb t s' i) (.ret (Jg t i)) (Eb t s' (i+1))))\/(BG o.op=true/\Eb t s' (i+1)=Eb t s' i/\Jg t i=Nj ops fi o (q+u6 l i))):=by
 induction h with
 | nil=>exact⟨rfl,λi o ho=>by simp at ho⟩
 | @cons q o l fr Cm s s1 s' v t ha h k ih =>
   refine⟨rfl,λi o' ho=>?_⟩;cases i with
   | zero =>
     simp at ho;subst ho;refine⟨fr,rfl,.inl ⟨ha,?_⟩⟩
     have:Eb ((fr,s,v)::t) s' 1=s1:=by
       have:=ih.1;unfold Eb at this ⊢;simpa using this
     rw[this];exact h
   | succ i =>
     obtain⟨fi,h1,h2⟩:=ih.2 i o' (by simpa using ho)
     refine⟨fi,?_,?_⟩;have:((fr,s,v)::t)[i+1]?=t[i]?:=by simp
     rw[this,h1];simp[Eb,Jg];simp only[u6,ha,Nat.zero_add];simpa[Eb,Jg] using h2
 | @alloc q o l fr Cm s s' t ha k ih =>
   refine⟨rfl,λi o' ho=>?_⟩;cases i with
   | zero =>
     simp at ho;subst ho;refine⟨fr,rfl,.inr ⟨ha,?_,?_⟩⟩;have:=ih.1;unfold Eb at this ⊢;simpa using this
     simp[Jg,u6]
   | succ i =>
     obtain⟨fi,h1,h2⟩:=ih.2 i o' (by simpa using ho)
     refine⟨fi,?_,?_⟩;have:((fr,s,Nj ops fr o q)::t)[i+1]?=t[i]?:=by simp
     rw[this,h1];simp[Eb,Jg];simp only[u6,ha];rw[<- Nat.add_assoc];simpa[Eb,Jg] using h2
def RJ.fB{q:Nat}{l:List Oper}{fr Cm:List AV}{s s':AS}{t:List (List AV×AS×AV)}(h:RJ P G X H ops q l fr s t Cm s')(dst:Nat->Option Tmp)(vals:Nat->AV)(f0:List AV)(k:Nat)(YR:fr=Mr f0 dst vals (λ_=>true) k)(hd:∀i o,l[i]?=some o->dst (k+i)=o.dst)(hv:∀i,vals (k+i)=Jg t i\/l.length<=i) :
   Cm=Mr f0 dst vals (λ_=>true) (k+l.length)/\∀i x,t[i]?=some x->x.1=Mr f0 dst vals (λ_=>true) (k+i):=by
 have key:∀{q:Nat} {o:Oper} {l:List Oper} {fr Cm:List AV} {s:AS} {v:AV} {t:List (List AV×AS×AV)}
     (_:∀(k:Nat),Pt fr o.dst v=Mr f0 dst vals (λ_=>true) k->(∀i o,l[i]?=some o->dst (k+i)=o.dst)->(∀i,vals (k+i)=Jg t i\/l.length<=i)->Cm=Mr f0 dst vals (λ_=>true) (k+l.length)/\∀i x,t[i]?=some x->x.1=Mr f0 dst vals (λ_=>true) (k+i))
     (k:Nat),fr=Mr f0 dst vals (λ_=>true) k->(∀i o',(o::l)[i]?=some o'->dst (k+i)=o'.dst)->(∀i,vals (k+i)=Jg ((fr,s,v)::t) i\/(o::l).length<=i) ->
     Cm=Mr f0 dst vals (λ_=>true) (k+(o::l).length)/\∀i x,((fr,s,v)::t)[i]?=some x->x.1=Mr f0 dst vals (λ_=>true) (k+i):=by
   intro q o l fr Cm s v t ih k YR hd hv;have hd0:=hd 0 o rfl
   have hv0:vals k=v:=by
     rcases hv 0 with h0 | h0
     simpa[Jg] using h0
     simp at h0
   have:=ih (k+1) (by simp only[Mr,if_true];rw[YR,<- hd0,hv0];rfl) (λi o' ho'=>by have:=hd (i+1) o' (by simpa using ho');rwa[show k+1+i=k+(i+1) from by omega]) (λi=>by
     rcases hv (i+1) with h1 | h1
     left;rw[show k+1+i=k+(i+1) from by omega,h1];simp[Jg];right;simp at h1;omega)
   refine⟨by rw[this.1];congr 1;simp;omega,λi x hx=>?_⟩;cases i with
   | zero=>simp at hx;subst hx;exact YR
   | succ i =>
     have h2:=this.2 i x (by simpa using hx)
     rw[h2];congr 1;omega
 induction h generalizing k with
 | nil=>exact⟨YR,λi x hx=>by simp at hx⟩
 | @cons q o l fr Cm s s1 s' v t ha h _ ih=>exact key (q:=q) (λk h1 h2 h3=>ih k h1 h2 h3) k YR hd hv
 | @alloc q o l fr Cm s s' t ha _ ih=>exact key (q:=q) (λk h1 h2 h3=>ih k h1 h2 h3) k YR hd hv
def tX{os:List Oper}{i l:Nat}{o:Oper}(ho:os[l]?=some o)(hq:calm o.op=false):i+l∈KY os i:=by
 induction os generalizing i l with
 | nil=>simp at ho
 | cons x os ih =>
   simp only[KY];cases l with
   | zero =>
     simp at ho;subst ho;rw[hq];simp
   | succ l =>
     have:=ih (i:=i+1) (by simpa using ho)
     rw[show i+1+l=i+(l+1) from by omega] at this;split;exact this;exact List.mem_cons_of_mem _ this
def oE{i k:Nat}{ls:List Nat}(hls:∀l,l∈ls->Zc ops l)(h:Win ops i k):abk (LS ops.toList []) ls i k=true:=by
 unfold abk;rw[List.all_eq_true];intro l hl;have h1:=h.1 l (hls l hl);have h2:=h.2 l (hls l hl);cases iX:YV (LS ops.toList []) i l<;>cases dM:YV (LS ops.toList []) l i<;>simp_all
def YO{os:List Oper}{i l:Nat}(h:l∈KY os i):∃j o,l=i+j/\os[j]?=some o/\calm o.op=false:=by
 induction os generalizing i with
 | nil=>simp[KY] at h
 | cons x os ih =>
   simp only[KY] at h;split at h;obtain⟨j,o,h1,h2,h3⟩:=ih h;exact⟨j+1,o,by omega,by simpa using h2,h3⟩
   rename_i hq;rcases List.mem_cons.1 h with h | h
   exact⟨0,x,by omega,rfl,by simpa using hq⟩
   obtain⟨j,o,h1,h2,h3⟩:=ih h;exact⟨j+1,o,by omega,by simpa using h2,h3⟩
def xJ{ms ls:List Nat}{i:Nat}{o:Oper}{fr:List AV}{v:AV}{ss:List AS}{k0:Nat}(h:Yp P G ms ls i o fr v ss k0=true){k:Nat}{s:AS}(hs:ss[k]?=some s)(hw:abk ms ls i (k0+k)=true):∃s',SW P G fr s o=some (.val v s'):=by
 induction ss generalizing k0 k with
 | nil=>simp at hs
 | cons x ss ih =>
   simp only[Yp,Bool.and_eq_true] at h;cases k with
   | zero =>
     simp at hs;subst hs;rw[Nat.add_zero] at hw;have h1:=h.1;rw[hw] at h1;simp only[Bool.not_true,Bool.false_or] at h1;split at h1;rename_i u s' hu;exact⟨s',by rw[hu,m1 h1]⟩;cases h1
   | succ k=>exact ih h.2 (by simpa using hs) (by rwa[show k0+1+k=k0+(k+1) from by omega])
def wX{ms ls:List Nat}{O2:List AS}{os:List Oper}{ts:List (List AV×AS×AV)}{i0:Nat}(h:cI P G ops ms ls O2 os ts i0=true){i:Nat}{o:Oper}{x:List AV×AS×AV}(ho:os[i]?=some o)(hx:ts[i]?=some x):(quiet o.op&&reads o.op)=true->Cl ops x.1 o=true->Yp P G ms ls (i0+i) o x.1 x.2.2 O2 0=true:=by
 induction os generalizing ts i0 i with
 | nil=>simp at ho
 | cons y os ih =>
   cases ts with
   | nil=>simp at hx
   | cons t ts =>
     simp only[cI,Bool.and_eq_true] at h;cases i with
     | zero =>
       simp at ho hx;subst ho hx;intro h1 h2;have:=h.1;rw[h1,h2] at this;simpa using this
     | succ i =>
       have:=ih h.2 (by simpa using ho) (by simpa using hx)
       rwa[show i0+1+i=i0+(i+1) from by omega] at this
def JT{o:Oper}{fr:List AV}{s s':AS}{v:AV}(hq:quiet o.op=true)(h:J P G X H (.op ops o fr s (.ret v) s')):s'=s/\((Cl ops fr o=false/\v=.sc undef)\/(Cl ops fr o=true/\SW P G fr s o=some (.val v s))):=by
 cases h with
 | RD hw h =>
   obtain⟨v',e⟩:=Vo hq h;injection e with e1 e2
   subst e2;exact⟨rfl,.inr ⟨hw,h⟩⟩
 | nF hw=>exact⟨rfl,.inl ⟨hw,rfl⟩⟩
 | S1 hw h hc =>
   obtain⟨v',e⟩:=Vo hq h;cases e
 | vJ vE=>rw[hq] at vE;cases vE
 | pV vE=>rw[hq] at vE;cases vE
 | afr _ ho Iv=>simp[quiet,ho,Iv] at hq
def lB{ms ls:List Nat}{i id:Nat}{cs:List AV}{ss:List AS}{k0:Nat}(h:gL ms ls i id cs ss k0=true){k:Nat}{s:AS}(hs:ss[k]?=some s)(hw:abk ms ls i (k0+k)=true):s.get id=some (.cells cs):=by
 induction ss generalizing k0 k with
 | nil=>simp at hs
 | cons x ss ih =>
   simp only[gL,Bool.and_eq_true] at h;cases k with
   | zero =>
     simp at hs;subst hs;rw[Nat.add_zero] at hw;have h1:=h.1;rw[hw] at h1;simp only[Bool.not_true,Bool.false_or] at h1;split at h1;rename_i ds hu;rw[hu,Re h1];cases h1
   | succ k=>exact ih h.2 (by simpa using hs) (by rwa[show k0+1+k=k0+(k+1) from by omega])
def kU{ms ls:List Nat}{O2:List AS}{os:List Oper}{ts:List (List AV×AS×AV)}{i0 q:Nat}(h:UT P ops ms ls O2 os ts i0 q=true){i:Nat}{o:Oper}{e:TypeId}{x:List AV×AS×AV}(ho:os[i]?=some o)(hx:ts[i]?=some x)(he:o.op=.alloc e)(hw:Cl ops x.1 o=true):∃z,JF P e=some z/\gL ms ls (i0+i) (q+u6 os i) (cellsOf z) O2 0=true:=by
 induction os generalizing ts i0 i q with
 | nil=>simp at ho
 | cons y os ih =>
   cases ts with
   | nil=>simp at hx
   | cons t ts =>
     cases i with
     | zero =>
       simp at ho hx;subst ho hx;simp only[UT,he,hw,Bool.not_true,Bool.false_or,Bool.and_eq_true] at h;have h1:=h.1;split at h1;rename_i z hz;exact⟨z,hz,h1⟩;cases h1
     | succ i =>
       simp only[UT] at h;split at h;rename_i e' he';rw[Bool.and_eq_true] at h;have:=ih h.2 (by simpa using ho) (by simpa using hx)
       simp only[u6,he',BG];rwa[show i0+1+i=i0+(i+1) from by omega,Nat.add_assoc q] at this;rename_i KS;have:=ih h (by simpa using ho) (by simpa using hx)
       have jQ:BG y.op=false:=by
         cases YY:BG y.op with
         | false=>rfl
         | true=>obtain⟨e',he'⟩:=Ku YY;exact absurd he' (KS e')
       simp only[u6,jQ,Nat.zero_add];rwa[show i0+1+i=i0+(i+1) from by omega] at this
def zW{l:List Oper}{r:List Bb}(h:rsv P l=some r):r.length=u6 l l.length:=by
 induction l generalizing r with
 | nil=>simp[rsv] at h;subst h;rfl
 | cons o l ih =>
   simp only[rsv] at h;split at h;rename_i e he;split at h;rename_i z r' hz hr;cases h;simp only[List.length_cons,u6,he,BG,ih hr];omega;cases h;rename_i KS
   have jQ:BG o.op=false:=by
     cases YY:BG o.op with
     | false=>rfl
     | true=>obtain⟨e',he'⟩:=Ku YY;exact absurd he' (KS e')
   simp only[List.length_cons,u6,jQ,ih h];omega
def Pv{o:Oper}{e:TypeId}(h:o.op=.alloc e):quiet o.op=false:=by rw[h];rfl
def ajg{id:Nat}{fr Cm:List AV}{s s':AS}{r:List Bb}{t:List (List AV×AS×AV)}(Jn:PF ops=true)(hr:rsv P ops.toList=some r)(h:RJ P G X H ops s.nx ops.toList fr (s.hold r) t Cm s')(HK:dO P G ops t s' s.nx r=true):J P G X H (.code (.region id ops true) fr s .normal Cm s'):=by
 have hlen:t.length=ops.size:=by rw[h.len,Array.length_toList]
 have ame:oM P G ops t s'=true:=by
   unfold dO at HK;split at HK;assumption;cases HK
 have oY:Vt P ops t s' s.nx r=true:=by
   unfold dO at HK;split at HK;exact HK;cases HK
 obtain⟨h0,VP⟩:=h.at;have nB:∀i o,ops[i]?=some o->C1 ops i=o.dst:=λi o ho=>by unfold C1;rw[ho];rfl
 obtain⟨Yk,VM⟩:=h.fB (C1 ops) (Jg t) fr 0 rfl (λi o ho=>by rw[Nat.zero_add];exact nB i o (by rw[<- Array.getElem?_toList];exact ho)) (λi=>.inl (by rw[Nat.zero_add]));rw[Nat.zero_add,Array.length_toList] at Yk
 have HP:∀i o,ops[i]?=some o->BG o.op=false->J P G X H (.op ops o (Mr fr (C1 ops) (Jg t) (λ_=>true) i) (Eb t s' i) (.ret (Jg t i)) (Eb t s' (i+1))):=by
   intro i o ho jQ;obtain⟨fi,h1,h2⟩:=VP i o (BI ho);have:=VM i _ h1;simp only[Nat.zero_add] at this;rcases h2 with ⟨_,h2⟩ | ⟨h2,_⟩
   rw[<- this];exact h2;rw[jQ] at h2;cases h2
 have aaP:∀i o,ops[i]?=some o->BG o.op=true->Eb t s' (i+1)=Eb t s' i/\Jg t i=Nj ops (Mr fr (C1 ops) (Jg t) (λ_=>true) i) o (s.nx+rk ops i):=by
   intro i o ho YY;obtain⟨fi,h1,h2⟩:=VP i o (BI ho);have:=VM i _ h1;simp only[Nat.zero_add] at this;rcases h2 with ⟨h2,_⟩ | ⟨_,h2⟩
   rw[YY] at h2;cases h2;rw[<- this];exact h2
 have jQ:∀o:Oper,quiet o.op=true->BG o.op=false:=by
   intro o hq;cases YY:BG o.op with
   | false=>rfl
   | true=>obtain⟨e,he⟩:=Ku YY;rw[Pv he] at hq;cases hq
 have hnl:∀o:Oper,calm o.op=false->BG o.op=false:=by
   intro o hq;cases YY:BG o.op with
   | false=>rfl
   | true=>unfold calm at hq;rw[YY] at hq;cases hq
 have hsn:Eb t s' ops.size=s':=by
   unfold Eb;rw[List.getElem?_eq_none (by omega)]
 have hsk:∀k,k<=ops.size->(t.map (λx=>x.2.1)++[s'])[k]?=some (Eb t s' k):=by
   intro k hk;unfold Eb;by_cases hkt:k < t.length;rw[List.getElem?_append_left (by simpa using hkt),List.getElem?_map,List.getElem?_eq_getElem hkt];rfl
   have:k=t.length:=by omega
   subst this;rw[List.getElem?_append_right (by simp)];simp
 have iS:∀l,l∈KY ops.toList 0->Zc ops l:=by
   intro l hl;obtain⟨j,o',e,h5,h6⟩:=YO hl;rw[Nat.zero_add] at e;subst e;exact⟨o',by rw[<- Array.getElem?_toList];exact h5,h6⟩
 have adR:∀i o,ops[i]?=some o->calm o.op=true->Eb t s' (i+1)=Eb t s' i:=by
   intro i o ho hq;rcases WN hq with hq | ⟨e,he⟩
   exact(JT hq (HP i o ho (jQ o hq))).1;exact(aaP i o ho (by rw[he];rfl)).1
 have key:=J.draw (P:=P) (G:=G) (X:=X) (H:=H) (id:=id) (f0:=fr) (s0:=s) r (Jg t) (Eb t s') h0 Jn (λi o ho hl=>HP i o ho (hnl o hl)) (λi o ho hq=>by
   obtain⟨h1,h2⟩:=JT hq (HP i o ho (jQ o hq));refine⟨h1,?_⟩;rcases h2 with h2 | ⟨hw,h2⟩
   exact .inl h2;refine .inr ⟨hw,λk hk XV=>?_⟩;cases hr:reads o.op with
   | false=>exact S2 hq hr h2 _
   | true =>
     unfold oM at ame;split at ame;rename_i hls
     have iY:∀m,¬Zc ops m:=by
       rintro m ⟨y,hy,vC⟩;have:=tX (i:=0) (BI hy) vC;rw[hls] at this;cases this
     have hi:=(Array.getElem?_eq_some_iff.1 ho).1;have e1:Eb t s' 0=Eb t s' k:=fO adR k (Nat.zero_le _) hk (λm _ _=>iY m);have e2:Eb t s' 0=Eb t s' i:=fO adR i (Nat.zero_le _) (by omega) (λm _ _=>iY m);rw[<- e1,e2];exact h2;obtain⟨fi,hti,_⟩:=VP i o (BI ho);have pL:=VM i _ hti;simp only[Nat.zero_add] at pL;have hs2:=wX ame (BI ho) hti (by rw[hq,hr];rfl) (by rw[pL];exact hw);rw[Nat.zero_add] at hs2
     obtain⟨s2,hs3⟩:=xJ hs2 (hsk k hk) (by
       rw[Nat.zero_add];exact oE iS XV)
     obtain⟨v',e⟩:=Vo hq hs3;injection e with _ e2
     subst e2;rw[<- pL];exact hs3) (λi o e ho he=>by
   have YY:BG o.op=true:=by rw[he];rfl
   obtain⟨h1,h2⟩:=aaP i o ho YY;refine⟨h1,?_⟩
   have hrk:rk ops i < r.length:=by
     rw[zW hr];exact oC (BI ho) YY (by rw[Array.length_toList];exact(Array.getElem?_eq_some_iff.1 ho).1)
   cases hw:Cl ops (Mr fr (C1 ops) (Jg t) (λ_=>true) i) o with
   | false=>unfold Nj at h2;rw[hw] at h2;exact .inl ⟨rfl,h2⟩
   | true =>
     unfold Nj at h2;rw[hw] at h2;obtain⟨fi,hti,_⟩:=VP i o (BI ho);have pL:=VM i _ hti;simp only[Nat.zero_add] at pL
     have hal:UT P ops (LS ops.toList []) (KY ops.toList 0) (t.map (·.2.1)++[s']) ops.toList t 0 s.nx=true:=by
       unfold Vt at oY;split at oY;simp at hrk;exact oY
     obtain⟨z,hz,hbx⟩:=kU hal (BI ho) hti he (by rw[pL];exact hw);rw[Nat.zero_add] at hbx;exact .inr ⟨rfl,z,hz,hrk,h2,λk hk XV=>lB hbx (hsk k hk) (by rw[Nat.zero_add];exact oE iS XV)⟩)
 rw[<- Yk,hsn] at key;exact key
end
end AI
namespace AI
open Go Go.RowKit
def inI:Int->Bool
 | .ofNat m=>Nat.ble m 9223372036854775807
 | .negSucc m=>Nat.ble m 9223372036854775807
def UG(k:IntKind)(n:Int):Int:=match k with
 | .i64=>(match inI n with | true=>n | false=>IntKind.i64.wrap n)
 | k=>k.wrap n
def aou{n:Int}(h:inI n=true):IntKind.i64.wrap n=n:=by
 refine IntWalk.i64_in n ?_;cases n with
 | ofNat m =>
   have:=Nat.le_of_ble_eq_true h;have e:Int.ofNat m=(m:Int):=rfl;rw[e];have h2:(m:Int)<=9223372036854775807:=Int.ofNat_le.2 this;have h3:(0:Int)<=m:=Int.natCast_nonneg m;omega
 | negSucc m =>
   have:=Nat.le_of_ble_eq_true h;rw[Int.negSucc_eq];constructor;have e:(-9223372036854775808:Int)=-(9223372036854775807+1):=rfl;rw[e];have h2:(m:Int)<=9223372036854775807:=Int.ofNat_le.2 this;omega;have h2:(0:Int)<=m:=Int.natCast_nonneg m;omega
def XX(k:IntKind)(n:Int):UG k n=k.wrap n:=by
 cases k<;>try rfl
 simp only[UG];cases h:inI n with
 | true=>exact(aou h).symm
 | false=>rfl
def aeH:Int->Int->Int
 | .ofNat a,.ofNat b=>.ofNat (Nat.add a b)
 | a,b=>a+b
def oB(a b:Int):aeH a b=a+b:=by cases a<;>cases b<;>rfl
def aqz(a b:Nat):Int:=match Nat.ble b a with
 | true=>.ofNat (Nat.sub a b)
 | false=>(a:Int) - (b:Int)
def agW:Int->Int->Int
 | .ofNat a,.ofNat b=>aqz a b
 | a,b=>a - b
def aam(a b:Int):agW a b=a - b:=by
 cases a<;>cases b<;>try rfl
 rename_i a b;simp only[agW,aqz];cases h:Nat.ble b a with
 | true =>
   have:=Nat.le_of_ble_eq_true h;show Int.ofNat (a - b)=(a:Int) - (b:Int);exact Int.ofNat_sub this
 | false=>rfl
def Ba:Int->Int->Bool
 | .ofNat a,.ofNat b=>Nat.beq a b
 | .negSucc a,.negSucc b=>Nat.beq a b
 | _,_=>false
def RU(a b:Int):Ba a b=(a == b):=by
 cases a<;>cases b<;>simp only[Ba]
 rename_i a b;rw[Bool.eq_iff_iff,beq_iff_eq,Int.ofNat.injEq];exact⟨λh=>Nat.eq_of_beq_eq_true h,λh=>by subst h;exact Nat.beq_refl a⟩;rw[Bool.eq_iff_iff,beq_iff_eq];exact⟨λh=>by simp at h,λh=>by cases h⟩;rw[Bool.eq_iff_iff,beq_iff_eq];exact⟨λh=>by simp at h,λh=>by cases h⟩;rename_i a b;rw[Bool.eq_iff_iff,beq_iff_eq,Int.negSucc.injEq];exact⟨λh=>Nat.eq_of_beq_eq_true h,λh=>by subst h;exact Nat.beq_refl a⟩
def Iy:Int->Int->Bool
 | .ofNat a,.ofNat b=>Nat.ble a b
 | a,b=>decide (a<=b)
def wK(a b:Int):Iy a b=decide (a<=b):=by
 cases a<;>cases b<;>try rfl
 rename_i a b;simp only[Iy];rw[Bool.eq_iff_iff,decide_eq_true_iff];show _↔(a:Int)<=(b:Int);rw[Int.ofNat_le];exact⟨Nat.le_of_ble_eq_true,Nat.ble_eq_true_of_le⟩
def C3:Int->Int->Bool
 | .ofNat a,.ofNat b=>Nat.ble (Nat.succ a) b
 | a,b=>decide (a < b)
def TI(a b:Int):C3 a b=decide (a < b):=by
 cases a<;>cases b<;>try rfl
 rename_i a b;simp only[C3];rw[Bool.eq_iff_iff,decide_eq_true_iff];show _↔(a:Int) < (b:Int);rw[Int.ofNat_lt];exact⟨Nat.le_of_ble_eq_true,Nat.ble_eq_true_of_le⟩
def sameKind:IntKind->IntKind->Bool
 | .i64,.i64=>true
 | .u8,.u8=>true
 | _,_=>false
def ZW{a b:IntKind}(h:sameKind a b=true):a=b:=by cases a<;>cases b<;>first | rfl | cases h
def ahD(k:IntKind)(a b:Int):BinOp->Option Value
 | .add=>some (.int k (UG k (aeH a b)))
 | .sub=>some (.int k (UG k (agW a b)))
 | .mul=>some (.int k (UG k (a*b)))
 | .eql=>some (.bool (Ba a b))
 | .neq=>some (.bool (!Ba a b))
 | .lss=>some (.bool (C3 a b))
 | .leq=>some (.bool (Iy a b))
 | .gtr=>some (.bool (C3 b a))
 | .geq=>some (.bool (Iy b a))
 | _=>none
def ajw{P:Program}{op:BinOp}{k:IntKind}{a b:Int}{t:TypeId}{xo yo:Operand}{v:Value}(h:ahD k a b op=some v):pv P (do eqGuard op t xo yo (.int k a) (.int k b);binOp op t (.int k a) (.int k b))=some v/\scalar v=true:=by
 cases op<;>simp only[ahD,Option.some.injEq,reduceCtorEq] at h<;>subst h<;>refine⟨?_,rfl⟩<;>simp[eqGuard,binOp,Op.intArith,Op.intCmp,pv,XX,oB,aam,RU,TI,wK,bne,Bind.bind,Sem.bind,Pure.pure]
def By:List UInt8->List UInt8->Bool
 | [],[]=>true
 | a::l,b::m=>(match Nat.beq a.toNat b.toNat with
   | true=>By l m
   | false=>false)
 | _,_=>false
def c8(l m:List UInt8):By l m=(l == m):=by
 induction l generalizing m with
 | nil=>cases m<;>rfl
 | cons a l ih =>
   cases m with
   | nil=>rfl
   | cons b m =>
     simp only[By];cases h:Nat.beq a.toNat b.toNat with
     | true =>
       have:a=b:=UInt8.toNat_inj.1 (Nat.eq_of_beq_eq_true h);subst this;simp only[ih];simp
     | false =>
       have:a≠b:=λe=>by subst e;have:=Nat.ne_of_beq_eq_false h;exact this rfl
       simp[this]
def aml(x y:ByteArray):BinOp->Option Value
 | .eql=>some (.bool (By x.data.toList y.data.toList))
 | .neq=>some (.bool (!By x.data.toList y.data.toList))
 | op=>abd op x y
def aiP(x y:ByteArray)(op:BinOp):aml x y op=abd op x y:=by cases op<;>simp only[aml,abd,c8]
def afK(v:Option Value):Option AV:=match v with
 | some v=>(match scalar v with | true=>some (.sc v) | false=>none)
 | none=>none
def adT(v:Option Value):afK v=v.bind jD:=by
 cases v with
 | none=>rfl
 | some v=>simp only[afK,Option.bind_some,jD];cases scalar v<;>rfl
def oT(P:Program)(op:BinOp)(t:TypeId)(xo yo:Operand)(x y:Value):Option AV :=
 match x with
 | .int k a=>(match y with
   | .int k' b=>(match sameKind k k' with
     | true=>(match ahD k a b op with
       | some v=>some (.sc v)
       | none=>L2 P op t xo yo (.sc (.int k a)) (.sc (.int k' b)))
     | false=>L2 P op t xo yo (.sc (.int k a)) (.sc (.int k' b)))
   | y=>L2 P op t xo yo (.sc (.int k a)) (.sc y))
 | .string a=>(match y with
   | .string b=>afK (aml a b op)
   | y=>L2 P op t xo yo (.sc (.string a)) (.sc y))
 | x=>L2 P op t xo yo (.sc x) (.sc y)
def iI(P:Program)(op:BinOp)(t:TypeId)(xo yo:Operand)(a b:AV):Option AV :=
 match a with
 | .sc x=>(match b with
   | .sc y=>oT P op t xo yo x y
   | b=>L2 P op t xo yo (.sc x) b)
 | a=>L2 P op t xo yo a b
def LX(P:Program)(op:BinOp)(t:TypeId)(xo yo:Operand)(a b:AV):iI P op t xo yo a b=L2 P op t xo yo a b:=by
 unfold iI;cases a with
 | sc x =>
   cases b with
   | sc y =>
     simp only[oT];cases x with
     | int k a =>
       cases y with
       | int k' b =>
         simp only;cases hk:sameKind k k' with
         | false=>rfl
         | true =>
           have:=ZW hk;subst this;simp only;cases hf:ahD k a b op with
           | none=>rfl
           | some v =>
             obtain⟨h1,h2⟩:=ajw (P:=P) (t:=t) (xo:=xo) (yo:=yo) hf;simp[L2,VW,Ym,h1,jD,h2]
       | _=>rfl
     | string a =>
       cases y with
       | string b=>simp only[adT,aiP];rfl
       | _=>rfl
     | _=>rfl
   | _=>rfl
 | _=>rfl
def ads:List UInt8->Nat->Option UInt8
 | [],_=>none
 | a::_,0=>some a
 | _::l,n+1=>ads l n
def ag5(l:List UInt8)(n:Nat):ads l n=l[n]?:=by
 induction l generalizing n with
 | nil=>simp[ads]
 | cons a l ih=>cases n<;>simp[ads,ih]
def ao9:Option UInt8->Option AV
 | some b=>some (.sc (.int .u8 (.ofNat b.toNat)))
 | none=>none
def cT(P:Program)(t:TypeId)(x ix:AV):Option AV :=
 match x with
 | .sc (.string s)=>(match P.underlying t with
   | some .string=>(match Su ix with
     | some i=>ao9 (ads s.data.toList i)
     | none=>none)
   | _=>Oq P t (.sc (.string s)) ix)
 | x=>Oq P t x ix
def xE(P:Program)(t:TypeId)(x ix:AV):cT P t x ix=Oq P t x ix:=by
 unfold cT;cases x with
 | sc v =>
   cases v with
   | string s =>
     simp only;split;rename_i hu;unfold Oq;rw[hu];cases Su ix with
     | none=>rfl
     | some i =>
       simp only[ag5];cases s.data.toList[i]?<;>rfl
     rfl
   | _=>rfl
 | _=>rfl
end AI
namespace AI
open Go Go.RowKit
def nth:List AV->Nat->AV
 | [],_=>.sc undef
 | a::_,0=>a
 | _::l,n+1=>nth l n
def aeK(l:List AV)(n:Nat):nth l n=l.getD n (.sc undef):=by
 induction l generalizing n with
 | nil=>simp[nth]
 | cons a l ih=>cases n<;>simp[nth,ih]
def evG:Option (List AV)->Option AV
 | some cs=>some (.el cs)
 | none=>none
def A5(G:Bh)(fr:List AV):Operand->Option AV
 | .tmp t=>some (nth fr t)
 | .const v=>Z8 v
 | .global g=>evG (G g)
 | .func f=>some (.fn (.func f) [] [])
def Cu(G:Bh)(fr:List AV)(x:Operand):A5 G fr x=Bp G fr x:=by
 cases x with
 | tmp t=>simp only[A5,Bp,aeK]
 | const v=>rfl
 | global g=>simp only[A5,Bp];cases G g<;>rfl
 | func f=>rfl
def Pq(s:AS):Option AV->Option AR
 | some v=>some (.val v s)
 | none=>none
def Te(s:AS)(o:Option AV):Pq s o=o.map (λv=>.val v s):=by cases o<;>rfl
def rY:Option AS->Option AR
 | some s=>some (.val (.sc undef) s)
 | none=>none
def ahj(o:Option AS):rY o=o.map (λs=>.val (.sc undef) s):=by cases o<;>rfl
def aco:Option (AV×AS)->Option AR
 | some r=>some (.val r.1 r.2)
 | none=>none
def aaS(o:Option (AV×AS)):aco o=o.map (λr=>.val r.1 r.2):=by cases o<;>rfl
def oI{α β:Type}(o:Option α)(f:α->Option β):Option β:=match o with
 | some a=>f a
 | none=>none
def pI{α β:Type}(o:Option α)(f:α->Option β):oI o f=o.bind f:=by cases o<;>rfl
def two{β:Type}(a b:Option AV)(f:AV->AV->Option β):Option β:=match a with
 | some x=>(match b with
   | some y=>f x y
   | none=>none)
 | none=>none
def three{β:Type}(a b d:Option AV)(f:AV->AV->AV->Option β):Option β:=match a with
 | some x=>(match b with
   | some y=>(match d with
     | some z=>f x y z
     | none=>none)
   | none=>none)
 | none=>none
def aj3(x y:Option AV):Option AV->Option AV
 | some (.sc (.bool t))=>(match t with | true=>x | false=>y)
 | _=>none
def afy(s:AS):Option AV->Option AR
 | some z=>some (.val (.ptr s.nx 0) (s.new (.cells (cellsOf z))))
 | none=>none
def aaX(s:AS):Option AV->Option AR
 | some z=>(match UL z with | true=>none | false=>some (.val (.ptr s.nx 0) (s.new (.cells (cellsOf z)))))
 | none=>none
def yW(s:AS):Option AV->Option AR
 | some v=>(match notNil v with | true=>some (.val v s) | false=>none)
 | none=>none
def vW(t:TypeId)(s:AS)(v:Option AV):Option TypeDesc->Option AR
 | some d=>(match v with
   | some v=>(match isIface d with | true=>none | false=>some (.val (.TW t v) s))
   | none=>none)
 | none=>none
def func1(f:Fn)(s:AS)(b:Option (List AV)):Option (List AV)->Option AR
 | some a=>(match b with
   | some b=>some (.val (.fn f a b) s)
   | none=>none)
 | none=>none
def afY(P:Program)(s:AS)(t:TypeId)(l h m:Option (Option AV)):Option AV->Option AR
 | some a=>(match l with
   | some l=>(match h with
     | some h=>(match m with
       | some m=>Pq s (KL P t a l h m)
       | none=>none)
     | none=>none)
   | none=>none)
 | none=>none
def aqc:Option AV->Option AR
 | some (.TW t v)=>some (.Mq (.TW t v))
 | _=>none
def aq8(P:Program)(as:Option (List AV)):Option AV->Option AR
 | some (.fn (.func g) first Q8)=>(match as with
   | some as=>(match UW P g with | true=>some (.ent g (first++as++Q8)) | false=>none)
   | none=>none)
 | _=>none
def ap4(P:Program)(G:Bh)(fr:List AV)(s:AS):List Operand->List TypeId->Option AR
 | [x],[t]=>Pq s (oI (A5 G fr x) (aK P s t))
 | _,_=>none
def ap7(P:Program)(G:Bh)(fr:List AV)(s:AS):List Operand->List TypeId->Option AR
 | [x,y],[t,tx]=>aco (two (A5 G fr x) (A5 G fr y) (PR P s t tx))
 | _,_=>none
def ajO(P:Program)(s:AS)(f:List Value->Sem Value):Option (List Value)->Option AR
 | some vs=>Pq s (aC P (f vs))
 | none=>none
def aaF(P:Program)(s:AS)(f:Value->Sem Value):Option Value->Option AR
 | some v=>Pq s (aC P (f v))
 | none=>none
def US(P:Program)(G:Bh)(fr:List AV)(s:AS)(o:Oper)(cl:Call):Builtin->Option AR
 | .len=>ap4 P G fr s cl.args.toList cl.argTypes.toList
 | .append=>ap7 P G fr s cl.args.toList cl.argTypes.toList
 | .max=>ajO P s (λvs=>Builtin.max_ cl.argTypes o.type vs.toArray) (oI (jW G fr cl.args.toList) Ri)
 | .min=>ajO P s (λvs=>Builtin.min_ cl.argTypes o.type vs.toArray) (oI (jW G fr cl.args.toList) Ri)
 | _=>none
def nN(P:Program)(G:Bh)(fr:List AV)(s:AS)(o:Oper)(cl:Call):Option AR :=
 match cl.callee with
 | .builtin b=>US P G fr s o cl b
 | .value f=>aq8 P (jW G fr cl.args.toList) (A5 G fr f)
 | _=>none
def qT(s:AS):Option Operand->Option AR
 | none=>some (.val (.mp s.nx) (s.new (.map [] 0)))
 | some _=>none
def Wv(P:Program)(G:Bh)(fr:List AV)(s:AS)(o:Oper):Option AR :=
 match o.op with
 | .move x=>Pq s (A5 G fr x)
 | .assign x=>Pq s (A5 G fr x)
 | .pick c a b=>Pq s (aj3 (A5 G fr a) (A5 G fr b) (A5 G fr c))
 | .alloc e=>afy s (JF P e)
 | .box _ x=>aaX s (A5 G fr x)
 | .build t ps=>Pq s (oI (OI G fr ps.toList) (iO P t))
 | .buildSlice t n ps=>Pq s (oI (OI G fr ps.toList) (O3 P t n))
 | .load t a=>Pq s (oI (A5 G fr a) (Lk P s t))
 | .store t a x=>rY (two (A5 G fr a) (A5 G fr x) (MX P s t))
 | .nilCheck x=>yW s (A5 G fr x)
 | .binOp op t x y _=>Pq s (two (A5 G fr x) (A5 G fr y) (iI P op t x y))
 | .unOp op _ x=>aaF P s (Op.unary op) (oI (A5 G fr x) TG)
 | .convert src dst x=>aaF P s (convert src dst) (oI (A5 G fr x) TG)
 | .makeInterface t x=>vW t s (A5 G fr x) (P.underlying t)
 | .makeFunc f first Q8=>func1 f s (jW G fr Q8.toList) (jW G fr first.toList)
 | .makeMap _ r=>qT s r
 | .makeSlice t l c=>aco (two (A5 G fr l) (A5 G fr c) (Iq P s t))
 | .slice t x lo hi mx=>afY P s t (qM G fr lo) (qM G fr hi) (qM G fr mx) (A5 G fr x)
 | .fieldAddr t x k=>Pq s (oI (A5 G fr x) λa=>U1 P t a k)
 | .field t x k=>Pq s (oI (A5 G fr x) λa=>fF P t a k)
 | .indexAddr t x i=>Pq s (two (A5 G fr x) (A5 G fr i) (BW P t))
 | .index t x i=>Pq s (two (A5 G fr x) (A5 G fr i) (cT P t))
 | .lookup t x k ok=>Pq s (two (A5 G fr x) (A5 G fr k) λa b=>H3 P s t a b ok)
 | .mapUpdate t m k x=>rY (three (A5 G fr m) (A5 G fr k) (A5 G fr x) (K9 P s t))
 | .insert t m k x=>rY (three (A5 G fr m) (A5 G fr k) (A5 G fr x) (K9 P s t))
 | .mapEntry t m k=>aco (two (A5 G fr m) (A5 G fr k) (Sw P s t))
 | .entryStore _ m st x=>rY (three (A5 G fr m) (A5 G fr st) (A5 G fr x) (O1 s))
 | .extract x k=>Pq s (oI (A5 G fr x) λa=>UM a k)
 | .call cl=>nN P G fr s o cl
 | .panic x=>aqc (A5 G fr x)
 | _=>none
def abo(P:Program)(G:Bh)(fr:List AV)(s:AS)(o:Oper)(cl:Call):nN P G fr s o cl=VT P G fr s o cl:=by
 unfold nN VT;cases hc:cl.callee with
 | value f =>
   simp only[Cu];cases Bp G fr f with
   | none=>rfl
   | some v =>
     cases v with
     | fn g a b =>
       cases g with
       | func g =>
         cases jW G fr cl.args.toList with
         | none=>rfl
         | some as =>
           simp only[aq8];cases UW P g<;>rfl
       | _=>rfl
     | _=>rfl
 | invoke r m=>rfl
 | builtin b =>
   cases b<;>try rfl
   simp only[US];cases hx:cl.args.toList with
   | nil=>rfl
   | cons x xs =>
     cases xs with
     | nil=>rfl
     | cons y ys =>
       cases ys with
       | cons z zs=>rfl
       | nil =>
         cases ht:cl.argTypes.toList with
         | nil=>rfl
         | cons t ts =>
           cases ts with
           | nil=>rfl
           | cons u us =>
             cases us with
             | cons v vs=>rfl
             | nil =>
               simp only[ap7,Cu];cases Bp G fr x<;>cases Bp G fr y<;>first | rfl | exact aaS _
   simp only[US];cases hx:cl.args.toList with
   | nil=>rfl
   | cons x xs =>
     cases xs with
     | cons y ys=>rfl
     | nil =>
       cases ht:cl.argTypes.toList with
       | nil=>rfl
       | cons t ts =>
         cases ts with
         | cons u us=>rfl
         | nil=>simp only[ap4,Cu,pI];exact Te _ _
   simp only[US,pI];cases (jW G fr cl.args.toList).bind Ri with
   | none=>rfl
   | some vs=>exact Te _ _
   simp only[US,pI];cases (jW G fr cl.args.toList).bind Ri with
   | none=>rfl
   | some vs=>exact Te _ _
def OK(P:Program)(G:Bh)(fr:List AV)(s:AS)(o:Oper):Wv P G fr s o=SW P G fr s o:=by
 unfold Wv SW;cases ho:o.op<;>simp only[Cu,Te,ahj,aaS,pI,abo]
 case pick c a b =>
   cases Bp G fr c with
   | none=>rfl
   | some v =>
     cases v with
     | sc u=>cases u<;>first | rfl | (rename_i t;cases t<;>rfl)
     | _=>rfl
 case alloc e=>cases JF P e<;>rfl
 case box e x =>
   cases Bp G fr x with
   | none=>rfl
   | some v=>cases v<;>rfl
 case store t a x=>cases Bp G fr a<;>cases Bp G fr x<;>rfl
 case nilCheck x =>
   cases Bp G fr x with
   | none=>rfl
   | some v=>simp only[yW];cases notNil v<;>rfl
 case binOp op t x y z=>cases Bp G fr x<;>cases Bp G fr y<;>first | rfl | (simp only[two,LX])
 case unOp op t x=>cases (Bp G fr x).bind TG with
   | none=>rfl
   | some v=>exact Te _ _
 case convert a b x=>cases (Bp G fr x).bind TG with
   | none=>rfl
   | some v=>exact Te _ _
 case makeInterface t x =>
   cases Bp G fr x with
   | none=>cases P.underlying t<;>rfl
   | some v =>
     cases P.underlying t with
     | none=>rfl
     | some d=>simp only[vW];cases isIface d<;>rfl
 case makeFunc f a b=>cases jW G fr a.toList<;>cases jW G fr b.toList<;>rfl
 case makeMap t r=>cases r<;>rfl
 case makeSlice t l c=>cases Bp G fr l<;>cases Bp G fr c<;>rfl
 case slice t x lo hi mx =>
   cases Bp G fr x<;>cases qM G fr lo<;>cases qM G fr hi<;>cases qM G fr mx<;>first | rfl | exact Te _ _
 case indexAddr t x i=>cases Bp G fr x<;>cases Bp G fr i<;>rfl
 case index t x i=>cases Bp G fr x<;>cases Bp G fr i<;>first | rfl | (simp only[two,xE])
 case lookup t x k ok=>cases Bp G fr x<;>cases Bp G fr k<;>rfl
 case mapUpdate t m k x=>cases Bp G fr m<;>cases Bp G fr k<;>cases Bp G fr x<;>rfl
 case insert t m k x=>cases Bp G fr m<;>cases Bp G fr k<;>cases Bp G fr x<;>rfl
 case mapEntry t m k=>cases Bp G fr m<;>cases Bp G fr k<;>rfl
 case entryStore t m k x=>cases Bp G fr m<;>cases Bp G fr k<;>cases Bp G fr x<;>rfl
 case panic x =>
   cases Bp G fr x with
   | none=>rfl
   | some v=>cases v<;>rfl
end AI
namespace AI
open Go Go.RowKit
abbrev Rec:=Tk->Option Rs
def aby(r:Rec)(y:Code):Option Rs->Option Rs
 | some (.code e fr s)=>(match e with
   | .normal=>r (.code y fr s)
   | e=>some (.code e fr s))
 | _=>none
def zN(r:Rec)(x y:Code)(fr:List AV)(s:AS):Option AV->Option Rs
 | some (.sc (.bool t))=>(match t with
   | true=>r (.code x fr s)
   | false=>r (.code y fr s))
 | _=>none
def wJ(id:Nat):Option Rs->Option Rs
 | some (.code e fr s)=>some (.code (Gk id e) fr s)
 | _=>none
def sH:Option Rs->Option Rs
 | some (.code e fr s)=>some (.code e fr s)
 | _=>none
def ajN(P:Program)(G:Bh)(ops:Array Oper)(q:Nat)(rs:List Bb):Option Rs->Option Rs
 | some (.tr t fr s)=>(match dO P G ops t s q rs with
   | true=>some (.code .normal fr s)
   | false=>none)
 | _=>none
def aka(P:Program)(G:Bh)(r:Rec)(ops:Array Oper)(fr:List AV)(s:AS):Option (List Bb)->Option Rs
 | some rs=>ajN P G ops s.nx rs (r (.draw ops ops.toList fr (s.hold rs) s.nx))
 | none=>none
def aj5(P:Program)(G:Bh)(r:Rec)(ops:Array Oper)(fr:List AV)(s:AS):Bool->Option Rs
 | true=>aka P G r ops fr s (rsv P ops.toList)
 | false=>none
def cJ(P:Program)(G:Bh)(r:Rec)(ops:Array Oper)(fr:List AV)(s:AS):Bool->Option Rs
 | false=>sH (r (.ops ops ops.toList fr s))
 | true=>aj5 P G r ops fr s (PF ops)
def KH(P:Program)(G:Bh)(r:Rec)(fr:List AV)(s:AS):Code->Option Rs
 | .skip=>some (.code .normal fr s)
 | .exit id=>some (.code (.exit id) fr s)
 | .ret=>some (.code .ret fr s)
 | .seq x y=>aby r y (r (.code x fr s))
 | .cond q x y=>zN r x y fr s (A5 G fr q)
 | .block id c=>wJ id (r (.code c fr s))
 | .loop c=>sH (r (.loop c fr s))
 | .region _ ops d=>cJ P G r ops fr s d
 | _=>none
def lG(r:Rec)(c:Code):Option Rs->Option Rs
 | some (.code e fr s)=>(match e with
   | .normal=>r (.loop c fr s)
   | e=>some (.code e fr s))
 | _=>none
def asp(r:Rec)(ops:Array Oper)(dst:Option Tmp)(l:List Oper)(fr:List AV):Option Rs->Option Rs
 | some (.call c s)=>(match c with
   | .ret v=>r (.ops ops l (Pt fr dst v) s)
   | .Mq v=>some (.code (.Mq v) fr s))
 | _=>none
def agn(r:Rec)(ops:Array Oper)(fr:List AV)(s:AS):List Oper->Option Rs
 | []=>some (.code .normal fr s)
 | o::l=>asp r ops o.dst l fr (r (.op ops o fr s))
def trK(fr:List AV)(s:AS)(v:AV):Option Rs->Option Rs
 | some (.tr t TR s2)=>some (.tr ((fr,s,v)::t) TR s2)
 | _=>none
def adA(r:Rec)(ops:Array Oper)(dst:Option Tmp)(l:List Oper)(fr:List AV)(s:AS)(q:Nat):Option Rs->Option Rs
 | some (.call (.ret v) s1)=>trK fr s v (r (.draw ops l (Pt fr dst v) s1 q))
 | _=>none
def aeU(r:Rec)(ops:Array Oper)(o:Oper)(l:List Oper)(fr:List AV)(s:AS)(q:Nat)(v:AV):Option Rs:=trK fr s v (r (.draw ops l (Pt fr o.dst v) s (q+1)))
def xO(r:Rec)(ops:Array Oper)(o:Oper)(l:List Oper)(fr:List AV)(s:AS)(q:Nat):Bool->Option Rs
 | true=>aeU r ops o l fr s q (Nj ops fr o q)
 | false=>adA r ops o.dst l fr s q (r (.op ops o fr s))
def YB(r:Rec)(ops:Array Oper)(fr:List AV)(s:AS)(q:Nat):List Oper->Option Rs
 | []=>some (.tr [] fr s)
 | o::l=>xO r ops o l fr s q (BG o.op)
def akh:Option Rs->Option Rs
 | some (.call c s)=>some (.call c s)
 | _=>none
def opK(r:Rec)(s:AS):Option AR->Option Rs
 | some (.val v s1)=>some (.call (.ret v) s1)
 | some (.Mq v)=>some (.call (.Mq v) s)
 | some (.ent f args)=>akh (r (.call f args s))
 | none=>none
def eC(ops:Array Oper)(fr:List AV):Option (Nat×Bool)->Bool
 | none=>true
 | some p=>(match (ops[p.1]?).bind (·.dst) with
   | some d=>(match nth fr d with
     | .sc (.bool b)=>b == p.2
     | _=>false)
   | none=>false)
def abi(ops:Array Oper)(fr:List AV)(o:Oper):eC ops fr o.guard=Cl ops fr o:=by
 unfold eC Cl;cases o.guard with
 | none=>rfl
 | some p =>
   obtain⟨j,want⟩:=p;simp only;cases (ops[j]?).bind (·.dst) with
   | none=>rfl
   | some d =>
     simp only[aeK,List.getD_eq_getElem?_getD];cases fr[d]? with
     | none=>rfl
     | some v =>
       cases v with
       | sc u=>cases u<;>rfl
       | _=>rfl
def aov(P:Program)(G:Bh)(r:Rec)(fr:List AV)(s:AS)(o:Oper):Bool->Option Rs
 | true=>opK r s (Wv P G fr s o)
 | false=>some (.call (.ret (.sc undef)) s)
def akv(k:CR->Option CR):Option Rs->Option Rs
 | some (.call c s)=>(match k c with
   | some c1=>some (.call c1 s)
   | none=>none)
 | _=>none
def agO(s:AS)(n:Nat):Option AV->Option Rs
 | some v=>some (.call (.ret v) (fin v s n))
 | none=>none
def tT(P:Program)(fn:Func)(n:Nat):Option Rs->Option Rs
 | some (.code e fr s)=>(match e with
   | .normal=>agO s n (I4 P s fn fr)
   | .ret=>agO s n (I4 P s fn fr)
   | .Mq v=>some (.call (.Mq v) (s.cut n))
   | .exit _=>none)
 | _=>none
def ajE(P:Program)(r:Rec)(fn:Func)(args:List AV)(s:AS):Option Code->Option Rs
 | some c=>tT P fn s.nx (r (.code c (args++List.replicate (fn.ntmps - args.length) (.sc undef)) s))
 | none=>none
def qQ(P:Program)(r:Rec)(args:List AV)(s:AS):Option Func->Option Rs
 | some fn=>ajE P r fn args s fn.body
 | none=>none
def ae2(P:Program)(r:Rec)(f:FuncId)(args:List AV)(s:AS):Option (FuncId×List AV×(CR->Option CR))->Option Rs
 | some (g,Yj,k)=>akv k (r (.call g Yj s))
 | none=>qQ P r args s P.funcs[f]?
def ai3(P:Program)(H:SS)(r:Rec)(f:FuncId)(args:List AV)(s:AS):Option (CR×AS)->Option Rs
 | some (c,s1)=>some (.call c s1)
 | none=>ae2 P r f args s (H f args)
def step(P:Program)(G:Bh)(X:Z5)(H:SS)(r:Rec):Tk->Option Rs
 | .code c fr s=>KH P G r fr s c
 | .loop c fr s=>lG r c (r (.code c fr s))
 | .ops ops l fr s=>agn r ops fr s l
 | .draw ops l fr s q=>YB r ops fr s q l
 | .op ops o fr s=>aov P G r fr s o (eC ops fr o.guard)
 | .call f args s=>ai3 P H r f args s (X f args s)
end AI
namespace AI
open Go Go.RowKit
def an1(l:List AV):Nat->AV:=List.rec (motive:=λ_=>Nat->AV) (λ_=>.sc undef) (λa _ ih n=>Nat.rec (motive:=λ_=>AV) a (λk _=>ih k) n) l
def ag6(l:List AV)(n:Nat):an1 l n=nth l n:=by
 induction l generalizing n with
 | nil=>rfl
 | cons a l ih=>cases n with
   | zero=>rfl
   | succ n=>exact ih n
def akK(v:AV)(l:List AV):Nat->List AV:=List.rec (motive:=λ_=>Nat->List AV) (λ_=>[]) (λa t ih n=>Nat.rec (motive:=λ_=>List AV) (v::t) (λk _=>a::ih k) n) l
def ah5(v:AV)(l:List AV)(n:Nat):akK v l n=l.set n v:=by
 induction l generalizing n with
 | nil=>rfl
 | cons a l ih=>cases n with
   | zero=>rfl
   | succ n=>show a::akK v l n=_;rw[ih];rfl
def ajK(fr:List AV)(dst:Option Tmp)(v:AV):List AV:=Option.rec (motive:=λ_=>List AV) fr (λd=>akK v fr d) dst
def aea(fr:List AV)(dst:Option Tmp)(v:AV):ajK fr dst v=Pt fr dst v:=by cases dst with
 | none=>rfl
 | some d=>exact ah5 v fr d
abbrev Sm:=Program->Bh->List AV->AS->Oper->Option AR
def aoq(t:Tmp)(_:Bh)(fr:List AV):Option AV:=some (an1 fr t)
def aiE(v:Value)(_:Bh)(_:List AV):Option AV:=Z8 v
def amU(g:Nat)(G:Bh)(_:List AV):Option AV:=evG (G g)
def atv(f:FuncId)(_:Bh)(_:List AV):Option AV:=some (.fn (.func f) [] [])
def evR(x:Operand):Bh->List AV->Option AV:=Operand.rec (motive:=λ_=>Bh->List AV->Option AV) aoq aiE amU atv x
def amx(x:Operand)(G:Bh)(fr:List AV):evR x G fr=A5 G fr x:=by
 cases x with
 | tmp t=>show some (an1 fr t)=some (nth fr t);rw[ag6]
 | const v=>rfl
 | global g=>rfl
 | func f=>rfl
def jL{α β:Type}(o:Option α)(f:α->Option β):Option β:=Option.rec (motive:=λ_=>Option β) none f o
def aiG{α β:Type}(o:Option α)(f:α->Option β):jL o f=oI o f:=by cases o<;>rfl
def apY(s:AS)(v:AV):Option AR:=some (.val v s)
def xV(s:AS)(o:Option AV):Option AR:=jL o (apY s)
def ahv(s:AS)(o:Option AV):xV s o=Pq s o:=by cases o<;>rfl
def qC(x:Operand):Sm:=λ_ G fr s _=>xV s (evR x G fr)
def aje(c a b:Operand):Sm:=λ_ G fr s _=>Pq s (aj3 (A5 G fr a) (A5 G fr b) (A5 G fr c))
def ae4(e:TypeId):Sm:=λP _ _ s _=>afy s (JF P e)
def aow(_:TypeId)(x:Operand):Sm:=λ_ G fr s _=>aaX s (A5 G fr x)
def aeG(t:TypeId)(ps:Array (Nat×Operand)):Sm:=λP G fr s _=>Pq s (oI (OI G fr ps.toList) (iO P t))
def jZ(t:TypeId)(n:Nat)(ps:Array (Nat×Operand)):Sm:=λP G fr s _=>Pq s (oI (OI G fr ps.toList) (O3 P t n))
def zU(t:TypeId)(a:Operand):Sm:=λP G fr s _=>xV s (jL (evR a G fr) (Lk P s t))
def ad9(t:TypeId)(a x:Operand):Sm:=λP G fr s _=>rY (two (A5 G fr a) (A5 G fr x) (MX P s t))
def ane(x:Operand):Sm:=λ_ G fr s _=>yW s (A5 G fr x)
def adL(op:BinOp)(t:TypeId)(x y:Operand)(_:TypeId):Sm:=λP G fr s _=>xV s (jL (evR x G fr) (λa=>jL (evR y G fr) (λb=>iI P op t x y a b)))
def apk(op:UnOp)(_:TypeId)(x:Operand):Sm:=λP G fr s _=>aaF P s (Op.unary op) (oI (A5 G fr x) TG)
def ahd(src dst:TypeId)(x:Operand):Sm:=λP G fr s _=>aaF P s (convert src dst) (oI (A5 G fr x) TG)
def ac8(t:TypeId)(x:Operand):Sm:=λP G fr s _=>vW t s (A5 G fr x) (P.underlying t)
def agi(f:Fn)(first Q8:Array Operand):Sm:=λ_ G fr s _=>func1 f s (jW G fr Q8.toList) (jW G fr first.toList)
def akY(_:TypeId)(r:Option Operand):Sm:=λ_ _ _ s _=>qT s r
def aiw(t:TypeId)(l c:Operand):Sm:=λP G fr s _=>aco (two (A5 G fr l) (A5 G fr c) (Iq P s t))
def ad8(t:TypeId)(x:Operand)(lo hi mx:Option Operand):Sm:=λP G fr s _=>afY P s t (qM G fr lo) (qM G fr hi) (qM G fr mx) (A5 G fr x)
def lC(t:TypeId)(x:Operand)(k:Nat):Sm:=λP G fr s _=>xV s (jL (evR x G fr) λa=>U1 P t a k)
def adP(t:TypeId)(x:Operand)(k:Nat):Sm:=λP G fr s _=>Pq s (oI (A5 G fr x) λa=>fF P t a k)
def lD(t:TypeId)(x i:Operand):Sm:=λP G fr s _=>xV s (jL (evR x G fr) (λa=>jL (evR i G fr) (λb=>BW P t a b)))
def tD(t:TypeId)(x i:Operand):Sm:=λP G fr s _=>xV s (jL (evR x G fr) (λa=>jL (evR i G fr) (λb=>cT P t a b)))
def acD(t:TypeId)(x k:Operand)(ok:Bool):Sm:=λP G fr s _=>Pq s (two (A5 G fr x) (A5 G fr k) λa b=>H3 P s t a b ok)
def adj(t:TypeId)(m k x:Operand):Sm:=λP G fr s _=>rY (three (A5 G fr m) (A5 G fr k) (A5 G fr x) (K9 P s t))
def afd(t:TypeId)(m k:Operand):Sm:=λP G fr s _=>aco (two (A5 G fr m) (A5 G fr k) (Sw P s t))
def acx(_:TypeId)(m st x:Operand):Sm:=λ_ G fr s _=>rY (three (A5 G fr m) (A5 G fr st) (A5 G fr x) (O1 s))
def wH(x:Operand)(k:Nat):Sm:=λ_ G fr s _=>Pq s (oI (A5 G fr x) λa=>UM a k)
def ahT(cl:Call):Sm:=λP G fr s o=>nN P G fr s o cl
def adQ(x:Operand):Sm:=λ_ G fr _ _=>aqc (A5 G fr x)
def ape:Sm:=λ_ _ _ _ _=>none
def aeW(op:Op):Sm:=match op with
 | .move x=>qC x
 | .assign x=>qC x
 | .pick c a b=>aje c a b
 | .alloc e=>ae4 e
 | .box e x=>aow e x
 | .build t ps=>aeG t ps
 | .buildSlice t n ps=>jZ t n ps
 | .load t a=>zU t a
 | .store t a x=>ad9 t a x
 | .nilCheck x=>ane x
 | .binOp op t x y z=>adL op t x y z
 | .unOp op t x=>apk op t x
 | .convert a b x=>ahd a b x
 | .makeInterface t x=>ac8 t x
 | .makeFunc f a b=>agi f a b
 | .makeMap t r=>akY t r
 | .makeSlice t l c=>aiw t l c
 | .slice t x lo hi mx=>ad8 t x lo hi mx
 | .fieldAddr t x k=>lC t x k
 | .field t x k=>adP t x k
 | .indexAddr t x i=>lD t x i
 | .index t x i=>tD t x i
 | .lookup t x k ok=>acD t x k ok
 | .mapUpdate t m k x=>adj t m k x
 | .insert t m k x=>adj t m k x
 | .mapEntry t m k=>afd t m k
 | .entryStore t m st x=>acx t m st x
 | .extract x k=>wH x k
 | .call cl=>ahT cl
 | .panic x=>adQ x
 | _=>ape
def afl(P:Program)(G:Bh)(fr:List AV)(s:AS)(o:Oper):aeW o.op P G fr s o=Wv P G fr s o:=by
 unfold aeW Wv;cases o.op<;>try rfl
 all_goals simp only[qC,zU,adL,lC,lD,tD,amx,ahv,aiG]
 all_goals first
   | done
   | (rename_i a b c d e;cases A5 G fr c<;>cases A5 G fr d<;>rfl)
   | (rename_i a b c;cases A5 G fr b<;>cases A5 G fr c<;>rfl)
def eG(ops:Array Oper)(fr:List AV)(g:Option (Nat×Bool)):Bool:=Option.rec (motive:=λ_=>Bool) true (λp=>eC ops fr (some p)) g
def abB(ops:Array Oper)(fr:List AV)(g:Option (Nat×Bool)):eG ops fr g=eC ops fr g:=by cases g<;>rfl
def adp(r:Rec)(ops:Array Oper)(dst:Option Tmp)(l:List Oper)(fr:List AV):Option Rs->Option Rs
 | some (.call c s)=>(match c with
   | .ret v=>r (.ops ops l (ajK fr dst v) s)
   | .Mq v=>some (.code (.Mq v) fr s))
 | _=>none
def Xz(P:Program)(G:Bh)(r:Rec)(fr:List AV)(s:AS)(o:Oper)(b:Bool):Option Rs:=Bool.rec (motive:=λ_=>Option Rs) (some (.call (.ret (.sc undef)) s)) (opK r s (aeW o.op P G fr s o)) b
def dJ(P:Program)(G:Bh)(r:Rec)(ops:Array Oper)(fr:List AV)(s:AS)(l:List Oper):Option Rs:=List.rec (motive:=λ_=>Option Rs) (some (.code .normal fr s)) (λo l _=>adp r ops o.dst l fr (Xz P G r fr s o (eG ops fr o.guard))) l
abbrev Ss:=Program->Bh->Rec->List AV->AS->Option Rs
def akI:Ss:=λ_ _ _ fr s=>some (.code .normal fr s)
def amt(id:Nat):Ss:=λ_ _ _ fr s=>some (.code (.exit id) fr s)
def aq2:Ss:=λ_ _ _ fr s=>some (.code .ret fr s)
def aqE(x y:Code):Ss:=λ_ _ r fr s=>aby r y (r (.code x fr s))
def aon(q:Operand)(x y:Code):Ss:=λ_ G r fr s=>zN r x y fr s (A5 G fr q)
def ag7(id:Nat)(c:Code):Ss:=λ_ _ r fr s=>wJ id (r (.code c fr s))
def alg(c:Code):Ss:=λ_ _ r fr s=>sH (r (.loop c fr s))
def adu(_:Nat)(ops:Array Oper)(d:Bool):Ss:=λP G r fr s=>cJ P G r ops fr s d
def atb:Ss:=λ_ _ _ _ _=>none
def aai(c:Code):Ss:=match c with
 | .skip=>akI
 | .exit id=>amt id
 | .ret=>aq2
 | .seq x y=>aqE x y
 | .cond q x y=>aon q x y
 | .block id c=>ag7 id c
 | .loop c=>alg c
 | .region id ops d=>adu id ops d
 | _=>atb
def wL(P:Program)(G:Bh)(r:Rec)(fr:List AV)(s:AS)(c:Code):aai c P G r fr s=KH P G r fr s c:=by cases c<;>rfl
def eW(P:Program)(G:Bh)(X:Z5)(H:SS)(r:Rec):Tk->Option Rs
 | .code c fr s=>aai c P G r fr s
 | .loop c fr s=>lG r c (r (.code c fr s))
 | .ops ops l fr s=>dJ P G r ops fr s l
 | .draw ops l fr s q=>YB r ops fr s q l
 | .op ops o fr s=>Xz P G r fr s o (eG ops fr o.guard)
 | .call f args s=>ai3 P H r f args s (X f args s)
def goR(P:Program)(G:Bh)(X:Z5)(H:SS)(n:Nat):Rec:=Nat.rec (motive:=λ_=>Rec) (λ_=>none) (λ_ ih=>eW P G X H ih) n
end AI
namespace AI
open Go Go.RowKit
section
variable {P:Program} {G:Bh} {X:Z5} {H:SS} {r:Rec}
def akC(hr:∀tk rs,r tk=some rs->Rt P G (XP X) H tk rs){ops:Array Oper}{o:Oper}{fr:List AV}{s:AS}{rs:Rs}(h:Xz P G r fr s o (eG ops fr o.guard)=some rs):Rt P G (XP X) H (.op ops o fr s) rs:=by
 rw[abB,abi] at h;unfold Xz at h;cases hw:Cl ops fr o with
 | false=>rw[hw] at h;simp only at h;cases h;exact J.nF hw
 | true =>
   rw[hw] at h;simp only at h;rw[afl,OK] at h;cases ha:SW P G fr s o with
   | none=>rw[ha] at h;cases h
   | some a =>
     rw[ha] at h;cases a with
     | val v s1=>simp only[opK] at h;cases h;exact J.RD hw ha
     | Mq v=>simp only[opK] at h;cases h;exact J.afg hw ha
     | ent f args =>
       simp only[opK] at h;cases hc:r (.call f args s) with
       | none=>rw[hc] at h;cases h
       | some q =>
         rw[hc] at h;cases q with
         | call c s1=>simp only[akh] at h;cases h;exact J.S1 hw ha (hr _ _ hc)
         | _=>cases h
def ac2(hr:∀tk rs,r tk=some rs->Rt P G (XP X) H tk rs)(tk:Tk)(rs:Rs)(h:eW P G X H r tk=some rs):Rt P G (XP X) H tk rs:=by
 cases tk with
 | code c fr s =>
   simp only[eW,wL] at h;cases c with
   | skip=>simp only[KH] at h;cases h;exact J.skip
   | exit id=>simp only[KH] at h;cases h;exact J.exit
   | ret=>simp only[KH] at h;cases h;exact J.ret
   | seq x y =>
     simp only[KH] at h;cases h1:r (.code x fr s) with
     | none=>rw[h1] at h;cases h
     | some q =>
       rw[h1] at h;have i1:=hr _ _ h1;cases q with
       | code e TR s1 =>
         cases e with
         | normal =>
           simp only[aby] at h;have i2:=hr _ _ h;cases rs with
           | code e Cm s'=>exact J.seq i1 i2
           | call r s'=>exact i2.elim
           | tr t Cm s'=>exact i2.elim
         | exit id=>simp only[aby] at h;cases h;exact J.jK i1 (by simp)
         | ret=>simp only[aby] at h;cases h;exact J.jK i1 (by simp)
         | Mq v=>simp only[aby] at h;cases h;exact J.jK i1 (by simp)
       | _=>cases h
   | cond q x y =>
     simp only[KH,Cu] at h;cases hq:Bp G fr q with
     | none=>rw[hq] at h;cases h
     | some v =>
       rw[hq] at h;cases v with
       | sc u =>
         cases u with
         | bool t =>
           cases t with
           | true =>
             simp only[zN] at h;have i2:=hr _ _ h;cases rs with
             | code e Cm s'=>exact J.cond hq i2
             | call r s'=>exact i2.elim
             | tr t Cm s'=>exact i2.elim
           | false =>
             simp only[zN] at h;have i2:=hr _ _ h;cases rs with
             | code e Cm s'=>exact J.cond hq i2
             | call r s'=>exact i2.elim
             | tr t Cm s'=>exact i2.elim
         | _=>cases h
       | _=>cases h
   | block id c =>
     simp only[KH] at h;cases h1:r (.code c fr s) with
     | none=>rw[h1] at h;cases h
     | some q =>
       rw[h1] at h;cases q with
       | code e TR s1=>simp only[wJ] at h;cases h;exact J.block (hr _ _ h1)
       | _=>cases h
   | loop c =>
     simp only[KH] at h;cases h1:r (.loop c fr s) with
     | none=>rw[h1] at h;cases h
     | some q =>
       rw[h1] at h;cases q with
       | code e TR s1=>simp only[sH] at h;cases h;exact J.loop (hr _ _ h1)
       | _=>cases h
   | region id ops d =>
     simp only[KH] at h;cases d with
     | false =>
       simp only[cJ] at h;cases h1:r (.ops ops ops.toList fr s) with
       | none=>rw[h1] at h;cases h
       | some q =>
         rw[h1] at h;cases q with
         | code e TR s1 =>
           simp only[sH] at h;cases h;have:=hr _ _ h1 0 (by simp);refine J.region ?_;rw[Array.length_toList] at this;rw[List.range_eq_range'];exact this
         | _=>cases h
     | true =>
       simp only[cJ] at h;cases Jn:PF ops with
       | false=>rw[Jn] at h;cases h
       | true =>
         rw[Jn] at h;simp only[aj5] at h;cases hrs:rsv P ops.toList with
         | none=>rw[hrs] at h;cases h
         | some r0 =>
           rw[hrs] at h;simp only[aka] at h;cases h1:r (.draw ops ops.toList fr (s.hold r0) s.nx) with
           | none=>rw[h1] at h;cases h
           | some q =>
             rw[h1] at h;cases q with
             | tr t TR s1 =>
               simp only[ajN] at h;cases HK:dO P G ops t s1 s.nx r0 with
               | false=>rw[HK] at h;cases h
               | true=>rw[HK] at h;simp only at h;cases h;exact ajg Jn hrs (hr _ _ h1) HK
             | _=>cases h
   | _=>simp only[KH] at h;cases h
 | loop c fr s =>
   simp only[eW] at h;cases h1:r (.code c fr s) with
   | none=>rw[h1] at h;cases h
   | some q =>
     rw[h1] at h;have i1:=hr _ _ h1;cases q with
     | code e TR s1 =>
       cases e with
       | normal =>
         simp only[lG] at h;have i2:=hr _ _ h;cases rs with
         | code e Cm s'=>exact J.aeQ i1 i2
         | call r s'=>exact i2.elim
         | tr t Cm s'=>exact i2.elim
       | exit id=>simp only[lG] at h;cases h;exact J.cZ i1 (by simp)
       | ret=>simp only[lG] at h;cases h;exact J.cZ i1 (by simp)
       | Mq v=>simp only[lG] at h;cases h;exact J.cZ i1 (by simp)
     | _=>cases h
 | ops ops l fr s =>
   simp only[eW] at h;cases l with
   | nil=>simp only[dJ] at h;cases h;intro k _;exact J.xZ
   | cons o l =>
     simp only[dJ] at h;cases h1:Xz P G r fr s o (eG ops fr o.guard) with
     | none=>rw[h1] at h;cases h
     | some q =>
       rw[h1] at h;have i1:=akC hr h1;cases q with
       | call c s1 =>
         cases c with
         | ret v =>
           simp only[adp,aea] at h;have i2:=hr _ _ h;cases rs with
           | code e Cm s' =>
             intro k hk
             obtain⟨wW,hk2⟩:ops.toList[k]?=some o/\l=ops.toList.drop (k+1):=by
               constructor;have:=congrArg (λx=>x[0]?) hk;simpa using this.symm
               have:=congrArg List.tail hk;rw[List.tail_drop] at this;exact this
             rw[List.length_cons,List.range'_succ];exact J.oZ (by rw[<- Array.getElem?_toList];exact wW) i1 (i2 (k+1) hk2)
           | call r s'=>exact i2.elim
           | tr t Cm s'=>exact i2.elim
         | Mq v =>
           simp only[adp] at h;cases h;intro k hk
           have wW:ops.toList[k]?=some o:=by
             have:=congrArg (λx=>x[0]?) hk;simpa using this.symm
           rw[List.length_cons,List.range'_succ];exact J.vN (by rw[<- Array.getElem?_toList];exact wW) i1
       | _=>cases h
 | draw ops l fr s q0 =>
   simp only[eW] at h;cases l with
   | nil=>simp only[YB] at h;cases h;exact RJ.nil
   | cons o l =>
     simp only[YB] at h;cases ha:BG o.op with
     | true =>
       rw[ha] at h;simp only[xO,aeU] at h;cases h2:r (.draw ops l (Pt fr o.dst (Nj ops fr o q0)) s (q0+1)) with
       | none=>rw[h2] at h;cases h
       | some q =>
         rw[h2] at h;cases q with
         | tr t TR s2=>simp only[trK] at h;cases h;exact RJ.alloc ha (hr _ _ h2)
         | _=>cases h
     | false =>
       rw[ha] at h;simp only[xO] at h;cases h1:r (.op ops o fr s) with
       | none=>rw[h1] at h;cases h
       | some q =>
         rw[h1] at h;cases q with
         | call c s1 =>
           cases c with
           | ret v =>
             simp only[adA] at h;cases h2:r (.draw ops l (Pt fr o.dst v) s1 q0) with
             | none=>rw[h2] at h;cases h
             | some q =>
               rw[h2] at h;cases q with
               | tr t TR s2=>simp only[trK] at h;cases h;exact RJ.cons ha (hr _ _ h1) (hr _ _ h2)
               | _=>cases h
           | Mq v=>cases h
         | _=>cases h
 | op ops o fr s=>exact akC hr h
 | call f args s =>
   simp only[eW] at h;cases hx:X f args s with
   | some q=>rw[hx] at h;obtain⟨c,s1⟩:=q;simp only[ai3] at h;cases h;exact J.ext hx
   | none =>
     rw[hx] at h;simp only[ai3] at h;cases hh:H f args with
     | some q =>
       obtain⟨g,Yj,k⟩:=q;rw[hh] at h;simp only[ae2] at h;cases h1:r (.call g Yj s) with
       | none=>rw[h1] at h;cases h
       | some q =>
         rw[h1] at h;cases q with
         | call c s1 =>
           simp only[akv] at h;cases hk:k c with
           | none=>rw[hk] at h;cases h
           | some c1=>rw[hk] at h;simp only at h;cases h;exact J.aiV hh (hr _ _ h1) hk
         | _=>cases h
     | none =>
       rw[hh] at h;simp only[ae2] at h;cases hf:P.funcs[f]? with
       | none=>rw[hf] at h;cases h
       | some fn =>
         rw[hf] at h;simp only[qQ] at h;cases hb:fn.body with
         | none=>rw[hb] at h;cases h
         | some c =>
           rw[hb] at h;simp only[ajE] at h;cases h1:r (.code c (args++List.replicate (fn.ntmps - args.length) (.sc undef)) s) with
           | none=>rw[h1] at h;cases h
           | some q =>
             rw[h1] at h;have i1:=hr _ _ h1;cases q with
             | code e TR s1 =>
               cases e with
               | normal =>
                 simp only[tT] at h;cases ha:I4 P s1 fn TR with
                 | none=>rw[ha] at h;cases h
                 | some v=>rw[ha] at h;simp only[agO] at h;cases h;exact J.body hf hb i1 (.inl rfl) ha (aek _ _ _)
               | ret =>
                 simp only[tT] at h;cases ha:I4 P s1 fn TR with
                 | none=>rw[ha] at h;cases h
                 | some v=>rw[ha] at h;simp only[agO] at h;cases h;exact J.body hf hb i1 (.inr rfl) ha (aek _ _ _)
               | Mq v=>simp only[tT] at h;cases h;exact J.N5 hf hb i1
               | exit id=>simp only[tT] at h;cases h
             | _=>cases h
def alQ(n:Nat)(tk:Tk)(rs:Rs)(h:goR P G X H n tk=some rs):Rt P G (XP X) H tk rs:=by
 induction n generalizing tk rs with
 | zero=>cases h
 | succ n ih=>exact ac2 ih tk rs h
end
mutual
def plain:AV->Bool
 | .sc _=>true
 | .agg cs=>Bx cs
 | .Bj cs=>Bx cs
 | .sl o _ cs=>(match o with | .row _ _=>false | _=>true)&&Bx cs
 | .TW _ v=>plain v
 | .el cs=>Bx cs
 | .fn _ a b=>Bx a&&Bx b
 | .any=>true
 | _=>false
def Bx:List AV->Bool
 | []=>true
 | a::l=>plain a&&Bx l
end
mutual
def RW:AV->AV
 | .agg cs=>.agg (YC cs)
 | .Bj cs=>.Bj (YC cs)
 | .sl o n cs=>.sl (match o with | .row _ _=>.lost | o=>o) n (YC cs)
 | .TW t v=>.TW t (RW v)
 | .el cs=>.el (YC cs)
 | a=>a
def YC:List AV->List AV
 | []=>[]
 | a::l=>RW a::YC l
end
mutual
def Vp:AV->Bool
 | .sc _=>true
 | .agg cs=>KU cs
 | .Bj cs=>KU cs
 | .sl _ _ cs=>KU cs
 | .TW _ v=>Vp v
 | .el cs=>KU cs
 | .any=>true
 | _=>false
def KU:List AV->Bool
 | []=>true
 | a::l=>Vp a&&KU l
end
section
variable {c c':Cx} {w w':World}
mutual
def Rp.plain(hv:∀g i v,Pu c w g i v->Pu c' w' g i v):∀{a:AV} {v:Value},AI.plain a=true->Rp c w a v->Rp c' w' a v:=by
 intro a v hp h;cases h with
 | sc h1=>exact .sc h1
 | agg h1=>exact .agg (C8.plain hv hp h1)
 | Bj h1=>exact .Bj (C8.plain hv hp h1)
 | @Ln own A cap h1 =>
   simp only[AI.plain,Bool.and_eq_true] at hp;cases own with
   | full=>exact .Ln h1
   | nil=>exact .Ln h1
   | nn=>exact .Ln h1
   | lost=>exact .Ln h1
   | row r sz=>cases hp.1
 | @Pg own n cap g o cs hn h1 ho =>
   simp only[AI.plain,Bool.and_eq_true] at hp;refine .Pg hn (Bn.plain hv hp.2 h1) ?_;cases own with
   | full=>exact ho
   | nil=>exact ho
   | nn=>exact ho
   | lost=>trivial
   | row r sz=>cases hp.1
 | G2 hn h1=>cases hp
 | el h1=>exact .el (Bn.plain hv hp h1)
 | ptr h1=>cases hp
 | fn h1 h2 =>
   simp only[AI.plain,Bool.and_eq_true] at hp;exact .fn (C8.plain hv hp.1 h1) (C8.plain hv hp.2 h2)
 | TW h1=>exact .TW (Rp.plain hv hp h1)
 | mp h1=>cases hp
 | any h1=>exact .any h1
 | raw=>first | (cases hp;done) | exact .raw
def C8.plain(hv:∀g i v,Pu c w g i v->Pu c' w' g i v):∀{a:List AV} {v:List Value},AI.Bx a=true->C8 c w a v->C8 c' w' a v:=by
 intro a v hp h;cases h with
 | nil=>exact .nil
 | cons h1 t =>
   simp only[AI.Bx,Bool.and_eq_true] at hp;exact .cons (Rp.plain hv hp.1 h1) (C8.plain hv hp.2 t)
def Bn.plain(hv:∀g i v,Pu c w g i v->Pu c' w' g i v):∀{a:List AV} {g o:Nat},AI.Bx a=true->Bn c w g o a->Bn c' w' g o a:=by
 intro a g o hp h;cases h with
 | nil=>exact .nil
 | cons hvv h1 t =>
   simp only[AI.Bx,Bool.and_eq_true] at hp;exact .cons (hv _ _ _ hvv) (Rp.plain hv hp.1 h1) (Bn.plain hv hp.2 t)
end
mutual
def Rp.RW(hv:∀g i v,Pu c w g i v->Pu c' w' g i v):∀{a:AV} {v:Value},Vp a=true->Rp c w a v->Rp c' w' (AI.RW a) v:=by
 intro a v hp h;cases h with
 | sc h1=>exact .sc h1
 | agg h1=>exact .agg (C8.RW hv hp h1)
 | Bj h1=>exact .Bj (C8.RW hv hp h1)
 | @Ln own A cap h1 =>
   cases own with
   | full=>exact .Ln h1
   | nil=>exact .Ln h1
   | nn=>exact .Ln h1
   | lost=>exact .Ln h1
   | row r sz=>exact .Ln trivial
 | @Pg own n cap g o cs hn h1 ho =>
   have h2:=Bn.RW hv hp h1;refine .Pg hn h2 ?_;cases own with
   | full=>exact ho
   | nil=>exact ho
   | nn=>exact ho
   | lost=>trivial
   | row r sz=>trivial
 | G2 hn h1=>cases hp
 | el h1=>exact .el (Bn.RW hv hp h1)
 | ptr h1=>cases hp
 | fn h1 h2=>cases hp
 | TW h1=>exact .TW (Rp.RW hv hp h1)
 | mp h1=>cases hp
 | any h1=>exact .any h1
 | raw=>first | (cases hp;done) | exact .raw
def C8.RW(hv:∀g i v,Pu c w g i v->Pu c' w' g i v):∀{a:List AV} {v:List Value},KU a=true->C8 c w a v->C8 c' w' (AI.YC a) v:=by
 intro a v hp h;cases h with
 | nil=>exact .nil
 | cons h1 t =>
   simp only[AI.KU,Bool.and_eq_true] at hp;exact .cons (Rp.RW hv hp.1 h1) (C8.RW hv hp.2 t)
def Bn.RW(hv:∀g i v,Pu c w g i v->Pu c' w' g i v):∀{a:List AV} {g o:Nat},KU a=true->Bn c w g o a->Bn c' w' g o (AI.YC a):=by
 intro a g o hp h;cases h with
 | nil=>exact .nil
 | cons hvv h1 t =>
   simp only[AI.KU,Bool.and_eq_true] at hp;exact .cons (hv _ _ _ hvv) (Rp.RW hv hp.1 h1) (Bn.RW hv hp.2 t)
end
end
def s0:AS:=⟨[],0,[],0⟩
def tO{P:Program}{G:Bh}(hG:∀g cs,G g=some cs->Bx cs=true){f:FuncId}{args:List AV}{v:AV}{s1:AS}(h:Sound P G (.call f args s0 (.ret v) s1))(hp:Bx args=true)(hb:Vp v=true)(s:AS):Sound P G (.call f args s (.ret (RW v)) s):=by
 intro cx w vs hs G6
 have Ls:∀g i x,Pu cx w g i x->Pu ⟨w.heap.size,[],[],cx.iT⟩ w g i x:=by
   intro g i x hx;refine⟨hx.1,λMF=>?_,hx.2.2⟩;rcases MF with MF | ⟨r,n,cap,sz,hr,_⟩ | MF
   cases MF;simp at hr;exact hx.2.1 MF
 have HK:St G ⟨w.heap.size,[],[],cx.iT⟩ w s0 :=
   ⟨rfl,trivial,(λi j g h1=>by simp at h1),(λg hg=>by cases hg),(λid g b h1=>by simp at h1),rfl,(λr g n cap sz hr=>by simp at hr),(λr n hr=>by cases hr),(λg hg=>by cases hg),(λg i hb=>hs.ZB hb),(λr r' g n cap sz n' DQ Qc hr=>by simp at hr),(λg cs hg=>Bn.plain Ls (hG g cs hg) (hs.RN g cs hg)),Nat.le_refl _⟩
 refine(h _ w vs HK (C8.plain Ls hp G6)).mono ?_;rintro e w' ⟨c',hx,_,u,rfl,hu⟩;have Ou:=hx.below;obtain⟨x2,YU⟩:=hs.same (w':=w') ⟨Ou.os,Ou.tape,Ou.output,Ou.size,λk hk _=>Ou.block k hk⟩;refine⟨cx,x2,YU,u,rfl,Rp.RW (λg i x hv=>⟨hv.1,λMF=>hv.2.1 (.inr (.inr ?_)),hv.2.2⟩) hb hu⟩;rw[hx.bad];exact MF
def sT{P:Program}{G:Bh}(hG:∀g cs,G g=some cs->Bx cs=true){f:FuncId}{args cs uY:List AV}{v:AV}{s1:AS}(h:Sound P G (.call f (.ptr 0 0::args) ⟨[(0,.cells cs)],1,[],0⟩ (.ret v) s1))(Xa:s1.get 0=some (.cells uY))(hp:Bx args=true)(iV:Bx cs=true)(hb:Vp v=true)(Vw:KU uY=true)(s:AS)(id:Nat)(hid:s.get id=some (.cells cs)) :
   Sound P G (.call f (.ptr id 0::args) s (.ret (RW v)) (s.put id (.cells (YC uY)))):=by
 intro cx w vs hs G6;cases G6 with
 | @cons _ pv _ avs asS aoV =>
   cases asS with
   | @ptr _ _ g aT =>
     have hgm:some g∈cx.C6:=List.mem_of_getElem? aT
     have Ls:∀k i x,Pu cx w k i x->Pu ⟨0,[some g],[],λk i=>k≠g/\cx.iT k i⟩ w k i x:=by
       intro k i x hx;refine⟨hx.1,λMF=>?_,hx.2.2⟩;rcases MF with MF | ⟨r,n,cap,sz,hr,_⟩ | MF
       have:k=g:=by simpa using MF
       subst this;exact hx.2.1 (.inl hgm);simp at hr;exact hx.2.1 MF.2
     obtain⟨us,ext,T,hw,hur⟩:=Qd hs aT hid
     have HK:St G ⟨0,[some g],[],λk i=>k≠g/\cx.iT k i⟩ w ⟨[(0,.cells cs)],1,[],0⟩:=by
       refine⟨rfl,⟨by simp,trivial⟩,(λi j g' h1 h2=>by have e1:=(List.getElem?_eq_some_iff.1 h1).1;have e2:=(List.getElem?_eq_some_iff.1 h2).1;simp at e1 e2;omega),(λg hg=>Nat.zero_le _),(λTY g' b h1 h2=>?_),rfl,(λr g n cap sz hr=>by simp at hr),(λr n hr=>by cases hr),(λg' hg=>?_),(λk i hb=>hs.ZB hb.2),(λr r' g n cap sz n' DQ Qc hr=>by simp at hr),(λg cs hg=>Bn.plain Ls (hG g cs hg) (hs.RN g cs hg)),Nat.zero_le _⟩;simp only[AS.get,look] at h2;split at h2;rename_i Vw;cases h2;have:=(beq_true Vw).symm;subst this;simp at h1;subst h1;exact⟨_,hw,.GZ ext (C8.plain Ls iV hur)⟩;cases h2;have:g'=g:=by simpa using hg
       subst this;exact hs.Oe hgm
     refine(h _ w _ HK (.cons (.ptr rfl) (C8.plain Ls hp aoV))).mono ?_;rintro e w' ⟨c',hx,TA,u,rfl,hu⟩;have iL:c'.C6[0]?=some (some g):=hx.get (c:=⟨0,[some g],[],λk i=>k≠g/\cx.iT k i⟩) rfl;obtain⟨us',ext',T',hw',atf⟩:=Qd TA iL Xa
     have aH:∀k i x,Pu c' w' k i x->Pu cx w' k i x:=by
       intro k i x hv;refine⟨hv.1,λMF=>?_,hv.2.2⟩;by_cases hk:k=g;subst hk;exact hv.2.1 (.inl (List.mem_of_getElem? iL));refine hv.2.1 (.inr (.inr ?_));rw[hx.bad];exact⟨hk,MF⟩
     have Ou:=hx.below;have Ur:sL w w' (λx=>x=g):=⟨Ou.os,Ou.tape,Ou.output,Ou.size,λk hk KS=>hx.fM k hk (by simpa using KS) (λr n cap sz=>by simp)⟩
     obtain⟨x2,YU⟩:=hs.ar1 aT Ur hw' (FR.GZ ext' (C8.RW aH Vw atf));exact⟨cx,x2,YU,u,rfl,Rp.RW aH hb hu⟩
end AI
namespace AI
open Go Go.RowKit
mutual
def under(n m:Nat):AV->Bool
 | .sc _=>true
 | .agg cs=>DU n m cs
 | .Bj cs=>DU n m cs
 | .sl o _ cs=>(match o with | .row r _=>decide (r < m) | _=>true)&&DU n m cs
 | .G2 id _ _=>decide (id < n)
 | .el cs=>DU n m cs
 | .ptr id _=>decide (id < n)
 | .fn _ a b=>DU n m a&&DU n m b
 | .TW _ v=>under n m v
 | .mp id=>decide (id < n)
 | .any=>true
 | .raw _ _ _=>true
def DU(n m:Nat):List AV->Bool
 | []=>true
 | a::l=>under n m a&&DU n m l
end
mutual
def Ad(n m:Nat):∀{a:AV},plain a=true->under n m a=true
 | .sc _,_=>rfl
 | .agg cs,h=>by simp only[plain] at h;simp only[under];exact Af n m h
 | .Bj cs,h=>by simp only[plain] at h;simp only[under];exact Af n m h
 | .sl o k cs,h=>by
   simp only[plain,Bool.and_eq_true] at h;simp only[under,Bool.and_eq_true];refine⟨?_,Af n m h.2⟩;cases o with
   | row r sz=>cases h.1
   | _=>rfl
 | .G2 _ _ _,h=>by cases h
 | .el cs,h=>by simp only[plain] at h;simp only[under];exact Af n m h
 | .ptr _ _,h=>by cases h
 | .fn _ a b,h=>by
   simp only[plain,Bool.and_eq_true] at h;simp only[under,Bool.and_eq_true];exact⟨Af n m h.1,Af n m h.2⟩
 | .TW _ v,h=>by simp only[plain] at h;simp only[under];exact Ad n m h
 | .mp _,h=>by cases h
 | .any,_=>rfl
 | .raw _ _ _,_=>rfl
def Af(n m:Nat):∀{l:List AV},Bx l=true->DU n m l=true
 | [],_=>rfl
 | a::l,h=>by
   simp only[Bx,Bool.and_eq_true] at h;simp only[DU,Bool.and_eq_true];exact⟨Ad n m h.1,Af n m h.2⟩
end
def Cx.upto(c:Cx)(n m:Nat):Cx:=⟨c.base,c.C6.take n,c.rows.take m,c.bad⟩
def E8{α:Type}{l:List α}{n i:Nat}{x:α}(h:(l.take n)[i]?=some x):l[i]?=some x/\i < n:=by
 rw[List.getElem?_take] at h;split at h;rename_i hi;exact⟨h,hi⟩;cases h
def Tj{α:Type}{l:List α}{n i:Nat}{x:α}(h:l[i]?=some x)(hi:i < n):(l.take n)[i]?=some x:=by
 rw[List.getElem?_take,if_pos hi];exact h
section
variable {c:Cx} {w:World} {n m:Nat}
def acL{g i:Nat}(h:(c.upto n m).iT g i):c.iT g i:=by
 rcases h with h | ⟨r,n,cap,sz,hr,h⟩ | h
 exact .inl (List.mem_of_mem_take h);exact .inr (.inl ⟨r,n,cap,sz,(E8 hr).1,h⟩);exact .inr (.inr h)
def X8{g i:Nat}{v:Value}(h:Pu c w g i v):Pu (c.upto n m) w g i v:=⟨h.1,λhs=>h.2.1 (acL hs),h.2.2⟩
mutual
def Rp.upto:∀{a:AV} {v:Value},under n m a=true->Rp c w a v->Rp (c.upto n m) w a v:=by
 intro a v hp h;cases h with
 | sc h1=>exact .sc h1
 | agg h1=>exact .agg (C8.upto hp h1)
 | Bj h1=>exact .Bj (C8.upto hp h1)
 | @Ln own A cap h1 =>
   simp only[AI.under,Bool.and_eq_true] at hp;cases own with
   | full=>exact .Ln h1
   | nil=>exact .Ln h1
   | nn=>exact .Ln h1
   | lost=>exact .Ln trivial
   | row r sz =>
     have hr:r < m:=of_decide_eq_true hp.1;refine .Ln ⟨h1.1,?_⟩;have:=h1.2;simp only[Cx.upto,List.length_take];omega
 | @Pg own k cap g o cs hn h1 ho =>
   simp only[AI.under,Bool.and_eq_true] at hp;refine .Pg hn (Bn.upto hp.2 h1) ?_;cases own with
   | full=>exact ho
   | nil=>exact ho
   | nn=>exact ho
   | lost=>trivial
   | row r sz =>
     have hr:r < m:=of_decide_eq_true hp.1;refine⟨ho.1,ho.2.1,?_,λe=>ho.2.2.2.1 (E8 e).1,λg' n' c' s' e=>ho.2.2.2.2 g' n' c' s' (E8 e).1⟩;have:=ho.2.2.1;simp only[Cx.upto,List.length_take];omega
 | G2 hn h1=>exact .G2 hn (Tj h1 (of_decide_eq_true hp))
 | el h1=>exact .el (Bn.upto hp h1)
 | ptr h1=>exact .ptr (Tj h1 (of_decide_eq_true hp))
 | fn h1 h2 =>
   simp only[AI.under,Bool.and_eq_true] at hp;exact .fn (C8.upto hp.1 h1) (C8.upto hp.2 h2)
 | TW h1=>exact .TW (Rp.upto hp h1)
 | mp h1=>exact .mp (Tj h1 (of_decide_eq_true hp))
 | any h1=>exact .any h1
 | raw=>exact .raw
def C8.upto:∀{a:List AV} {v:List Value},DU n m a=true->C8 c w a v->C8 (c.upto n m) w a v:=by
 intro a v hp h;cases h with
 | nil=>exact .nil
 | cons h1 t =>
   simp only[AI.DU,Bool.and_eq_true] at hp;exact .cons (Rp.upto hp.1 h1) (C8.upto hp.2 t)
def Bn.upto:∀{a:List AV} {g o:Nat},DU n m a=true->Bn c w g o a->Bn (c.upto n m) w g o a:=by
 intro a g o hp h;cases h with
 | nil=>exact .nil
 | cons hvv h1 t =>
   simp only[AI.DU,Bool.and_eq_true] at hp;exact .cons (X8 hvv) (Rp.upto hp.1 h1) (Bn.upto hp.2 t)
end
end
def Yn:AV->Bool
 | .sc v=>cN v
 | _=>true
def Wo{c:Cx}{w:World}{a:AV}{v:Value}(h:Rp c w a v)(hd:Yn a=true):cN v=true:=by
 cases h<;>first | rfl | exact hd | assumption | (cases hd;done)
def yE:AV->AV
 | .sl _ n cs=>.sl .lost n cs
 | a=>a
inductive Fg(n m:Nat):List AV->List AV->Prop where
 | nil:Fg n m [] []
 | fM {a:AV} {l k:List AV} (h:under n m a=true) (t:Fg n m l k):Fg n m (a::l) (a::k)
 | drop {a:AV} {l k:List AV} (h:Yn a=true) (t:Fg n m l k):Fg n m (a::l) (.any::k)
 | lost {o:Own} {j:Nat} {cs l k:List AV} (h:DU n m cs=true) (t:Fg n m l k):Fg n m (.sl o j cs::l) (.sl .lost j cs::k)
def Fg.ok{n m:Nat}{l k:List AV}(h:Fg n m l k){c:Cx}{w:World}{vs:List Value}(hr:C8 c w l vs):C8 (c.upto n m) w k vs:=by
 induction h generalizing vs with
 | nil=>cases hr;exact .nil
 | fM h _ ih=>cases hr with | cons h1 t=>exact .cons (h1.upto h) (ih t)
 | drop h _ ih=>cases hr with | cons h1 t=>exact .cons (.any (Wo h1 h)) (ih t)
 | @lost o j cs l k h _ ih =>
   cases hr with
   | cons h1 t =>
     refine .cons ?_ (ih t);cases h1 with
     | Ln _=>exact .Ln trivial
     | Pg hn hc ho=>exact .Pg hn (hc.upto h) trivial
def YF(n m:Nat):List (Value×AV×Nat)->Bool
 | []=>true
 | e::l=>under n m e.2.1&&YF n m l
def nS(n m:Nat):Bb->Bool
 | .cells cs=>DU n m cs
 | .map es _=>YF n m es
def Mk.upto{c:Cx}{w:World}{n m:Nat}:∀{es:List (Value×AV×Nat)} {fs:List MapEntry},YF n m es=true->Mk c w es fs->Mk (c.upto n m) w es fs:=by
 intro es
 induction es with
 | nil=>intro fs _ h;cases h;exact .nil
 | cons e es ih =>
   intro fs hu h;obtain⟨x,a,b⟩:=e;simp only[YF,Bool.and_eq_true] at hu;cases h with | cons h1 t=>exact .cons (h1.upto hu.1) (ih hu.2 t)
def FR.upto{c:Cx}{w:World}{n m:Nat}{b:Bb}{o:Obj}(hb:nS n m b=true)(h:FR c w b o):FR (c.upto n m) w b o:=by
 cases h with
 | GZ ext h1=>exact .GZ ext (h1.upto hb)
 | map h1=>exact .map (h1.upto hb)
def Fits(n m:Nat)(a b:AV):Prop:=∀(c:Cx) (w:World) (v:Value),Rp c w a v->Rp (c.upto n m) w b v
def Kc(n m:Nat)(a b:List AV):Prop:=∀(c:Cx) (w:World) (v:List Value),C8 c w a v->C8 (c.upto n m) w b v
def VY(n m:Nat)(a b:List AV):Prop:=∀(c:Cx) (w:World) (g o:Nat),Bn c w g o a->Bn (c.upto n m) w g o b
def Rj(n m:Nat)(a b:Bb):Prop:=∀(c:Cx) (w:World) (o:Obj),FR c w a o->FR (c.upto n m) w b o
def Fits.under{n m:Nat}{a:AV}(h:AI.under n m a=true):Fits n m a a:=λ_ _ _ hr=>hr.upto h
def Kc.under{n m:Nat}{a:List AV}(h:AI.DU n m a=true):Kc n m a a:=λ_ _ _ hr=>hr.upto h
def VY.under{n m:Nat}{a:List AV}(h:AI.DU n m a=true):VY n m a a:=λ_ _ _ _ hr=>hr.upto h
def Rj.under{n m:Nat}{b:Bb}(h:nS n m b=true):Rj n m b b:=λ_ _ _ hr=>hr.upto h
def Fits.plain{n m:Nat}{a:AV}(h:AI.plain a=true):Fits n m a a:=.under (Ad n m h)
def Kc.plain{n m:Nat}{a:List AV}(h:Bx a=true):Kc n m a a:=.under (Af n m h)
def VY.plain{n m:Nat}{a:List AV}(h:Bx a=true):VY n m a a:=.under (Af n m h)
def Fits.sc{n m:Nat}{v:Value}:Fits n m (.sc v) (.sc v):=.under rfl
def Fits.drop{n m:Nat}{a:AV}(h:Yn a=true):Fits n m a .any:=λ_ _ _ hr=>.any (Wo hr h)
def Fits.agg{n m:Nat}{a b:List AV}(h:Kc n m a b):Fits n m (.agg a) (.agg b):=λ_ _ _ hr=>by cases hr with | agg h1=>exact .agg (h _ _ _ h1)
def Fits.Bj{n m:Nat}{a b:List AV}(h:Kc n m a b):Fits n m (.Bj a) (.Bj b):=λ_ _ _ hr=>by cases hr with | Bj h1=>exact .Bj (h _ _ _ h1)
def Fits.lost{n m:Nat}{o:Own}{k:Nat}{a b:List AV}(h:VY n m a b)(e:a=[]->b=[]):Fits n m (.sl o k a) (.sl .lost k b):=λ_ _ _ hr=>by
 cases hr with
 | Ln _=>rw[e rfl];exact .Ln trivial
 | Pg hn hc ho=>exact .Pg hn (h _ _ _ _ hc) trivial
def Kc.nil{n m:Nat}:Kc n m [] []:=λ_ _ _ hr=>by cases hr;exact .nil
def Kc.cons{n m:Nat}{a b:AV}{l k:List AV}(h:Fits n m a b)(t:Kc n m l k):Kc n m (a::l) (b::k):=λ_ _ _ hr=>by cases hr with | cons h1 t1=>exact .cons (h _ _ _ h1) (t _ _ _ t1)
def VY.nil{n m:Nat}:VY n m [] []:=λ_ _ _ _ hr=>by cases hr;exact .nil
def VY.cons{n m:Nat}{a b:AV}{l k:List AV}(h:Fits n m a b)(t:VY n m l k):VY n m (a::l) (b::k):=λ_ _ _ _ hr=>by cases hr with | cons hv h1 t1=>exact .cons (X8 hv) (h _ _ _ h1) (t _ _ _ _ t1)
def Rj.cells{n m:Nat}{a b:List AV}(h:Kc n m a b):Rj n m (.cells a) (.cells b):=λ_ _ _ hr=>by cases hr with | GZ ext h1=>exact .GZ ext (h _ _ _ h1)
def aiU{G:Bh}(hG:∀g cs,G g=some cs->Bx cs=true){s s' s2:AS}{Cm I0:List AV}(hn:s2.nx=s.nx)(hr:s2.nr=s.nr)
   (hd:KO s2.h s2.nx) (akL:∀id b,look id s2.h=some b->∃b',look id s'.h=some b'/\Rj s.nx s.nr b' b) (hF:∀r n,Ec r s2.F=some n->Ec r s'.F=some n/\r < s.nr)
   (hf:Kc s.nx s.nr Cm I0) (cx:Cx) (w:World) (c':Cx) (w':World) (vs:List Value) (hx:Ext cx w c' w') (hs:St G cx w s) (DC:St G c' w' s') (YR:C8 c' w' Cm vs) :
   ∃c2,Ext cx w c2 w'/\St G c2 w' s2/\C8 c2 w' I0 vs:=by
 have aT:c'.C6.take s.nx=cx.C6:=by
   obtain⟨t,ht⟩:=hx.C6;rw[<- ht,hs.len,List.take_left]
 have hrl:(c'.rows.take s.nr).length=cx.rows.length:=by
   have:=hx.Kr;rw[List.length_take,hs.Kr];omega
 refine⟨c'.upto s.nx s.nr,⟨?_,?_,λr x kV h=>?_,λg i v hv=>X8 (hx.qP g i v hv),hx.below,hx.base,hx.bad,λg hg=>hx.yH g (List.mem_of_mem_take hg),λr g n cap sz h=>hx.tF r g n cap sz (E8 h).1,hx.fM⟩,?_,hf _ _ _ YR⟩;show cx.C6 <+: c'.C6.take s.nx;rw[aT];exact List.prefix_refl _;show cx.rows.length<=(c'.rows.take s.nr).length;omega;exact hx.rows r x kV (E8 h).1;refine⟨?_,hd,λi j g h1 h2=>DC.nodup i j g (E8 h1).1 (E8 h2).1,λg hg=>DC.low g (List.mem_of_mem_take hg),λid g b h1 h2=>?_,?_,λr g n cap sz h=>?_,λr n h=>?_,λg hg=>DC.T8 g (List.mem_of_mem_take hg),DC.SR,λr r' g n cap sz n' DQ Qc h h'=>DC.KK r r' g n cap sz n' DQ Qc (E8 h).1 (E8 h').1,λg cs hg=>(DC.RN g cs hg).upto (Af _ _ (hG g cs hg)),DC.Xh⟩;show s2.nx=(c'.C6.take s.nx).length;rw[aT,hn,hs.len];obtain⟨b',h3,h4⟩:=akL id b h2;obtain⟨o,ho,hb⟩:=DC.box id g b' (E8 h1).1 h3;exact⟨o,ho,h4 _ _ _ hb⟩;show s2.nr=(c'.rows.take s.nr).length;rw[hrl,hr,hs.Kr];obtain⟨a1,a2,a3,a4⟩:=DC.row r g n cap sz (E8 h).1;exact⟨a1,a2,λhm=>a3 (List.mem_of_mem_take hm),a4⟩;obtain⟨h1,h2⟩:=hF r n h;rcases DC.Lm r n h1 with ⟨h3,h4⟩ | ⟨g,cap,sz,h3⟩
 exact .inl ⟨Tj h3 h2,h4⟩;exact .inr ⟨g,cap,sz,Tj h3 h2⟩
end AI
namespace AI
open Go Go.RowKit
section
variable {P:Program} {G:Bh} {X:W5} {H:SS}
def W(P:Program)(G:Bh)(X:W5)(H:SS)(c:Code)(fr:List AV)(s:AS)(Q:AX->List AV->AS->Prop):Prop:=∃e Cm s',J P G X H (.code c fr s e Cm s')/\Q e Cm s'
def WL(P:Program)(G:Bh)(X:W5)(H:SS)(c:Code)(fr:List AV)(s:AS)(Q:AX->List AV->AS->Prop):Prop:=∃e Cm s',J P G X H (.loop c fr s e Cm s')/\Q e Cm s'
def WC(P:Program)(G:Bh)(X:W5)(H:SS)(f:FuncId)(args:List AV)(s:AS)(Q:CR->AS->Prop):Prop:=∃r s',J P G X H (.call f args s r s')/\Q r s'
def akp(P:Program)(G:Bh)(X:W5)(H:SS)(y:Code)(Q:AX->List AV->AS->Prop):AX->List AV->AS->Prop
 | .normal,fr,s=>W P G X H y fr s Q
 | e,fr,s=>Q e fr s
def Cy(id:Nat)(Q:AX->List AV->AS->Prop):AX->List AV->AS->Prop:=λe fr s=>Q (Gk id e) fr s
def PE(P:Program)(fn:Func)(n:Nat)(Q:CR->AS->Prop):AX->List AV->AS->Prop
 | .normal,fr,s=>∃v,I4 P s fn fr=some v/\Q (.ret v) (s.cut n)
 | .ret,fr,s=>∃v,I4 P s fn fr=some v/\Q (.ret v) (s.cut n)
 | .Mq v,_,s=>Q (.Mq v) (s.cut n)
 | _,_,_=>False
def W.mono{c:Code}{fr:List AV}{s:AS}{Q R:AX->List AV->AS->Prop}(h:W P G X H c fr s Q)(k:∀e fr s,Q e fr s->R e fr s):W P G X H c fr s R:=by
 obtain⟨e,Cm,s',h1,h2⟩:=h;exact⟨e,Cm,s',h1,k _ _ _ h2⟩
def WC.mono{f:FuncId}{args:List AV}{s:AS}{Q R:CR->AS->Prop}(h:WC P G X H f args s Q)(k:∀r s,Q r s->R r s):WC P G X H f args s R:=by
 obtain⟨r,s',h1,h2⟩:=h;exact⟨r,s',h1,k _ _ h2⟩
def apU{x y:Code}{fr:List AV}{s:AS}{Q:AX->List AV->AS->Prop}(h:W P G X H x fr s (akp P G X H y Q)):W P G X H (.seq x y) fr s Q:=by
 obtain⟨e,TR,s1,h1,h2⟩:=h;cases e with
 | normal =>
   obtain⟨e2,I0,s2,h3,h4⟩:=h2;exact⟨e2,I0,s2,.seq h1 h3,h4⟩
 | exit id=>exact⟨_,_,_,.jK h1 (by simp),h2⟩
 | ret=>exact⟨_,_,_,.jK h1 (by simp),h2⟩
 | Mq v=>exact⟨_,_,_,.jK h1 (by simp),h2⟩
def aiu{q:Operand}{x y:Code}{fr:List AV}{s:AS}{Q:AX->List AV->AS->Prop}(hq:Bp G fr q=some (.sc (.bool true)))(h:W P G X H x fr s Q):W P G X H (.cond q x y) fr s Q:=by
 obtain⟨e,TR,s1,h1,h2⟩:=h;exact⟨e,TR,s1,.cond hq h1,h2⟩
def ajy{q:Operand}{x y:Code}{fr:List AV}{s:AS}{Q:AX->List AV->AS->Prop}(hq:Bp G fr q=some (.sc (.bool false)))(h:W P G X H y fr s Q):W P G X H (.cond q x y) fr s Q:=by
 obtain⟨e,TR,s1,h1,h2⟩:=h;exact⟨e,TR,s1,.cond hq h1,h2⟩
def aaN{id:Nat}{c:Code}{fr:List AV}{s:AS}{Q:AX->List AV->AS->Prop}(h:W P G X H c fr s (Cy id Q)):W P G X H (.block id c) fr s Q:=by
 obtain⟨e,TR,s1,h1,h2⟩:=h;exact⟨_,TR,s1,.block h1,h2⟩
def am8{c:Code}{fr:List AV}{s:AS}{Q:AX->List AV->AS->Prop}(h:WL P G X H c fr s Q):W P G X H (.loop c) fr s Q:=by
 obtain⟨e,TR,s1,h1,h2⟩:=h;exact⟨_,TR,s1,.loop h1,h2⟩
def drop_cons{α:Type}{o:α}{l m:List α}{k:Nat}(h:o::l=m.drop k):m[k]?=some o/\l=m.drop (k+1):=by
 constructor;have:=congrArg (λx=>x[0]?) h;simpa using this.symm
 have:=congrArg List.tail h;rw[List.tail_drop] at this;exact this
def Vs{f:FuncId}{fn:Func}{c:Code}{args:List AV}{s:AS}{Q:CR->AS->Prop}(hf:P.funcs[f]?=some fn)(hb:fn.body=some c)(h:W P G X H c (args++List.replicate (fn.ntmps - args.length) (.sc undef)) s (PE P fn s.nx Q)):WC P G X H f args s Q:=by
 obtain⟨e,TR,s1,h1,h2⟩:=h;cases e with
 | normal=>obtain⟨v,h3,h4⟩:=h2;exact⟨_,_,.body hf hb h1 (.inl rfl) h3 (.inl rfl),h4⟩
 | ret=>obtain⟨v,h3,h4⟩:=h2;exact⟨_,_,.body hf hb h1 (.inr rfl) h3 (.inl rfl),h4⟩
 | Mq v=>exact⟨_,_,.N5 hf hb h1,h2⟩
 | exit id=>exact h2.elim
end
end AI
namespace AI
open Go Go.RowKit
abbrev XS(P:Program)(G:Bh):W5:=λf args s r s'=>Sound P G (.call f args s r s')
def H0:SS:=λ_ _=>none
def yI{P:Program}{G:Bh}(h:P.follows .mixedOrders=true):rO P G (XS P G) H0:=⟨h,λ_ _ _ _ _ h=>h,λ_ _ _ _ _ h=>by cases h⟩
def Pure(P:Program)(G:Bh)(f:FuncId)(args:List AV)(v:AV):Prop:=∀s,Sound P G (.call f args s (.ret v) s)
def rows{α:Type}(f:α->List AV)(l:List α):List AV:=l.flatMap f
def kH{α:Type}{f:α->List AV}{k:Nat}(hf:∀x,(f x).length=k){l:List α}{i:Nat}{x:α}(h:l[i]?=some x):(rows f l).drop (i*k)=f x++rows f (l.drop (i+1)):=by
 induction l generalizing i with
 | nil=>simp at h
 | cons y l ih =>
   cases i with
   | zero=>simp at h;subst h;simp[rows]
   | succ i =>
     have:=ih (i:=i) (by simpa using h)
     have e:rows f (y::l)=f y++rows f l:=by simp[rows]
     rw[e,List.drop_append,hf y,show(i+1)*k - k=i*k by rw[Nat.add_mul];omega,List.drop_eq_nil_of_le (by rw[hf y,Nat.add_mul];omega),List.nil_append,this];simp
def Nw{α:Type}{f:α->List AV}{k:Nat}(hf:∀x,(f x).length=k)(l:List α):(rows f l).length=l.length*k:=by
 induction l with
 | nil=>simp[rows]
 | cons y l ih =>
   have e:rows f (y::l)=f y++rows f l:=by simp[rows]
   rw[e,List.length_append,hf y,ih,List.length_cons,Nat.add_mul];omega
def O4{α:Type}(f:α->List AV)(l m:List α):rows f (l++m)=rows f l++rows f m:=by simp[rows]
def HV{α:Type}(f:α->List AV)(x:α)(m:List α):rows f (x::m)=f x++rows f m:=by simp[rows]
def yL{α:Type}{f:α->List AV}{l:List α}(h:∀x∈l,Bx (f x)=true):Bx (rows f l)=true:=by
 have bV:∀a b:List AV,Bx a=true->Bx b=true->Bx (a++b)=true:=by
   intro a b ha hb
   induction a with
   | nil=>exact hb
   | cons x a ih =>
     simp only[Bx,Bool.and_eq_true,List.cons_append] at ha ⊢;exact⟨ha.1,ih ha.2⟩
 induction l with
 | nil=>rfl
 | cons y l ih=>rw[HV];exact bV _ _ (h y List.mem_cons_self) (ih λx hx=>h x (List.mem_cons_of_mem _ hx))
def zH{P:Program}{α:Type}{f:α->List AV}{k:Nat}{t elem:TypeId}{e:TypeInfo}(hu:P.underlying t=some (.slice elem))(he:P.info? elem=some e)(hk:e.size=k)(hf:∀x,(f x).length=k){own:Own}{l:List α}{i:Nat}{x:α}(h:l[i]?=some x) :
   BW P t (.sl own l.length (rows f l)) (.sc (.int .i64 (i:Int)))=some (.el (f x++rows f (l.drop (i+1)))):=by
 have hi:=(List.getElem?_eq_some_iff.1 h).1
 have hn:Su (.sc (.int .i64 (i:Int)))=some i:=by
   unfold Su;simp
 unfold BW;rw[hu,hn];simp only[he,hk,if_pos hi,kH hf h]
def afx{i:Nat}(h:i<=9223372036854775807):IntKind.i64.wrap (i:Int)=(i:Int):=by
 refine IntWalk.i64_in _ ?_;omega
end AI
namespace AI
open Go Go.RowKit
section
variable {G:Bh}
inductive NZ where
 | t (tmp sz:Nat)
 | b (id i sz:Nat)
 | l (tmp:Nat)
 | lb (id i:Nat)
def aix:AV->Bool
 | .sl .full n cs=>(match n with | 0=>(match cs with | []=>true | _=>false) | _=>false)
 | _=>false
def nz1(fr:List AV)(s:AS):NZ->Option (List AV×AS)
 | .t k sz=>(match fr[k]? with
   | some a=>(match aix a with
     | true=>some (fr.set k (.sl (.row s.nr sz) 0 []),s.tok)
     | false=>none)
   | none=>none)
 | .b id i sz=>(match look id s.h with
   | some (.cells cs)=>(match cs[i]? with
     | some a=>(match aix a with
       | true=>some (fr,⟨upd id (.cells (cs.set i (.sl (.row s.nr sz) 0 []))) s.h,s.nx,(s.nr,0)::s.F,s.nr+1⟩)
       | false=>none)
     | none=>none)
   | _=>none)
 | .l k=>(match fr[k]? with
   | some a=>some (fr.set k (yE a),s)
   | none=>none)
 | .lb id i=>(match look id s.h with
   | some (.cells cs)=>(match cs[i]? with
     | some a=>some (fr,⟨upd id (.cells (cs.set i (yE a))) s.h,s.nx,s.F,s.nr⟩)
     | none=>none)
   | _=>none)
def nzs:List NZ->List AV->AS->Option (List AV×AS)
 | [],fr,s=>some (fr,s)
 | z::l,fr,s=>(match nz1 fr s z with
   | some (fr,s)=>nzs l fr s
   | none=>none)
def Wkn(G:Bh)(fr:List AV)(s:AS)(I0:List AV)(s2:AS):Prop:=∀(cx:Cx) (w:World) (vs:List Value),St G cx w s->C8 cx w fr vs->∃cx2,Ext cx w cx2 w/\St G cx2 w s2/\C8 cx2 w I0 vs
def Wkn.refl{fr:List AV}{s:AS}:Wkn G fr s fr s:=λcx w vs h1 h2=>⟨cx,Ext.refl _ _,h1,h2⟩
def Wkn.trans{fr I0 fr3:List AV}{s s2 s3:AS}(h:Wkn G fr s I0 s2)(k:Wkn G I0 s2 fr3 s3):Wkn G fr s fr3 s3:=λcx w vs h1 h2=>by
 obtain⟨c2,x2,s2,r2⟩:=h cx w vs h1 h2;obtain⟨c3,x3,s3,r3⟩:=k c2 w vs s2 r2;exact⟨c3,x2.trans x3,s3,r3⟩
def nE{a:AV}(h:aix a=true){c:Cx}{w:World}{v:Value}(hr:Rp c w a v){r sz:Nat}(hl:r < c.rows.length):Rp c w (.sl (.row r sz) 0 []) v:=by
 unfold aix at h;split at h;split at h;split at h;cases hr with
 | Ln h0=>exact .Ln ⟨h0,hl⟩
 | Pg hn hc ho =>
   have:_=0:=ho;subst this;exact .Ln ⟨rfl,hl⟩
 cases h;cases h;cases h
def kO{a:AV}{c:Cx}{w:World}{v:Value}(hr:Rp c w a v):Rp c w (yE a) v:=by
 cases hr with
 | Ln _=>exact .Ln trivial
 | Pg hn hc ho=>exact .Pg hn hc trivial
 | sc h=>exact .sc h
 | agg h=>exact .agg h
 | Bj h=>exact .Bj h
 | G2 h1 h2=>exact .G2 h1 h2
 | el h=>exact .el h
 | ptr h=>exact .ptr h
 | fn h1 h2=>exact .fn h1 h2
 | TW h=>exact .TW h
 | mp h=>exact .mp h
 | any h=>exact .any h
 | raw=>exact .raw
def C8.ad5{c:Cx}{w:World}{as:List AV}{vs:List Value}(h:C8 c w as vs){i:Nat}{a b:AV}(ha:as[i]?=some a)(hb:∀v,Rp c w a v->Rp c w b v):C8 c w (as.set i b) vs:=by
 induction as generalizing vs i with
 | nil=>simp at ha
 | cons x as ih =>
   cases h with
   | cons h1 t =>
     cases i with
     | zero=>simp at ha;subst ha;exact .cons (hb _ h1) t
     | succ i=>exact .cons h1 (ih t (by simpa using ha))
def St.aiN{c:Cx}{w:World}{s:AS}(h:St G c w s){id:Nat}{b b2:Bb}(hb:look id s.h=some b)(hk:∀o,FR c w b o->FR c w b2 o):St G c w ⟨upd id b2 s.h,s.nx,s.F,s.nr⟩ :=
 ⟨h.len,XU h.desc,h.nodup,h.low,λTY g b' h1 h2=>by
   rcases XA h2 with ⟨rfl,rfl⟩ | ⟨_,h3⟩
   obtain⟨o,ho,hbo⟩:=h.box _ g b h1 hb;exact⟨o,ho,hk o hbo⟩;exact h.box TY g b' h1 h3,h.Kr,h.row,h.Lm,h.T8,h.SR,h.KK,h.RN,h.Xh⟩
def anw{fr I0:List AV}{s s2:AS}{z:NZ}(h:nz1 fr s z=some (I0,s2)):Wkn G fr s I0 s2:=by
 intro cx w vs hs hr;cases z with
 | t k sz =>
   simp only[nz1] at h;split at h;rename_i a ha;split at h;rename_i hn;cases h;obtain⟨x,st⟩:=hs.tok;refine⟨_,x,st,(hr.mono x).ad5 ha (λv hv=>nE hn hv ?_)⟩;simp[hs.Kr];cases h;cases h
 | b id i sz =>
   simp only[nz1] at h;split at h;rename_i cs hb;split at h;rename_i a ha;split at h;rename_i hn;cases h;obtain⟨x,st⟩:=hs.tok;refine⟨_,x,st.aiN (b:=.cells cs) hb (λo ho=>?_),hr.mono x⟩;cases ho with
   | GZ ext h1=>exact .GZ ext (h1.ad5 ha (λv hv=>nE hn hv (by simp[hs.Kr])))
   cases h;cases h;cases h
 | l k =>
   simp only[nz1] at h;split at h;rename_i a ha;cases h;exact⟨cx,Ext.refl _ _,hs,hr.ad5 ha (λv hv=>kO hv)⟩;cases h
 | lb id i =>
   simp only[nz1] at h;split at h;rename_i cs hb;split at h;rename_i a ha;cases h;refine⟨cx,Ext.refl _ _,hs.aiN (b:=.cells cs) hb (λo ho=>?_),hr⟩;cases ho with
   | GZ ext h1=>exact .GZ ext (h1.ad5 ha (λv hv=>kO hv))
   cases h;cases h
def aft:∀{l:List NZ} {fr I0:List AV} {s s2:AS},nzs l fr s=some (I0,s2)->Wkn G fr s I0 s2:=by
 intro l
 induction l with
 | nil=>intro fr I0 s s2 h;simp only[nzs] at h;cases h;exact .refl
 | cons z l ih =>
   intro fr I0 s s2 h;simp only[nzs] at h;split at h;rename_i f1 s1 h1;exact(anw h1).trans (ih h);cases h
end
end AI
