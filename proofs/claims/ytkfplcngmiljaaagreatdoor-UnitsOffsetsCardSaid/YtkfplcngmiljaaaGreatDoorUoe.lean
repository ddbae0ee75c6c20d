/- Part of a proof: see the last text. -/
import Derived.Test.YtkfplcngmiljaaaGreatDoorUod
import Derived.LoopN
set_option linter.unusedVariables false
set_option linter.unusedSimpArgs false
namespace AI
open Go Go.RowKit
inductive AX where
 | normal
 | exit (id:Nat)
 | ret
 | pan (v:AV)
inductive CR where
 | ret (v:AV)
 | pan (v:AV)
def AY (ops:Array Oper) (fr:List AV) (o:Oper):Bool:=match o.guard with
 | none=>true
 | some (j,want)=>match (ops[j]?).bind (·.dst) with
   | some d=>match fr[d]? with
     | some (.sc (.bool b))=>b == want
     | _=>false
   | none=>false
def Cu (id:Nat):AX→AX
 | .exit id'=>if id'=id then .normal else .exit id'
 | e=>e
def I6 (P:Program) (s:AS) (fr:List AV):ResultVar→Option AV
 | .tmp t=>some (fr.getD t (.sc undef))
 | .cell t ty=>DO P s ty (fr.getD t (.sc undef))
def Gz (P:Program) (s:AS) (fr:List AV):List ResultVar→Option (List AV)
 | []=>some []
 | r::rs=>match I6 P s fr r,Gz P s fr rs with
   | some a,some as=>some (a::as)
   | _,_=>none
def Cm (P:Program) (s:AS) (fn:Func) (fr:List AV):Option AV:=match Gz P s fr fn.results.toList with
 | some [a]=>some a
 | some as=>some (.Bc as)
 | none=>none
inductive Jd where
 | code (c:Code) (fr:List AV) (s:AS) (e:AX) (fr':List AV) (s':AS)
 | loop (c:Code) (fr:List AV) (s:AS) (e:AX) (fr':List AV) (s':AS)
 | ops (ops:Array Oper) (l:List Nat) (fr:List AV) (s:AS) (e:AX) (fr':List AV) (s':AS)
 | op (ops:Array Oper) (o:Oper) (fr:List AV) (s:AS) (r:CR) (s':AS)
 | call (f:FuncId) (args:List AV) (s:AS) (r:CR) (s':AS)
def Bg (ops:Array Oper) (i:Nat):Option Tmp:=(ops[i]?).bind (·.dst)
def Lo (ops:Array Oper) (i:Nat):Prop:=∃ o,ops[i]?=some o∧calm o.op=false
def nO (ops:Array Oper) (i k:Nat):Prop:=(∀ l,Lo ops l→KV (Er ops.toList []) i l=true→l < k)∧(∀ l,Lo ops l→KV (Er ops.toList []) l i=true→k≤l)
abbrev JK:=FuncId→List AV→AS→CR→AS→Prop
abbrev Hl:=FuncId→List AV→Option (FuncId×List AV×(CR→Option CR))
def iR (P:Program) (G:AB) (t tx:TypeId) (a b:AV) (s:AS) (v:AV) (s':AS):Prop:=∀ (c:Cx) (w:World) (va vb:Value) (ty:TypeId),St G c w s→Rp c w a va→Rp c w b vb →
 ∃ u w' c',(Builtin.append_ #[t,tx] ty #[va,vb]).run P w=.ok u w'∧Ext c w c' w'∧St G c' w' s'∧Rp c' w' v u
inductive J (P:Program) (G:AB) (X:JK) (H:Hl):Jd→Prop where
 | skip {fr:List AV} {s:AS}:J P G X H (.code .skip fr s .normal fr s)
 | exit {id:Nat} {fr:List AV} {s:AS}:J P G X H (.code (.exit id) fr s (.exit id) fr s)
 | ret {fr:List AV} {s:AS}:J P G X H (.code .ret fr s .ret fr s)
 | seq {x y:Code} {fr fr1 fr':List AV} {s s1 s':AS} {e:AX} (h1:J P G X H (.code x fr s .normal fr1 s1)) (h2:J P G X H (.code y fr1 s1 e fr' s')):J P G X H (.code (.seq x y) fr s e fr' s')
 | seqX {x y:Code} {fr fr':List AV} {s s':AS} {e:AX} (h1:J P G X H (.code x fr s e fr' s')) (he:e≠.normal):J P G X H (.code (.seq x y) fr s e fr' s')
 | cond {q:Operand} {x y:Code} {t:Bool} {fr fr':List AV} {s s':AS} {e:AX} (hq:AE G fr q=some (.sc (.bool t))) (h:J P G X H (.code (if t then x else y) fr s e fr' s')):J P G X H (.code (.cond q x y) fr s e fr' s')
 | block {id:Nat} {c:Code} {fr fr':List AV} {s s':AS} {e:AX} (h:J P G X H (.code c fr s e fr' s')):J P G X H (.code (.block id c) fr s (Cu id e) fr' s')
 | loop {c:Code} {fr fr':List AV} {s s':AS} {e:AX} (h:J P G X H (.loop c fr s e fr' s')):J P G X H (.code (.loop c) fr s e fr' s')
 | loopN {c:Code} {fr fr1 fr':List AV} {s s1 s':AS} {e:AX} (h1:J P G X H (.code c fr s .normal fr1 s1)) (h2:J P G X H (.loop c fr1 s1 e fr' s')):J P G X H (.loop c fr s e fr' s')
 | loopX {c:Code} {fr fr':List AV} {s s':AS} {e:AX} (h1:J P G X H (.code c fr s e fr' s')) (he:e≠.normal):J P G X H (.loop c fr s e fr' s')
 | region {id:Nat} {ops:Array Oper} {fr fr':List AV} {s s':AS} {e:AX} (h:J P G X H (.ops ops (List.range ops.size) fr s e fr' s')):J P G X H (.code (.region id ops false) fr s e fr' s')
 | opsNil {ops:Array Oper} {fr:List AV} {s:AS}:J P G X H (.ops ops [] fr s .normal fr s)
 | opsCons {ops:Array Oper} {i:Nat} {l:List Nat} {o:Oper} {v:AV} {fr fr':List AV} {s s1 s':AS} {e:AX} (ho:ops[i]?=some o) (h:J P G X H (.op ops o fr s (.ret v) s1)) (t:J P G X H (.ops ops l (DK fr o.dst v) s1 e fr' s')):J P G X H (.ops ops (i::l) fr s e fr' s')
 | opsPan {ops:Array Oper} {i:Nat} {l:List Nat} {o:Oper} {v:AV} {fr:List AV} {s s1:AS} (ho:ops[i]?=some o) (h:J P G X H (.op ops o fr s (.pan v) s1)):J P G X H (.ops ops (i::l) fr s (.pan v) fr s1)
 | opVal {ops:Array Oper} {o:Oper} {fr:List AV} {s s':AS} {v:AV} (hw:AY ops fr o=true) (h:Hr P G fr s o=some (.val v s')):J P G X H (.op ops o fr s (.ret v) s')
 | opWeak {ops:Array Oper} {o:Oper} {fr:List AV} {s s':AS} {v v2:AV} (hq:quiet o.op=false) (h:J P G X H (.op ops o fr s (.ret v) s')) (hv:∀ cx w u,Rp cx w v u→Rp cx w v2 u):J P G X H (.op ops o fr s (.ret v2) s')
 | opWeakS {ops:Array Oper} {o:Oper} {fr:List AV} {s s1 s2:AS} {v:AV} (hq:quiet o.op=false) (h:J P G X H (.op ops o fr s (.ret v) s1)) (hs:∀ cx w,St G cx w s1→St G cx w s2):J P G X H (.op ops o fr s (.ret v) s2)
 | opApp {ops:Array Oper} {o:Oper} {fr:List AV} {s s':AS} {cl:Call} {x y:Operand} {t tx:TypeId} {a b v:AV} (hw:AY ops fr o=true) (ho:o.op=.call cl) (hcl:cl.callee=.builtin .append) (hx:cl.args.toList=[x,y]) (ht:cl.argTypes.toList=[t,tx]) (ha:AE G fr x=some a) (hb:AE G fr y=some b) (h:iR P G t tx a b s v s'):J P G X H (.op ops o fr s (.ret v) s')
 | opSkip {ops:Array Oper} {o:Oper} {fr:List AV} {s:AS} (hw:AY ops fr o=false):J P G X H (.op ops o fr s (.ret (.sc undef)) s)
 | opCall {ops:Array Oper} {o:Oper} {fr:List AV} {s s':AS} {f:FuncId} {args:List AV} {r:CR} (hw:AY ops fr o=true) (h:Hr P G fr s o=some (.ent f args)) (hc:J P G X H (.call f args s r s')):J P G X H (.op ops o fr s r s')
 | opPan {ops:Array Oper} {o:Oper} {fr:List AV} {s:AS} {v:AV} (hw:AY ops fr o=true) (h:Hr P G fr s o=some (.pan v)):J P G X H (.op ops o fr s (.pan v) s)
 | draw {id:Nat} {ops:Array Oper} {f0:List AV} {s0:AS} (rs:List Ap) (vals:Nat→AV) (sts:Nat→AS) (h0:sts 0=s0.hold rs) (hord:F5 ops=true)
     (hl:∀ i o,ops[i]?=some o→calm o.op=false→J P G X H (.op ops o (EH f0 (Bg ops) vals (fun _=>true) i) (sts i) (.ret (vals i)) (sts (i+1))))
     (hq:∀ i o,ops[i]?=some o→quiet o.op=true→sts (i+1)=sts i∧((AY ops (EH f0 (Bg ops) vals (fun _=>true) i) o=false∧vals i=.sc undef)∨(AY ops (EH f0 (Bg ops) vals (fun _=>true) i) o=true∧∀ k,k≤ops.size→nO ops i k→Hr P G (EH f0 (Bg ops) vals (fun _=>true) i) (sts k) o=some (.val (vals i) (sts k)))))
     (ha:∀ i o e,ops[i]?=some o→o.op=.alloc e→sts (i+1)=sts i∧((AY ops (EH f0 (Bg ops) vals (fun _=>true) i) o=false∧vals i=.sc undef)∨(AY ops (EH f0 (Bg ops) vals (fun _=>true) i) o=true∧∃ z,D6 P e=some z∧rk ops i < rs.length∧vals i=.ptr (s0.nx+rk ops i) 0∧∀ k,k≤ops.size→nO ops i k→(sts k).get (s0.nx+rk ops i)=some (.cells (cellsOf z))))) :
     J P G X H (.code (.region id ops true) f0 s0 .normal (EH f0 (Bg ops) vals (fun _=>true) ops.size) (sts ops.size))
 | body {f:FuncId} {fn:Func} {c:Code} {args fr':List AV} {s s' s2:AS} {e:AX} {v:AV} (hf:P.funcs[f]?=some fn) (hb:fn.body=some c) (h:J P G X H (.code c (args++List.replicate (fn.ntmps - args.length) (.sc undef)) s e fr' s')) (he:e=.normal∨e=.ret) (hr:Cm P s' fn fr'=some v) (hk:s2=s'.cut s.nx∨s2=s'):J P G X H (.call f args s (.ret v) s2)
 | bodyP {f:FuncId} {fn:Func} {c:Code} {args fr':List AV} {s s':AS} {v:AV} (hf:P.funcs[f]?=some fn) (hb:fn.body=some c) (h:J P G X H (.code c (args++List.replicate (fn.ntmps - args.length) (.sc undef)) s (.pan v) fr' s')):J P G X H (.call f args s (.pan v) (s'.cut s.nx))
 | ext {f:FuncId} {args:List AV} {s s':AS} {r:CR} (h:X f args s r s'):J P G X H (.call f args s r s')
 | weak {c:Code} {fr fr2 fr':List AV} {s s2 s':AS} {e:AX} (hw:∀ cx w vs,St G cx w s→A6 cx w fr vs→∃ cx2,Ext cx w cx2 w∧St G cx2 w s2∧A6 cx2 w fr2 vs) (h:J P G X H (.code c fr2 s2 e fr' s')):J P G X H (.code c fr s e fr' s')
 | weakL {c:Code} {fr fr2 fr':List AV} {s s2 s':AS} {e:AX} (hw:∀ cx w vs,St G cx w s→A6 cx w fr vs→∃ cx2,Ext cx w cx2 w∧St G cx2 w s2∧A6 cx2 w fr2 vs) (h:J P G X H (.loop c fr2 s2 e fr' s')):J P G X H (.loop c fr s e fr' s')
 | scope {c:Code} {fr fr2 fr':List AV} {s s2 s':AS} {e:AX} (h:J P G X H (.code c fr s e fr' s')) (he:∀ v,e≠.pan v) (hs:∀ cx w c' w' vs,Ext cx w c' w'→St G cx w s→St G c' w' s'→A6 c' w' fr' vs→∃ c2,Ext cx w c2 w'∧St G c2 w' s2∧A6 c2 w' fr2 vs):J P G X H (.code c fr s e fr2 s2)
 | hook {f g:FuncId} {args gargs:List AV} {k:CR→Option CR} {s s':AS} {r r':CR} (hh:H f args=some (g,gargs,k)) (h:J P G X H (.call g gargs s r s')) (hk:k r=some r'):J P G X H (.call f args s r' s')
def oD (G:AB) (c:Cx) (w:World) (r:CR) (s':AS) (e:Ending) (w':World):Prop :=
 ∃ c',Ext c w c' w'∧St G c' w' s'∧match r with
   | .ret v=>∃ u,e=.returned u∧Rp c' w' v u
   | .pan v=>∃ u,e=.panicked [{ v:=u,recovered:=false }]∧Rp c' w' v u
def Ku (G:AB) (c:Cx) (w:World) (e:AX) (fr':List AV) (s':AS) (e':Exit) (a':Act) (w':World):Prop :=
 ∃ c',Ext c w c' w'∧St G c' w' s'∧a'.defers=[]∧match e with
   | .normal=>e'=.normal∧A6 c' w' fr' a'.tmps.toList
   | .exit id=>e'=.exit id∧A6 c' w' fr' a'.tmps.toList
   | .ret=>e'=.ret∧A6 c' w' fr' a'.tmps.toList
   | .pan v=>∃ u,e'=.panic [{ v:=u,recovered:=false }]∧Rp c' w' v u
theorem Ku.ext {G:AB} {c c1:Cx} {w w1:World} {e:AX} {fr':List AV} {s':AS} {e':Exit} {a':Act} {w':World} (x:Ext c w c1 w1) (h:Ku G c1 w1 e fr' s' e' a' w'):Ku G c w e fr' s' e' a' w':=by
 obtain ⟨c',h1,h2⟩:=h
 exact ⟨c',x.trans h1,h2⟩
def Gu (P:Program) (ops:Array Oper) (o:Oper) (K:Act→World→Prop) (Q:Exit→Act→World→Prop) (a:Act) (w:World):Prop :=
 if Region.wanted o (yielded ops a.tmps) then o.wp P a w K Q else K (a.put o.dst undef) w
def Sound (P:Program) (G:AB):Jd→Prop
 | .code c fr s e fr' s'=>∀ (cx:Cx) (w:World) (a:Act) (Q:Exit→Act→World→Prop),St G cx w s→A6 cx w fr a.tmps.toList→a.defers=[]→(∀ e' a' w',Ku G cx w e fr' s' e' a' w'→Q e' a' w')→c.wp P Q a w
 | .loop c fr s e fr' s'=>∃ n,∀ (cx:Cx) (w:World) (a:Act) (Q:Exit→Act→World→Prop),St G cx w s→A6 cx w fr a.tmps.toList→a.defers=[]→(∀ e' a' w',Ku G cx w e fr' s' e' a' w'→Q e' a' w')→Code.rounds P c Q n a w
 | .ops ops l fr s e fr' s'=>∀ (cx:Cx) (w:World) (a:Act) (Q:Exit→Act→World→Prop),St G cx w s→A6 cx w fr a.tmps.toList→a.defers=[]→(∀ e' a' w',Ku G cx w e fr' s' e' a' w'→Q e' a' w')→wpOps P ops Q l a w
 | .op ops o fr s r s'=>∀ (cx:Cx) (w:World) (a:Act) (K:Act→World→Prop) (Q:Exit→Act→World→Prop),St G cx w s→(∀ x∈o.op.operands,Pg G cx w fr a.eval x)→AY ops fr o=Region.wanted o (yielded ops a.tmps) →
     (match r with
       | .ret v=>∀ u w' c',Ext cx w c' w'→St G c' w' s'→Rp c' w' v u→K (a.put o.dst u) w'
       | .pan v=>∀ u w' c',Ext cx w c' w'→St G c' w' s'→Rp c' w' v u→Q (.panic [{ v:=u,recovered:=false }]) a w')→Gu P ops o K Q a w
 | .call f args s r s'=>∀ (cx:Cx) (w:World) (vs:List Value),St G cx w s→A6 cx w args vs→Calls P f vs.toArray w (oD G cx w r s')
theorem Ir {ops:Array Oper} {fr:List AV} {o:Oper} {c:Cx} {w:World} {tmps:Array Value} (h:∀ j want,o.guard=some (j,want)→∀ d,(ops[j]?).bind (·.dst)=some d→∃ M,A6 c w M tmps.toList∧M[d]?=fr[d]?):AY ops fr o=Region.wanted o (yielded ops tmps):=by
 unfold AY Region.wanted
 cases hg:o.guard with
 | none=>rfl
 | some p =>
   obtain ⟨j,want⟩:=p
   simp only
   unfold yielded
   cases hd:(ops[j]?).bind (·.dst) with
   | none=>simp
   | some d =>
     obtain ⟨M,hM,he⟩:=h j want hg d hd
     simp only [Option.bind_some]
     rw [← he]
     cases hm:M[d]? with
     | none =>
       have hl:=hM.len
       have h1:=List.getElem?_eq_none_iff.1 hm
       have h2:tmps[d]?=none:=Array.getElem?_eq_none (by rw [← Array.length_toList];omega)
       simp [h2]
     | some b =>
       obtain ⟨u,hu,hr⟩:=hM.get hm
       rw [Array.getElem?_toList] at hu
       rw [hu]
       cases hr with
       | sc hs=>cases u<;>simp
       | any hs=>cases u<;>first | (simp [Md] at hs;done) | simp
       | _=>simp
def VW (tmps:Array Value):ResultVar→Sem Value
 | .tmp t=>pure (tmps.getD t undef)
 | .cell a t=>do loadVar t (← asAddr (tmps.getD a undef))
theorem NC (fn:Func) (tmps:Array Value):results fn tmps=(do
 let vs ← fn.results.mapM (VW tmps)
 pure (if h:vs.size=1 then vs[0] else .tuple vs)):=by
 unfold results
 congr 2
theorem QX {P:Program} {G:AB} {c:Cx} {w:World} {s:AS} {fr:List AV} {tmps:Array Value} (hs:St G c w s) (hf:A6 c w fr tmps.toList) {r:ResultVar} {v:AV} (h:I6 P s fr r=some v) :
   ∃ u,(VW tmps r).run P w=.ok u w∧Rp c w v u:=by
 have ht:∀ t,Rp c w (fr.getD t (.sc undef)) (tmps.getD t undef):=fun t=>CC (G:=G) (s:=s) (a:=⟨tmps,[]⟩) (x:=.tmp t) hs hf rfl
 cases r with
 | tmp t=>simp only [I6,Option.some.injEq] at h;subst h;exact ⟨_,rfl,ht t⟩
 | cell t ty =>
   obtain ⟨u,h1,h2⟩:=Rg hs h (ht t)
   refine ⟨u,?_,h2⟩
   have hr:=ht t
   simp only [Instr.loadAt,Sem.run_bind] at h1
   simp only [VW,Sem.run_bind]
   generalize tmps.getD t undef=x at hr h1
   simp only [I6] at h
   unfold DO at h
   split at h
   · rename_i heq;rw [heq] at hr;cases hr;simpa [asAddr,Instr.sureAddr] using h1
   · rename_i heq;rw [heq] at hr;cases hr;simpa [asAddr,Instr.sureAddr] using h1
   · cases h
theorem Qz {P:Program} {G:AB} {c:Cx} {w:World} {s:AS} {fr:List AV} {tmps:Array Value} (hs:St G c w s) (hf:A6 c w fr tmps.toList) (rs:List ResultVar) {vs:List AV} (h:Gz P s fr rs=some vs) :
   ∃ us,(rs.mapM (VW tmps)).run P w=.ok us w∧A6 c w vs us:=by
 induction rs generalizing vs with
 | nil=>simp [Gz] at h;subst h;exact ⟨[],rfl,.nil⟩
 | cons r rs ih =>
   simp only [Gz] at h
   split at h
   · rename_i a as h1 h2
     cases h
     obtain ⟨u,hu,hr⟩:=QX hs hf h1
     obtain ⟨us,hus,hrs⟩:=ih h2
     refine ⟨u::us,?_,.cons hr hrs⟩
     rw [List.mapM_cons]
     simp only [Sem.run_bind,hu,Result.andThen_ok,hus,Sem.run_pure]
   · cases h
theorem IN {P:Program} {G:AB} {c:Cx} {w:World} {s:AS} {fr:List AV} {tmps:Array Value} {fn:Func} {v:AV} (hs:St G c w s) (hf:A6 c w fr tmps.toList) (h:Cm P s fn fr=some v):∃ u,(results fn tmps).run P w=.ok u w∧Rp c w v u:=by
 unfold Cm at h
 cases hl:Gz P s fr fn.results.toList with
 | none=>rw [hl] at h;cases h
 | some as =>
   rw [hl] at h
   obtain ⟨us,hus,hrs⟩:=Qz hs hf _ hl
   have hlen:=hrs.len
   have hrun:(results fn tmps).run P w=.ok (if h:us.toArray.size=1 then us.toArray[0] else .tuple us.toArray) w:=by
     rw [NC,Array.mapM_eq_mapM_toList]
     simp only [Sem.run_bind,Sem.run_map,hus,Result.andThen_ok,Sem.run_pure]
   rw [hrun]
   split at h
   · rename_i a heq
     cases heq;cases h
     cases hrs with
     | cons h1 t=>cases t;exact ⟨_,rfl,h1⟩
   · rename_i as' hne heq
     cases heq;cases h
     have:¬ us.toArray.size=1:=by
       intro h1
       simp at h1
       obtain ⟨a,ha⟩:=List.length_eq_one_iff.1 (hlen.symm.trans h1)
       exact hne a ha
     rw [dif_neg this]
     exact ⟨_,rfl,.Bc hrs⟩
   · rename_i heq;cases heq
end AI
namespace AI
open Go Go.RowKit
def Mi (L:Nat→Bool):Nat→Nat
 | 0=>0
 | n+1=>Mi L n+if L n then 0 else 1
theorem X0 {L:Nat→Bool}:∀ (n:Nat),Mi L n=0→∀ i,i < n→L i=true:=by
 intro n
 induction n with
 | zero=>intro _ i hi;omega
 | succ n ih =>
   intro h i hi
   simp only [Mi] at h
   by_cases hn:i=n
   · subst hn
     by_cases hL:L i=true
     · exact hL
     · simp [hL] at h
   · exact ih (by omega) i (by omega)
theorem bI {L M:Nat→Bool} {i:Nat} (h0:L i=false) (h1:M i=true) (hne:∀ j,j≠i→M j=L j):∀ (n:Nat),(i < n→Mi L n=Mi M n+1)∧(n≤i→Mi L n=Mi M n):=by
 intro n
 induction n with
 | zero=>exact ⟨fun h=>by omega,fun _=>rfl⟩
 | succ n ih =>
   refine ⟨fun h=>?_,fun h=>?_⟩
   · simp only [Mi]
     by_cases hn:n=i
     · subst hn
       rw [ih.2 (Nat.le_refl _),h0,h1];simp
     · rw [ih.1 (by omega),hne n hn];omega
   · simp only [Mi]
     rw [ih.2 (by omega),hne n (by omega)]
theorem Ni {ops:Array Oper} {sts:Nat→AS} (hq:∀ i o,ops[i]?=some o→calm o.op=true→sts (i+1)=sts i) {x:Nat}:∀ (y:Nat),x≤y→y≤ops.size→(∀ m,x≤m→m < y→¬ Lo ops m)→sts x=sts y:=by
 intro y
 induction y with
 | zero=>intro h _ _;have:x=0:=by omega
         subst this;rfl
 | succ y ih =>
   intro h hn hl
   by_cases e:x=y+1
   · subst e;rfl
   · rw [ih (by omega) (by omega) (fun m h1 h2=>hl m h1 (by omega))]
     have ho:ops[y]?=some (ops[y]'(by omega)):=Array.getElem?_eq_getElem (by omega)
     have hy:=hl y (by omega) (by omega)
     refine (hq y _ ho ?_).symm
     cases hqq:calm (ops[y]'(by omega)).op with
     | true=>rfl
     | false=>exact absurd ⟨_,ho,hqq⟩ hy
theorem mem_ready {ops:Array Oper} {L:Array Bool} (hsz:L.size=ops.size) {i:Nat} (h:i∈Region.ready .any ops L):∃ o,ops[i]?=some o∧L.getD i false=false∧bU (fun j=>L.getD j false) o∧i < ops.size:=by
 unfold Region.ready at h
 rw [List.mem_filter,List.mem_range,Bool.and_eq_true] at h
 obtain ⟨h1,h2,h3⟩:=h
 have ho:ops[i]?=some (ops[i]'h1):=Array.getElem?_eq_getElem h1
 refine ⟨_,ho,?_,fun e he hb=>?_,h1⟩
 · have:i < L.size:=by omega
   simpa [this] using h2
 · rw [ho] at h3
   simp only [Option.map_some,Option.getD_some] at h3
   rw [Array.all_eq_true_iff_forall_mem] at h3
   have:=h3 e he
   rw [hb] at this
   simpa using this
theorem Ye {ops:Array Oper} {L:Array Bool} (hsz:L.size=ops.size) {i:Nat} {o:Oper} (ho:ops[i]?=some o) (hL:L.getD i false=false) (hm:bU (fun j=>L.getD j false) o):i∈Region.ready .any ops L:=by
 have h1:=(Array.getElem?_eq_some_iff.1 ho).1
 unfold Region.ready
 rw [List.mem_filter,List.mem_range,Bool.and_eq_true]
 refine ⟨h1,?_,?_⟩
 · have:i < L.size:=by omega
   simpa [this] using hL
 · rw [ho]
   simp only [Option.map_some,Option.getD_some]
   rw [Array.all_eq_true_iff_forall_mem]
   intro e he
   by_cases hb:Region.binds .any e=true
   · have:=hm e he hb
     rw [hb]
     simpa using this
   · simp [hb]
section
variable {P:Program} {G:AB} {ops:Array Oper} {f0:List AV} {vals:Nat→AV} {sts:Nat→AS}
structure Inv (G:AB) (ops:Array Oper) (f0:List AV) (vals:Nat→AV) (sts:Nat→AS) (cx0:Cx) (w0:World) (nh:Nat) (L:Array Bool) (a:Act) (w:World):Prop where
 size:L.size=ops.size
 closed:HV ops.toList (fun j=>L.getD j false)
 st:∃ c k,k≤ops.size∧(∀ l,Lo ops l→(L.getD l false=true↔l < k))∧Ext cx0 w0 c w∧St G c w (sts k)∧A6 c w (EH f0 (Bg ops) vals (fun j=>L.getD j false) ops.size) a.tmps.toList ∧
   ∀ j y,ops[j]?=some y→AN y.op=true→L.getD j false=false→rk ops j < nh→c.Bf[cx0.Bf.length+rk ops j]?=some none
 defers:a.defers=[]
theorem looks {x y:Oper} {t:Nat} (hx:x.dst=some t) (hy:t∈y.looksAt ops):Hq ops x y=true:=by
 simp [Hq,hx,hy]
theorem iK {x y:Oper} {t:Nat} (hx:t∈x.looksAt ops) (hy:y.dst=some t):Hq ops x y=true:=by
 simp [Hq,hx,hy]
theorem rX {x y:Oper} {t:Nat} (hx:x.dst=some t) (hy:y.dst=some t):Hq ops x y=true:=by
 simp [Hq,hx,hy]
theorem Ud {x y:Oper} (hx:calm x.op=false) (hy:calm y.op=false):Hq ops x y=true:=by
 simp [Hq,hx,hy]
theorem AP {i:Nat} {o:Oper} (h:ops[i]?=some o):ops.toList[i]?=some o:=by rw [Array.getElem?_toList];exact h
theorem K5 {L:Nat→Bool} (hord:F5 ops=true) (hc:HV ops.toList L) {i j:Nat} {x y:Oper} (hx:ops[i]?=some x) (hy:ops[j]?=some y) (hm:bU L y) (hlt:i < j) (hcl:Hq ops x y=true):L i=true :=
 O7 hc (AP hy) hm (Ox hord hx hy hlt hcl)
theorem H8 {L:Nat→Bool} (hord:F5 ops=true) (hc:HV ops.toList L) {i j:Nat} {x y:Oper} (hx:ops[i]?=some x) (hy:ops[j]?=some y) (hL:L i=false) (hlt:i < j) (hcl:Hq ops x y=true):L j=false:=by
 cases h:L j with
 | false=>rfl
 | true =>
   have:=O7 hc (AP hy) (hc j y (AP hy) h) (Ox hord hx hy hlt hcl)
   rw [hL] at this;cases this
theorem SF {i t:Nat} (h:Bg ops i=some t):∃ o,ops[i]?=some o∧o.dst=some t:=by
 unfold Bg at h
 cases ho:ops[i]? with
 | none=>rw [ho] at h;cases h
 | some o=>rw [ho] at h;exact ⟨o,rfl,by simpa using h⟩
theorem OT {L:Nat→Bool} (hord:F5 ops=true) (hc:HV ops.toList L) {i:Nat} {o:Oper} (ho:ops[i]?=some o) (hL:L i=false) (hm:bU L o) {t:Nat} (ht:t∈o.looksAt ops) :
   (EH f0 (Bg ops) vals L ops.size)[t]?=(EH f0 (Bg ops) vals (fun _=>true) i)[t]?:=by
 have hi:=(Array.getElem?_eq_some_iff.1 ho).1
 rw [TA (j:=i) ops.size (by omega)]
 · refine MV i (fun j hj hd=>?_)
   obtain ⟨x,hx,hxd⟩:=SF hd
   exact K5 hord hc hx ho hm hj (looks hxd ht)
 · intro j hj _ hd
   by_cases e:j=i
   · subst e;exact hL
   · obtain ⟨y,hy,hyd⟩:=SF hd
     exact H8 hord hc ho hy hL (by omega) (iK ht hyd)
theorem aE {L M:Nat→Bool} (hord:F5 ops=true) (hc:HV ops.toList L) {i:Nat} {o:Oper} (ho:ops[i]?=some o) (hL:L i=false) (hM:M i=true) (hne:∀ j,j≠i→M j=L j) :
   EH f0 (Bg ops) vals M ops.size=DK (EH f0 (Bg ops) vals L ops.size) o.dst (vals i):=by
 have hi:=(Array.getElem?_eq_some_iff.1 ho).1
 have hdi:Bg ops i=o.dst:=by unfold Bg;rw [ho];rfl
 apply List.ext_getElem?
 intro t
 by_cases hd:o.dst=some t
 · rw [TA (j:=i+1) ops.size (by omega)]
   · simp only [EH,hM,if_true,hdi,hd]
     rw [GZ,GZ,Me,Me]
   · intro j hj _ hdj
     obtain ⟨y,hy,hyd⟩:=SF hdj
     rw [hne j (by omega)]
     exact H8 hord hc ho hy hL (by omega) (rX hd hyd)
 · rw [IJ hd]
   refine MV ops.size (fun j _ hdj=>hne j (fun e=>hd ?_))
   rw [← hdi,← e];exact hdj
theorem Ext.fY {c:Cx} {w:World} {c':Cx} {w':World} (h:Ext c w c' w') {id:Nat} {y:Option Nat} (e:c.Bf[id]?=some y):c'.Bf[id]?=some y:=by
 obtain ⟨t,ht⟩:=h.Bf
 rw [← ht,List.getElem?_append_left (List.getElem?_eq_some_iff.1 e).1]
 exact e
theorem Xf {nh:Nat} (hord:F5 ops=true)
   (hl:∀ i o,ops[i]?=some o→calm o.op=false→Sound P G (.op ops o (EH f0 (Bg ops) vals (fun _=>true) i) (sts i) (.ret (vals i)) (sts (i+1))))
   (hq:∀ i o,ops[i]?=some o→quiet o.op=true→sts (i+1)=sts i∧((AY ops (EH f0 (Bg ops) vals (fun _=>true) i) o=false∧vals i=.sc undef)∨(AY ops (EH f0 (Bg ops) vals (fun _=>true) i) o=true∧∀ k,k≤ops.size→nO ops i k→Hr P G (EH f0 (Bg ops) vals (fun _=>true) i) (sts k) o=some (.val (vals i) (sts k)))))
   (cx0:Cx) (w0:World)
   (ha:∀ i o e,ops[i]?=some o→o.op=.alloc e→sts (i+1)=sts i∧((AY ops (EH f0 (Bg ops) vals (fun _=>true) i) o=false∧vals i=.sc undef)∨(AY ops (EH f0 (Bg ops) vals (fun _=>true) i) o=true∧∃ z,D6 P e=some z∧rk ops i < nh∧vals i=.ptr (cx0.Bf.length+rk ops i) 0∧∀ k,k≤ops.size→nO ops i k→(sts k).get (cx0.Bf.length+rk ops i)=some (.cells (cellsOf z)))))
   (Q:Exit→Act→World→Prop) (hQ:∀ e' a' w',Ku G cx0 w0 .normal (EH f0 (Bg ops) vals (fun _=>true) ops.size) (sts ops.size) e' a' w'→Q e' a' w') :
   ∀ (fuel:Nat) (L:Array Bool) (a:Act) (w:World),Inv G ops f0 vals sts cx0 w0 nh L a w→Mi (fun j=>L.getD j false) ops.size=fuel→wpAny P .any ops Q fuel L a w:=by
 have hqs:∀ i o,ops[i]?=some o→calm o.op=true→sts (i+1)=sts i:=fun i o h1 h2=>by
   rcases JP h2 with h2 | ⟨e,h2⟩
   · exact (hq i o h1 h2).1
   · exact (ha i o e h1 h2).1
 have fin:∀ (L:Array Bool) (a:Act) (w:World),Inv G ops f0 vals sts cx0 w0 nh L a w→(∀ i,i < ops.size→L.getD i false=true)→Q .normal a w:=by
   intro L a w hI hall
   obtain ⟨c,k,hk,hlk,hx,hst,hfr,_⟩:=hI.st
   have hsts:sts k=sts ops.size:=Ni hqs ops.size hk (Nat.le_refl _) (fun m h1 h2 hm=>by have:=(hlk m hm).1 (hall m h2);omega)
   rw [hsts] at hst
   refine hQ _ _ _ ⟨c,hx,hst,hI.defers,rfl,?_⟩
   have:EH f0 (Bg ops) vals (fun j=>L.getD j false) ops.size=EH f0 (Bg ops) vals (fun _=>true) ops.size:=by
     apply List.ext_getElem?
     intro t
     exact MV ops.size (fun i hi _=>hall i hi)
   rw [← this];exact hfr
 intro fuel
 induction fuel with
 | zero =>
   intro L a w hI hc
   have hall:=X0 ops.size hc
   refine ⟨?_,fin L a w hI hall⟩
   apply List.eq_nil_iff_forall_not_mem.2
   intro i hi
   obtain ⟨o,ho,h1,_,hlt⟩:=mem_ready hI.size hi
   have:=hall i hlt
   rw [h1] at this;cases this
 | succ fuel ih =>
   intro L a w hI hcnt
   refine ⟨fun hnil=>fin L a w hI (fun i=>?_),fun i hi=>?_⟩
   · induction i using Nat.strongRecOn with
     | _ i ihi =>
       intro hlt
       cases hLi:L.getD i false with
       | true=>rfl
       | false =>
         exfalso
         have ho:ops[i]?=some (ops[i]'hlt):=Array.getElem?_eq_getElem hlt
         have:=Ye hI.size ho hLi (fun e he hb=>by
           have h1:=V4 hord ho he hb
           exact ihi e.on h1 (by omega))
         rw [hnil] at this;cases this
   · obtain ⟨o,ho,hLi,hmet,hlt⟩:=mem_ready hI.size hi
     obtain ⟨c,k,hk,hlk,hx,hst,hfr,hholes⟩:=hI.st
     have hMi:(L.setIfInBounds i true).getD i false=true:=by
       have:i < L.size:=by rw [hI.size];exact hlt
       simp [this]
     have hMn:∀ j,j≠i→(L.setIfInBounds i true).getD j false=L.getD j false:=by
       intro j hj
       simp only [Array.getD_eq_getD_getElem?]
       rw [Array.getElem?_setIfInBounds_ne (fun e=>hj e.symm)]
     have hle:∀ j,L.getD j false=true→(L.setIfInBounds i true).getD j false=true:=by
       intro j hj
       by_cases e:j=i
       · subst e;exact hMi
       · rw [hMn j e];exact hj
     have hclosed':HV ops.toList (fun j=>(L.setIfInBounds i true).getD j false):=by
       intro j y hy hj e he hb
       by_cases ej:j=i
       · subst ej
         rw [AP ho] at hy;cases hy
         exact hle _ (hmet e he hb)
       · have hj2:L.getD j false=true:=by rw [← hMn j ej];exact hj
         exact hle _ (hI.closed j y hy hj2 e he hb)
     have hcnt':Mi (fun j=>(L.setIfInBounds i true).getD j false) ops.size=fuel:=by
       have:=(bI (L:=fun j=>L.getD j false) (M:=fun j=>(L.setIfInBounds i true).getD j false) hLi hMi hMn ops.size).1 hlt
       omega
     have hput:=aE (f0:=f0) (vals:=vals) (L:=fun j=>L.getD j false) (M:=fun j=>(L.setIfInBounds i true).getD j false) hord hI.closed ho hLi hMi hMn
     have stepM:∀ (k':Nat) (u:Value) (w':World) (c':Cx),k'≤ops.size→(∀ l,Lo ops l→((L.setIfInBounds i true).getD l false=true↔l < k'))→Ext cx0 w0 c' w'→Mon c w c' w' →
         (∀ j y,ops[j]?=some y→AN y.op=true→(L.setIfInBounds i true).getD j false=false→rk ops j < nh→c'.Bf[cx0.Bf.length+rk ops j]?=some none)→St G c' w' (sts k')→Rp c' w' (vals i) u→wpAny P .any ops Q fuel (L.setIfInBounds i true) (a.put o.dst u) w':=by
       intro k' u w' c' hk' hlk' hx' hm' hh' hst' hu
       refine ih _ _ _ ⟨by simp [hI.size],hclosed',⟨c',k',hk',hlk',hx',hst',?_,hh'⟩,by cases o.dst<;>exact hI.defers⟩ hcnt'
       rw [hput]
       exact Ie (hfr.BA hm') hu
     have step:∀ (k':Nat) (u:Value) (w':World) (c':Cx),k'≤ops.size→(∀ l,Lo ops l→((L.setIfInBounds i true).getD l false=true↔l < k'))→Ext c w c' w'→St G c' w' (sts k')→Rp c' w' (vals i) u→wpAny P .any ops Q fuel (L.setIfInBounds i true) (a.put o.dst u) w':=by
       intro k' u w' c' hk' hlk' hx' hst' hu
       refine stepM k' u w' c' hk' hlk' (hx.trans hx') hx'.mG (fun j y hy hya hj hjn=>?_) hst' hu
       have hji:j≠i:=fun e=>by subst e;rw [hMi] at hj;cases hj
       rw [hMn j hji] at hj
       exact hx'.fY (hholes j y hy hya hj hjn)
     have hsees:∀ x∈o.op.operands,Pg G c w (EH f0 (Bg ops) vals (fun _=>true) i) a.eval x:=by
       intro x hxo v hv
       cases x with
       | tmp t =>
         have hlook:t∈o.looksAt ops:=by
           unfold Oper.looksAt
           rw [List.mem_append]
           left
           rw [List.mem_filterMap]
           exact ⟨.tmp t,Array.mem_toList_iff.2 hxo,rfl⟩
         have he:=OT (f0:=f0) (vals:=vals) hord hI.closed ho hLi hmet hlook
         have:AE G (EH f0 (Bg ops) vals (fun j=>L.getD j false) ops.size) (.tmp t)=some v:=by
           rw [← hv]
           simp only [AE,List.getD_eq_getElem?_getD,he]
         exact CC hst hfr this
       | const z=>exact CC (fr:=EH f0 (Bg ops) vals (fun j=>L.getD j false) ops.size) hst hfr hv
       | global g=>exact CC (fr:=EH f0 (Bg ops) vals (fun j=>L.getD j false) ops.size) hst hfr hv
       | func f=>exact CC (fr:=EH f0 (Bg ops) vals (fun j=>L.getD j false) ops.size) hst hfr hv
     have hwant:AY ops (EH f0 (Bg ops) vals (fun _=>true) i) o=Region.wanted o (yielded ops a.tmps):=by
       refine Ir (c:=c) (w:=w) (fun j want hg d hd=>⟨_,hfr,?_⟩)
       refine OT hord hI.closed ho hLi hmet ?_
       unfold Oper.looksAt
       rw [List.mem_append]
       right
       rw [hg]
       simp [hd]
     have fromOne:Gu P ops o (wpAny P .any ops Q fuel (L.setIfInBounds i true)) Q a w→wpOp P ops Q i (wpAny P .any ops Q fuel (L.setIfInBounds i true)) a w:=by
       intro h
       unfold wpOp
       rw [ho]
       unfold Gu at h
       simp only
       split
       · rename_i hw;rw [if_pos hw] at h;exact .inl h
       · rename_i hw;rw [if_neg hw] at h;exact h
     refine fromOne ?_
     cases hqo:calm o.op with
     | false =>
       have hki:sts k=sts i:=by
         rcases Nat.le_total k i with hle' | hle'
         · exact Ni hqs i hle' (by omega) (fun m h1 h2 hm=>by
             obtain ⟨y,hy,hyq⟩:=hm
             have:=K5 hord hI.closed hy ho hmet h2 (Ud hyq hqo)
             have:=(hlk m ⟨y,hy,hyq⟩).1 this
             omega)
         · exact (Ni hqs k hle' hk (fun m h1 h2 hm=>by
             obtain ⟨y,hy,hyq⟩:=hm
             have hLm:=(hlk m ⟨y,hy,hyq⟩).2 h2
             by_cases e:m=i
             · subst e;rw [hLi] at hLm;cases hLm
             · have:=H8 hord hI.closed ho hy hLi (by omega) (Ud hqo hyq)
               rw [this] at hLm;cases hLm)).symm
       rw [hki] at hst
       refine hl i o ho hqo c w a _ _ hst hsees hwant ?_
       intro u w' c' hx' hst' hu
       refine step (i+1) u w' c' (by omega) (fun l hl'=>?_) hx' hst' hu
       by_cases e:l=i
       · subst e;rw [hMi];simp
       · rw [hMn l e,hlk l hl']
         obtain ⟨y,hy,hyq⟩:=hl'
         constructor
         · intro hlt'
           have hLl:=(hlk l ⟨y,hy,hyq⟩).2 hlt'
           rcases Nat.lt_or_ge l i with h1 | h1
           · omega
           · have:=H8 hord hI.closed ho hy hLi (by omega) (Ud hqo hyq)
             rw [this] at hLl;cases hLl
         · intro hlt'
           have:=K5 hord hI.closed hy ho hmet (by omega) (Ud hyq hqo)
           exact (hlk l ⟨y,hy,hyq⟩).1 this
     | true =>
       have hlk':∀ l,Lo ops l→((L.setIfInBounds i true).getD l false=true↔l < k):=by
         intro l hl'
         have hne:l≠i:=by
           intro e
           subst e
           obtain ⟨y,hy,hyq⟩:=hl'
           rw [ho] at hy;cases hy
           rw [hqo] at hyq;cases hyq
         rw [hMn l hne]
         exact hlk l hl'
       have hwin:nO ops i k:=by
         refine ⟨fun l hl' hd=>?_,fun l hl' hd=>?_⟩
         · exact (hlk l hl').1 (O7 hI.closed (AP ho) hmet hd)
         · rcases Nat.lt_or_ge l k with h1 | h1
           · exfalso
             have hLl:=(hlk l hl').2 h1
             obtain ⟨y,hy,hyq⟩:=hl'
             have:=O7 hI.closed (AP hy) (hI.closed l y (AP hy) hLl) hd
             rw [hLi] at this;cases this
           · exact h1
       unfold Gu
       rcases JP hqo with hqo | ⟨e,hoe⟩
       · obtain ⟨_,hcase⟩:=hq i o ho hqo
         rcases hcase with ⟨hw,hv⟩ | ⟨hw,hv⟩
         · rw [← hwant,hw]
           simp only [Bool.false_eq_true,if_false]
           exact step k undef w c hk hlk' (Ext.refl c w) hst (by rw [hv];exact .sc rfl)
         · rw [← hwant,hw]
           simp only [if_true]
           have hfine:=PJ hst hsees (fun _=>rfl) (hv k hk hwin)
           obtain ⟨u,w',c',hr,hx',hst',hu⟩:=hfine
           unfold Oper.wp
           rcases hr with hr | ⟨hr,rfl⟩
           · rw [hr];exact step k u w' c' hk hlk' hx' hst' hu
           · rw [hr];exact step k undef w' c' hk hlk' hx' hst' hu
       · obtain ⟨_,hcase⟩:=ha i o e ho hoe
         rcases hcase with ⟨hw,hv⟩ | ⟨hw,z,hz,hrk,hv,hgets⟩
         · rw [← hwant,hw]
           simp only [Bool.false_eq_true,if_false]
           exact step k undef w c hk hlk' (Ext.refl c w) hst (by rw [hv];exact .sc rfl)
         · rw [← hwant,hw]
           simp only [if_true]
           have hia:AN o.op=true:=by rw [hoe];rfl
           obtain ⟨u,w',c',hr,hm',hst',hu,hext,hoth⟩:=Sx (ρ:=a.eval) hst hoe hz (hholes i o ho hia hLi hrk) (hgets k hk hwin)
           unfold Oper.wp
           rw [hr]
           refine stepM k u w' c' hk hlk' (hext cx0 w0 hx (by omega)) hm' (fun j y hy hya hj hjn=>?_) hst' (by rw [hv];exact hu)
           have hji:j≠i:=fun e=>by subst e;rw [hMi] at hj;cases hj
           rw [hMn j hji] at hj
           have hne:rk ops j≠rk ops i:=fun e=>hji (jH hy ho hya hia e)
           rw [hoth _ (by omega)]
           exact hholes j y hy hya hj hjn
end
end AI
namespace AI
open Go Go.RowKit
theorem Pn {G:AB} {c:Cx} {w:World} {s:AS} {fr:List AV} {a:Act} (hs:St G c w s) (hf:A6 c w fr a.tmps.toList) (x:Operand):Pg G c w fr a.eval x:=fun _ hv=>CC hs hf hv
theorem Fl {P:Program} {ops:Array Oper} {o:Oper} {i:Nat} {l:List Nat} {Q:Exit→Act→World→Prop} {a:Act} {w:World} (ho:ops[i]?=some o) (h:Gu P ops o (wpOps P ops Q l) Q a w):wpOps P ops Q (i::l) a w:=by
 unfold wpOps
 rw [ho]
 unfold Gu at h
 simp only
 split
 · rename_i hw;rw [if_pos hw] at h;exact .inl h
 · rename_i hw;rw [if_neg hw] at h;exact h
theorem Ku.Hx {G:AB} {c:Cx} {w:World} {e:AX} {fr':List AV} {s':AS} {e':Exit} {a':Act} {w':World} (h:Ku G c w e fr' s' e' a' w') (he:e≠.normal):e'≠.normal:=by
 obtain ⟨c',_,_,_,h4⟩:=h
 cases e with
 | normal=>exact absurd rfl he
 | exit id=>intro h5;rw [h4.1] at h5;cases h5
 | ret=>intro h5;rw [h4.1] at h5;cases h5
 | pan v=>obtain ⟨u,h5,_⟩:=h4;intro h6;rw [h5] at h6;cases h6
theorem KS {K:Act→World→Prop} {Q:Exit→Act→World→Prop} {e:Exit} {a:Act} {w:World} (he:e≠.normal) (h:Q e a w):Exit.then K Q e a w:=by
 cases e<;>first | exact absurd rfl he | exact h
structure T9 (P:Program) (G:AB) (X:JK) (H:Hl):Prop where
 mixed:P.follows .mixedOrders=true
 ext:∀ f args s r s',X f args s r s'→Sound P G (.call f args s r s')
 hook:∀ f args g gargs k,H f args=some (g,gargs,k)→∀ s r s' r',Sound P G (.call g gargs s r s')→k r=some r'→Sound P G (.call f args s r' s')
theorem sound {P:Program} {G:AB} {X:JK} {H:Hl} (hg:T9 P G X H) {jd:Jd} (h:J P G X H jd):Sound P G jd:=by
 induction h with
 | weak hw _ ih=>intro cx w a Q hs hf hd hQ;obtain ⟨c2,x,h1,h2⟩:=hw cx w _ hs hf;exact ih c2 w a Q h1 h2 hd (fun e a w hp=>hQ e a w (hp.ext x))
 | weakL hw _ ih=>obtain ⟨n,ih⟩:=ih;exact ⟨n,fun cx w a Q hs hf hd hQ=>by obtain ⟨c2,x,h1,h2⟩:=hw cx w _ hs hf;exact ih c2 w a Q h1 h2 hd (fun e a w hp=>hQ e a w (hp.ext x))⟩
 | opWeak _ _ hv ih =>
   intro cx w a K Q hs hev hwa hK
   exact ih cx w a K Q hs hev hwa (fun u w' c' x st hu=>hK u w' c' x st (hv _ _ _ hu))
 | opWeakS _ _ hv ih =>
   intro cx w a K Q hs hev hwa hK
   exact ih cx w a K Q hs hev hwa (fun u w' c' x st hu=>hK u w' c' x (hv _ _ st) hu)
 | @scope c fr fr2 fr' s s2 s' e _ he hsc ih =>
   intro cx w a Q hs hf hd hQ
   refine ih cx w a Q hs hf hd ?_
   rintro e' a' w' ⟨c',hx,hs',hd',h4⟩
   cases e with
   | normal=>obtain ⟨rfl,h5⟩:=h4;obtain ⟨c2,x2,st2,f2⟩:=hsc cx w c' w' _ hx hs hs' h5;exact hQ _ _ _ ⟨c2,x2,st2,hd',rfl,f2⟩
   | exit id=>obtain ⟨rfl,h5⟩:=h4;obtain ⟨c2,x2,st2,f2⟩:=hsc cx w c' w' _ hx hs hs' h5;exact hQ _ _ _ ⟨c2,x2,st2,hd',rfl,f2⟩
   | ret=>obtain ⟨rfl,h5⟩:=h4;obtain ⟨c2,x2,st2,f2⟩:=hsc cx w c' w' _ hx hs hs' h5;exact hQ _ _ _ ⟨c2,x2,st2,hd',rfl,f2⟩
   | pan v=>exact absurd rfl (he v)
 | skip=>intro cx w a Q hs hf hd hQ;exact wp_skip (hQ _ _ _ ⟨cx,Ext.refl _ _,hs,hd,rfl,hf⟩)
 | exit=>intro cx w a Q hs hf hd hQ;exact wp_exit (hQ _ _ _ ⟨cx,Ext.refl _ _,hs,hd,rfl,hf⟩)
 | ret=>intro cx w a Q hs hf hd hQ;exact wp_ret (hQ _ _ _ ⟨cx,Ext.refl _ _,hs,hd,rfl,hf⟩)
 | seq _ _ ih1 ih2 =>
   intro cx w a Q hs hf hd hQ
   refine wp_seq (ih1 cx w a _ hs hf hd ?_)
   rintro e' a' w' ⟨c',hx,hs',hd',rfl,hf'⟩
   exact ih2 c' w' a' Q hs' hf' hd' (fun e2 a2 w2 h2=>hQ e2 a2 w2 (h2.ext hx))
 | seqX _ he ih1 =>
   intro cx w a Q hs hf hd hQ
   refine wp_seq (ih1 cx w a _ hs hf hd ?_)
   intro e' a' w' hp
   exact KS (hp.Hx he) (hQ _ _ _ hp)
 | @cond q x y t fr fr' s s' e hq _ ih =>
   intro cx w a Q hs hf hd hQ
   have hr:=CC hs hf hq
   have hev:a.eval q=.bool t:=by
     generalize a.eval q=v at hr
     cases hr;rfl
   exact wp_cond hev (ih cx w a Q hs hf hd hQ)
 | @block id c fr fr' s s' e _ ih =>
   intro cx w a Q hs hf hd hQ
   refine wp_block (ih cx w a _ hs hf hd ?_)
   rintro e' a' w' ⟨c',hx,hs',hd',h4⟩
   cases e with
   | normal=>obtain ⟨rfl,h5⟩:=h4;exact hQ _ _ _ ⟨c',hx,hs',hd',rfl,h5⟩
   | exit id' =>
     obtain ⟨rfl,h5⟩:=h4
     show if id'=id then Q .normal a' w' else Q (.exit id') a' w'
     by_cases hid:id'=id
     · rw [if_pos hid]
       refine hQ _ _ _ ⟨c',hx,hs',hd',?_⟩
       simp only [Cu,hid,if_true]
       exact ⟨trivial,h5⟩
     · rw [if_neg hid]
       refine hQ _ _ _ ⟨c',hx,hs',hd',?_⟩
       simp only [Cu,hid,if_false]
       exact ⟨trivial,h5⟩
   | ret=>obtain ⟨rfl,h5⟩:=h4;exact hQ _ _ _ ⟨c',hx,hs',hd',rfl,h5⟩
   | pan v=>obtain ⟨u,rfl,h5⟩:=h4;exact hQ _ _ _ ⟨c',hx,hs',hd',u,rfl,h5⟩
 | loop _ ih =>
   intro cx w a Q hs hf hd hQ
   obtain ⟨n,hn⟩:=ih
   exact wp_loop_rounds n (hn cx w a Q hs hf hd hQ)
 | loopN _ _ ih1 ih2 =>
   obtain ⟨n,hn⟩:=ih2
   refine ⟨n+1,?_⟩
   intro cx w a Q hs hf hd hQ
   rw [rounds_succ]
   refine ih1 cx w a _ hs hf hd ?_
   rintro e' a' w' ⟨c',hx,hs',hd',rfl,hf'⟩
   exact hn c' w' a' Q hs' hf' hd' (fun e2 a2 w2 h2=>hQ e2 a2 w2 (h2.ext hx))
 | loopX _ he ih1 =>
   refine ⟨1,?_⟩
   intro cx w a Q hs hf hd hQ
   rw [rounds_succ]
   refine ih1 cx w a _ hs hf hd ?_
   intro e' a' w' hp
   exact KS (hp.Hx he) (hQ _ _ _ hp)
 | region _ ih =>
   intro cx w a Q hs hf hd hQ
   exact wp_region (ih cx w a Q hs hf hd hQ)
 | opsNil=>intro cx w a Q hs hf hd hQ;exact hQ _ _ _ ⟨cx,Ext.refl _ _,hs,hd,rfl,hf⟩
 | @opsCons ops i l o v fr fr' s s1 s' e ho _ _ ih1 ih2 =>
   intro cx w a Q hs hf hd hQ
   refine Fl ho (ih1 cx w a _ _ hs (fun x _=>Pn hs hf x) (Ir (c:=cx) (w:=w) (fun _ _ _ _ _=>⟨fr,hf,rfl⟩)) ?_)
   intro u w' c' hx hs' hu
   exact ih2 c' w' (a.put o.dst u) Q hs' (Ie (hf.mono hx) hu) (by cases o.dst<;>exact hd) (fun e2 a2 w2 h2=>hQ e2 a2 w2 (h2.ext hx))
 | @opsPan ops i l o v fr s s1 ho _ ih1 =>
   intro cx w a Q hs hf hd hQ
   refine Fl ho (ih1 cx w a _ _ hs (fun x _=>Pn hs hf x) (Ir (c:=cx) (w:=w) (fun _ _ _ _ _=>⟨fr,hf,rfl⟩)) ?_)
   intro u w' c' hx hs' hu
   exact hQ _ _ _ ⟨c',hx,hs',hd,u,rfl,hu⟩
 | @opVal ops o fr s s' v hw h =>
   intro cx w a K Q hs hev hwa hK
   unfold Gu
   rw [← hwa,hw]
   simp only [if_true]
   obtain ⟨u,w',c',hr,hx,hs',hu⟩:=PJ hs hev (fun _=>rfl) h
   unfold Oper.wp
   rcases hr with hr | ⟨hr,rfl⟩
   · rw [hr];exact hK u w' c' hx hs' hu
   · rw [hr];exact hK undef w' c' hx hs' hu
 | @opApp ops o fr s s' cl x y t tx a b v hw ho hcl hxs hts ha hb h =>
   intro cx w ac K Q hs hev hwa hK
   unfold Gu
   rw [← hwa,hw]
   simp only [if_true]
   have e1:cl.args=#[x,y]:=by apply Array.ext';rw [hxs]
   have e2:cl.argTypes=#[t,tx]:=by apply Array.ext';rw [hts]
   have hop:∀ z∈[x,y],z∈o.op.operands:=fun z hz=>by rw [ho];simp only [Op.operands,Call.operands,e1,Array.mem_append];exact .inr (by simpa using hz)
   obtain ⟨u,w',c',hr,hx,hs',hu⟩:=h cx w _ _ o.type hs (hev x (hop x (by simp)) a ha) (hev y (hop y (by simp)) b hb)
   unfold Oper.wp
   have hr2:(execOp ac.eval o).run P w=.ok (.value u) w':=by
     simp [execOp,ho,resolve,hcl,e1,e2,invoke,builtin,hr]
   rw [hr2]
   exact hK u w' c' hx hs' hu
 | @opSkip ops o fr s hw =>
   intro cx w a K Q hs hev hwa hK
   unfold Gu
   rw [← hwa,hw]
   simp only [Bool.false_eq_true,if_false]
   exact hK undef w cx (Ext.refl _ _) hs (.sc rfl)
 | @opCall ops o fr s s' f args r hw h _ ih =>
   intro cx w a K Q hs hev hwa hK
   unfold Gu
   rw [← hwa,hw]
   simp only [if_true]
   obtain ⟨vs,hr,hargs⟩:=PJ hs hev (fun _=>rfl) h
   unfold Oper.wp
   rw [hr]
   refine (ih cx w vs hs hargs).mono ?_
   rintro e w' ⟨c',hx,hs',h4⟩
   cases r with
   | ret v=>obtain ⟨u,rfl,hu⟩:=h4;exact hK u w' c' hx hs' hu
   | pan v=>obtain ⟨u,rfl,hu⟩:=h4;exact hK u w' c' hx hs' hu
 | @opPan ops o fr s v hw h =>
   intro cx w a K Q hs hev hwa hK
   unfold Gu
   rw [← hwa,hw]
   simp only [if_true]
   obtain ⟨u,hr,hu⟩:=PJ hs hev (fun _=>rfl) h
   unfold Oper.wp
   rw [hr]
   exact hK u w cx (Ext.refl _ _) hs hu
 | @draw id ops f0 s0 rs vals sts h0 hord hl hq ha ihl =>
   intro cx w a Q hs hf hd hQ
   refine wp_region_any hg.mixed ?_
   obtain ⟨x,st⟩:=hs.same (WY w)
   obtain ⟨c2,x2,st2,hphi⟩:=st.holds rs
   rw [← h0] at st2
   rw [hs.len] at ha
   refine Xf (nh:=rs.length) hord ihl hq cx w ha Q hQ ops.size _ a _ ⟨by simp,?_,⟨c2,0,Nat.zero_le _,?_,x.trans x2,st2,?_,?_⟩,hd⟩ ?_
   · intro i o ho hL
     exfalso
     simp only [Array.getD_eq_getD_getElem?,Array.getElem?_replicate] at hL
     split at hL<;>simp at hL
   · intro l _
     simp only [Array.getD_eq_getD_getElem?,Array.getElem?_replicate]
     split<;>simp
   · have:EH f0 (Bg ops) vals (fun j=>(Array.replicate ops.size false).getD j false) ops.size=f0:=by
       have key:∀ n,EH f0 (Bg ops) vals (fun j=>(Array.replicate ops.size false).getD j false) n=f0:=by
         intro n
         induction n with
         | zero=>rfl
         | succ n ih =>
           simp only [EH,ih]
           rw [if_neg]
           simp only [Array.getD_eq_getD_getElem?,Array.getElem?_replicate]
           split<;>simp
       exact key _
     rw [this]
     exact hf.mono (x.trans x2)
   · intro j y _ _ _ hj
     rw [hphi,List.getElem?_append_right (by omega)]
     simp [List.getElem?_replicate]
     omega
   · have key:∀ n,Mi (fun j=>(Array.replicate ops.size false).getD j false) n=n:=by
       intro n
       induction n with
       | zero=>rfl
       | succ n ih =>
         simp only [Mi,ih]
         have:(Array.replicate ops.size false).getD n false=false:=by
           simp only [Array.getD_eq_getD_getElem?,Array.getElem?_replicate]
           split<;>simp
         simp only [this];simp
     exact key _
 | @body f fn c args fr' s s' s2 e v hf hb _ he hr hk ih =>
   intro cx w vs hs hargs
   have hl:=hargs.len
   refine calls_of_wp hf hb (ih cx w _ _ hs ?_ rfl ?_)
   · simp only [Array.toList_append,Array.toList_replicate]
     rw [List.size_toArray,hl]
     exact hargs.append (A6.replicate (.sc rfl) _)
   · rintro e' a' w' ⟨c',hx,hs',hd',h4⟩
     have hs2:St G c' w' s2:=by
       rcases hk with rfl | rfl
       · exact hs'.cut _
       · exact hs'
     rcases he with rfl | rfl
     · obtain ⟨rfl,h5⟩:=h4
       obtain ⟨u,h6,h7⟩:=IN hs' h5 hr
       exact ⟨hd',u,h6,c',hx,hs2,u,rfl,h7⟩
     · obtain ⟨rfl,h5⟩:=h4
       obtain ⟨u,h6,h7⟩:=IN hs' h5 hr
       exact ⟨hd',u,h6,c',hx,hs2,u,rfl,h7⟩
 | @bodyP f fn c args fr' s s' v hf hb _ ih =>
   intro cx w vs hs hargs
   have hl:=hargs.len
   refine calls_of_wp hf hb (ih cx w _ _ hs ?_ rfl ?_)
   · simp only [Array.toList_append,Array.toList_replicate]
     rw [List.size_toArray,hl]
     exact hargs.append (A6.replicate (.sc rfl) _)
   · rintro e' a' w' ⟨c',hx,hs',hd',u,rfl,h5⟩
     exact ⟨hd',c',hx,hs'.cut _,u,rfl,h5⟩
 | ext h=>exact hg.ext _ _ _ _ _ h
 | hook hh _ hk ih=>exact hg.hook _ _ _ _ _ hh _ _ _ _ ih hk
end AI
namespace AI
open Go Go.RowKit
def Zl:Value→Value→Bool
 | .int k a,.int k' b=>k == k'&&a == b
 | .bool a,.bool b=>a == b
 | .string a,.string b=>a.data.toList == b.data.toList
 | .nilIface,.nilIface=>true
 | .nilFunc,.nilFunc=>true
 | .pointer none,.pointer none=>true
 | .map none,.map none=>true
 | .tuple a,.tuple b=>a.size == 0&&b.size == 0
 | _,_=>false
theorem TC {a b:Value} (h:Zl a b=true):a=b:=by
 unfold Zl at h
 split at h
 · simp at h;rw [h.1,h.2]
 · simp at h;rw [h]
 · simp only [beq_iff_eq] at h
   rename_i x y
   have:x=y:=ByteArray.ext (Array.ext' h)
   rw [this]
 · rfl
 · rfl
 · rfl
 · rfl
 · rename_i x y
   simp at h
   rw [h.1,h.2]
 · cases h
mutual
def JG:AV→AV→Bool
 | .sc a,.sc b=>Zl a b
 | .agg a,.agg b=>Nf a b
 | .Bc a,.Bc b=>Nf a b
 | .sl o n a,.sl p m b=>decide (o=p)&&n == m&&Nf a b
 | .msl a b c,.msl x y z=>a == x&&b == y&&c == z
 | .el a,.el b=>Nf a b
 | .ptr a b,.ptr x y=>a == x&&b == y
 | .fn f a b,.fn g x y=>decide (f=g)&&Nf a x&&Nf b y
 | .ifc t a,.ifc u b=>t == u&&JG a b
 | .mp a,.mp b=>a == b
 | _,_=>false
def Nf:List AV→List AV→Bool
 | [],[]=>true
 | a::as,b::bs=>JG a b&&Nf as bs
 | _,_=>false
end
mutual
theorem PE:∀ {a b:AV},JG a b=true→a=b
 | .sc a,b,h=>by cases b<;>simp [JG] at h;rw [TC h]
 | .agg a,b,h=>by cases b<;>simp [JG] at h;rw [GW h]
 | .Bc a,b,h=>by cases b<;>simp [JG] at h;rw [GW h]
 | .sl o n a,b,h=>by cases b<;>simp [JG] at h;rw [h.1.1,h.1.2,GW h.2]
 | .msl _ _ _,b,h=>by cases b<;>simp [JG] at h;rw [h.1.1,h.1.2,h.2]
 | .el a,b,h=>by cases b<;>simp [JG] at h;rw [GW h]
 | .ptr _ _,b,h=>by cases b<;>simp [JG] at h;rw [h.1,h.2]
 | .fn f a c,b,h=>by cases b<;>simp [JG] at h;rw [h.1.1,GW h.1.2,GW h.2]
 | .ifc t a,b,h=>by cases b<;>simp [JG] at h;rw [h.1,PE h.2]
 | .mp _,b,h=>by cases b<;>simp [JG] at h;rw [h]
 | .any,b,h=>by cases b<;>simp [JG] at h
theorem GW:∀ {a b:List AV},Nf a b=true→a=b
 | [],b,h=>by cases b<;>simp [Nf] at h;rfl
 | a::as,b,h=>by cases b<;>simp [Nf] at h;rw [PE h.1,GW h.2]
end
def reads:Op→Bool
 | .load .. | .lookup ..=>true
 | .call cl=>(match cl.callee with
   | .builtin .len=>true
   | _=>false)
 | _=>false
theorem Jg {P:Program} {G:AB} {fr:List AV} {s:AS} {o:Oper} {r:AR} (hq:quiet o.op=true) (h:Hr P G fr s o=some r):∃ v,r=.val v s:=by
 unfold Hr at h
 split at h<;>rename_i ho<;>(try (rw [ho] at hq;simp [quiet] at hq;done))
 all_goals first
   | (obtain ⟨v,_,rfl⟩:=map_some h;exact ⟨_,rfl⟩)
   | (split at h
      all_goals first
        | (obtain ⟨v,_,rfl⟩:=map_some h;exact ⟨_,rfl⟩)
        | (cases h;done)
        | (cases h;exact ⟨_,rfl⟩)
        | (split at h
           all_goals first
             | (cases h;done)
             | (cases h;exact ⟨_,rfl⟩)))
   | (obtain ⟨_,_,h2⟩:=bind_some h;obtain ⟨v,_,rfl⟩:=map_some h2;exact ⟨_,rfl⟩)
   | (rw [ho] at hq
      unfold JB at h
      split at h
      all_goals first
        | (obtain ⟨_,_,h2⟩:=bind_some h;obtain ⟨v,_,rfl⟩:=map_some h2;exact ⟨_,rfl⟩)
        | (rename_i hcl;simp [quiet,hcl] at hq;done)
        | (split at h
           all_goals first
             | (obtain ⟨v,_,rfl⟩:=map_some h;exact ⟨_,rfl⟩)
             | (cases h;done))
        | (cases h;done))
   | (cases h;done)
theorem Im {P:Program} {G:AB} {fr:List AV} {s:AS} {o:Oper} {v:AV} {s':AS} (hq:quiet o.op=true) (hr:reads o.op=false) (h:Hr P G fr s o=some (.val v s')) (s2:AS):Hr P G fr s2 o=some (.val v s2):=by
 have e:=Jg hq h
 obtain ⟨v',e⟩:=e
 injection e with e1 e2
 subst e1 e2
 obtain ⟨dst,op,ty,pos,after,guard⟩:=o
 cases op<;>simp only [quiet,reads,Bool.false_eq_true] at hq hr<;>simp only [Hr] at h ⊢
 all_goals first
   | (obtain ⟨v',h1,h2⟩:=map_some h;injection h2 with h2;subst h2;rw [h1];rfl)
   | (obtain ⟨q,h0,h2⟩:=bind_some h;obtain ⟨v',h1,h3⟩:=map_some h2;injection h3 with h3;subst h3;rw [h0,Option.bind_some,h1];rfl)
   | (split at h
      all_goals first
        | (obtain ⟨v',h1,h2⟩:=map_some h;injection h2 with h2;subst h2;simp only [*,Option.map_some];done)
        | (cases h;done)
        | (cases h;simp only [*];done)
        | (split at h
           all_goals first
             | (cases h;done)
             | (cases h;simp [*];done)))
   | (cases hr;done)
   | (rename_i cl
      unfold JB at h ⊢
      split at h
      all_goals first
        | (rename_i hcl;simp [hcl] at hr;done)
        | (rename_i hcl;simp [hcl] at hq;done)
        | (simp only;obtain ⟨q,h0,h2⟩:=bind_some h;obtain ⟨v',h1,h3⟩:=map_some h2;injection h3 with h3;subst h3;rw [h0,Option.bind_some,h1];rfl)
        | (cases h;done))
end AI
namespace AI
open Go Go.RowKit
inductive Tk where
 | code (c:Code) (fr:List AV) (s:AS)
 | loop (c:Code) (fr:List AV) (s:AS)
 | ops (ops:Array Oper) (l:List Oper) (fr:List AV) (s:AS)
 | draw (ops:Array Oper) (l:List Oper) (fr:List AV) (s:AS) (q:Nat)
 | op (ops:Array Oper) (o:Oper) (fr:List AV) (s:AS)
 | call (f:FuncId) (args:List AV) (s:AS)
inductive Rs where
 | code (e:AX) (fr:List AV) (s:AS)
 | call (r:CR) (s:AS)
 | tr (l:List (List AV×AS×AV)) (fr:List AV) (s:AS)
abbrev NE:=FuncId→List AV→AS→Option (CR×AS)
def Ee:List Oper→Nat→List Nat
 | [],_=>[]
 | o::os,i=>if calm o.op then Ee os (i+1) else i::Ee os (i+1)
def UW (ms:List Nat) (ls:List Nat) (i k:Nat):Bool:=ls.all fun l=>(!KV ms i l||decide (l < k))&&(!KV ms l i||decide (k≤l))
def Kv (P:Program) (G:AB) (ms ls:List Nat) (i:Nat) (o:Oper) (fr:List AV) (v:AV):List AS→Nat→Bool
 | [],_=>true
 | s::ss,k=>(!UW ms ls i k||(match Hr P G fr s o with
     | some (.val u _)=>JG u v
     | _=>false))&&Kv P G ms ls i o fr v ss (k+1)
def Mk (P:Program) (G:AB) (ops:Array Oper) (ms ls:List Nat) (sts:List AS):List Oper→List (List AV×AS×AV)→Nat→Bool
 | o::os,t::ts,i=>(!(quiet o.op&&reads o.op)||!AY ops t.1 o||Kv P G ms ls i o t.1 t.2.2 sts 0)&&Mk P G ops ms ls sts os ts (i+1)
 | _,_,_=>true
def NO (ms ls:List Nat) (i id:Nat) (cs:List AV):List AS→Nat→Bool
 | [],_=>true
 | s::ss,k=>(!UW ms ls i k||(match s.get id with
     | some (.cells ds)=>Nf ds cs
     | _=>false))&&NO ms ls i id cs ss (k+1)
def IK (P:Program) (ops:Array Oper) (ms ls:List Nat) (sts:List AS):List Oper→List (List AV×AS×AV)→Nat→Nat→Bool
 | o::os,t::ts,i,q=>(match o.op with
   | .alloc e=>(!AY ops t.1 o||(match D6 P e with
     | some z=>NO ms ls i q (cellsOf z) sts 0
     | none=>false))&&IK P ops ms ls sts os ts (i+1) (q+1)
   | _=>IK P ops ms ls sts os ts (i+1) q)
 | _,_,_,_=>true
def YP (P:Program):List Oper→Option (List Ap)
 | []=>some []
 | o::l=>(match o.op with
   | .alloc e=>(match D6 P e,YP P l with
     | some z,some r=>some (.cells (cellsOf z)::r)
     | _,_=>none)
   | _=>YP P l)
def PQ (P:Program) (G:AB) (ops:Array Oper) (tr:List (List AV×AS×AV)) (sf:AS):Bool :=
 match Ee ops.toList 0 with
 | []=>true
 | ls=>Mk P G ops (Er ops.toList []) ls (tr.map (·.2.1)++[sf]) ops.toList tr 0
def Jc (P:Program) (ops:Array Oper) (tr:List (List AV×AS×AV)) (sf:AS) (q:Nat):List Ap→Bool
 | []=>true
 | _=>IK P ops (Er ops.toList []) (Ee ops.toList 0) (tr.map (·.2.1)++[sf]) ops.toList tr 0 q
def Nv (P:Program) (G:AB) (ops:Array Oper) (tr:List (List AV×AS×AV)) (sf:AS) (q:Nat) (r:List Ap):Bool :=
 match PQ P G ops tr sf with
 | true=>Jc P ops tr sf q r
 | false=>false
def oY:AV→Bool
 | .ptr _ _ | .msl _ _ _ | .mp _ | .fn _ _ _=>true
 | _=>false
def gF:List AV→Bool
 | []=>false
 | a::l=>match oY a with
   | true=>true
   | false=>gF l
def wP:AV→Bool
 | .agg l=>gF l
 | .Bc l=>gF l
 | a=>oY a
def fin (v:AV) (s:AS) (n:Nat):AS:=match wP v with
 | true=>s
 | false=>s.cut n
theorem Yc (v:AV) (s:AS) (n:Nat):fin v s n=s.cut n∨fin v s n=s:=by
 unfold fin
 cases wP v
 · exact .inl rfl
 · exact .inr rfl
abbrev XP (X:NE):JK:=fun f args s r s'=>X f args s=some (r,s')
def E5 (ops:Array Oper) (fr:List AV) (o:Oper) (q:Nat):AV:=match AY ops fr o with
 | true=>.ptr q 0
 | false=>.sc undef
inductive Ha (P:Program) (G:AB) (X:JK) (H:Hl) (ops:Array Oper):Nat→List Oper→List AV→AS→List (List AV×AS×AV)→List AV→AS→Prop where
 | nil {q:Nat} {fr:List AV} {s:AS}:Ha P G X H ops q [] fr s [] fr s
 | cons {q:Nat} {o:Oper} {l:List Oper} {fr fr':List AV} {s s1 s':AS} {v:AV} {t:List (List AV×AS×AV)} (ha:AN o.op=false) (h:J P G X H (.op ops o fr s (.ret v) s1)) (k:Ha P G X H ops q l (DK fr o.dst v) s1 t fr' s'):Ha P G X H ops q (o::l) fr s ((fr,s,v)::t) fr' s'
 | alloc {q:Nat} {o:Oper} {l:List Oper} {fr fr':List AV} {s s':AS} {t:List (List AV×AS×AV)} (ha:AN o.op=true) (k:Ha P G X H ops (q+1) l (DK fr o.dst (E5 ops fr o q)) s t fr' s'):Ha P G X H ops q (o::l) fr s ((fr,s,E5 ops fr o q)::t) fr' s'
def Rt (P:Program) (G:AB) (X:JK) (H:Hl):Tk→Rs→Prop
 | .code c fr s,.code e fr' s'=>J P G X H (.code c fr s e fr' s')
 | .loop c fr s,.code e fr' s'=>J P G X H (.loop c fr s e fr' s')
 | .ops ops l fr s,.code e fr' s'=>∀ k,l=ops.toList.drop k→J P G X H (.ops ops (List.range' k l.length) fr s e fr' s')
 | .draw ops l fr s q,.tr t fr' s'=>Ha P G X H ops q l fr s t fr' s'
 | .op ops o fr s,.call r s'=>J P G X H (.op ops o fr s r s')
 | .call f args s,.call r s'=>J P G X H (.call f args s r s')
 | _,_=>False
section
variable {P:Program} {G:AB} {X:JK} {H:Hl} {ops:Array Oper}
theorem Ha.len {q:Nat} {l:List Oper} {fr fr':List AV} {s s':AS} {t:List (List AV×AS×AV)} (h:Ha P G X H ops q l fr s t fr' s'):t.length=l.length:=by
 induction h with
 | nil=>rfl
 | cons _ _ _ ih=>simp [ih]
 | alloc _ _ ih=>simp [ih]
def BK (t:List (List AV×AS×AV)) (sf:AS) (i:Nat):AS:=match t[i]? with
 | some x=>x.2.1
 | none=>sf
def Dq (t:List (List AV×AS×AV)) (i:Nat):AV:=match t[i]? with
 | some x=>x.2.2
 | none=>.sc undef
theorem Ha.at {q:Nat} {l:List Oper} {fr fr':List AV} {s s':AS} {t:List (List AV×AS×AV)} (h:Ha P G X H ops q l fr s t fr' s'):BK t s' 0=s∧∀ i o,l[i]?=some o→∃ fi,t[i]?=some (fi,BK t s' i,Dq t i) ∧
   ((AN o.op=false∧J P G X H (.op ops o fi (BK t s' i) (.ret (Dq t i)) (BK t s' (i+1))))∨(AN o.op=true∧BK t s' (i+1)=BK t s' i∧Dq t i=E5 ops fi o (q+RJ l i))):=by
 induction h with
 | nil=>exact ⟨rfl,fun i o ho=>by simp at ho⟩
 | @cons q o l fr fr' s s1 s' v t ha h k ih =>
   refine ⟨rfl,fun i o' ho=>?_⟩
   cases i with
   | zero =>
     simp at ho;subst ho
     refine ⟨fr,rfl,.inl ⟨ha,?_⟩⟩
     have:BK ((fr,s,v)::t) s' 1=s1:=by
       have:=ih.1
       unfold BK at this ⊢
       simpa using this
     rw [this]
     exact h
   | succ i =>
     obtain ⟨fi,h1,h2⟩:=ih.2 i o' (by simpa using ho)
     refine ⟨fi,?_,?_⟩
     · have:((fr,s,v)::t)[i+1]?=t[i]?:=by simp
       rw [this,h1]
       simp [BK,Dq]
     · simp only [RJ,ha,Nat.zero_add]
       simpa [BK,Dq] using h2
 | @alloc q o l fr fr' s s' t ha k ih =>
   refine ⟨rfl,fun i o' ho=>?_⟩
   cases i with
   | zero =>
     simp at ho;subst ho
     refine ⟨fr,rfl,.inr ⟨ha,?_,?_⟩⟩
     · have:=ih.1
       unfold BK at this ⊢
       simpa using this
     · simp [Dq,RJ]
   | succ i =>
     obtain ⟨fi,h1,h2⟩:=ih.2 i o' (by simpa using ho)
     refine ⟨fi,?_,?_⟩
     · have:((fr,s,E5 ops fr o q)::t)[i+1]?=t[i]?:=by simp
       rw [this,h1]
       simp [BK,Dq]
     · simp only [RJ,ha]
       rw [← Nat.add_assoc]
       simpa [BK,Dq] using h2
theorem Ha.MM {q:Nat} {l:List Oper} {fr fr':List AV} {s s':AS} {t:List (List AV×AS×AV)} (h:Ha P G X H ops q l fr s t fr' s') (dst:Nat→Option Tmp) (vals:Nat→AV) (f0:List AV) (k:Nat) (hfr:fr=EH f0 dst vals (fun _=>true) k) (hd:∀ i o,l[i]?=some o→dst (k+i)=o.dst) (hv:∀ i,vals (k+i)=Dq t i∨l.length≤i) :
   fr'=EH f0 dst vals (fun _=>true) (k+l.length)∧∀ i x,t[i]?=some x→x.1=EH f0 dst vals (fun _=>true) (k+i):=by
 have key:∀ {q:Nat} {o:Oper} {l:List Oper} {fr fr':List AV} {s:AS} {v:AV} {t:List (List AV×AS×AV)}
     (_:∀ (k:Nat),DK fr o.dst v=EH f0 dst vals (fun _=>true) k→(∀ i o,l[i]?=some o→dst (k+i)=o.dst)→(∀ i,vals (k+i)=Dq t i∨l.length≤i)→fr'=EH f0 dst vals (fun _=>true) (k+l.length)∧∀ i x,t[i]?=some x→x.1=EH f0 dst vals (fun _=>true) (k+i))
     (k:Nat),fr=EH f0 dst vals (fun _=>true) k→(∀ i o',(o::l)[i]?=some o'→dst (k+i)=o'.dst)→(∀ i,vals (k+i)=Dq ((fr,s,v)::t) i∨(o::l).length≤i) →
     fr'=EH f0 dst vals (fun _=>true) (k+(o::l).length)∧∀ i x,((fr,s,v)::t)[i]?=some x→x.1=EH f0 dst vals (fun _=>true) (k+i):=by
   intro q o l fr fr' s v t ih k hfr hd hv
   have hd0:=hd 0 o rfl
   have hv0:vals k=v:=by
     rcases hv 0 with h0 | h0
     · simpa [Dq] using h0
     · simp at h0
   have:=ih (k+1) (by simp only [EH,if_true];rw [hfr,← hd0,hv0];rfl) (fun i o' ho'=>by have:=hd (i+1) o' (by simpa using ho');rwa [show k+1+i=k+(i+1) from by omega]) (fun i=>by
     rcases hv (i+1) with h1 | h1
     · left;rw [show k+1+i=k+(i+1) from by omega,h1];simp [Dq]
     · right;simp at h1;omega)
   refine ⟨by rw [this.1];congr 1;simp;omega,fun i x hx=>?_⟩
   cases i with
   | zero=>simp at hx;subst hx;exact hfr
   | succ i =>
     have h2:=this.2 i x (by simpa using hx)
     rw [h2];congr 1;omega
 induction h generalizing k with
 | nil=>exact ⟨hfr,fun i x hx=>by simp at hx⟩
 | @cons q o l fr fr' s s1 s' v t ha h _ ih=>exact key (q:=q) (fun k h1 h2 h3=>ih k h1 h2 h3) k hfr hd hv
 | @alloc q o l fr fr' s s' t ha _ ih=>exact key (q:=q) (fun k h1 h2 h3=>ih k h1 h2 h3) k hfr hd hv
theorem RC {os:List Oper} {i l:Nat} {o:Oper} (ho:os[l]?=some o) (hq:calm o.op=false):i+l∈Ee os i:=by
 induction os generalizing i l with
 | nil=>simp at ho
 | cons x os ih =>
   simp only [Ee]
   cases l with
   | zero =>
     simp at ho;subst ho
     rw [hq];simp
   | succ l =>
     have:=ih (i:=i+1) (by simpa using ho)
     rw [show i+1+l=i+(l+1) from by omega] at this
     split
     · exact this
     · exact List.mem_cons_of_mem _ this
theorem PW {i k:Nat} {ls:List Nat} (hls:∀ l,l∈ls→Lo ops l) (h:nO ops i k):UW (Er ops.toList []) ls i k=true:=by
 unfold UW
 rw [List.all_eq_true]
 intro l hl
 have h1:=h.1 l (hls l hl)
 have h2:=h.2 l (hls l hl)
 cases hd1:KV (Er ops.toList []) i l<;>cases hd2:KV (Er ops.toList []) l i<;>simp_all
theorem KR {os:List Oper} {i l:Nat} (h:l∈Ee os i):∃ j o,l=i+j∧os[j]?=some o∧calm o.op=false:=by
 induction os generalizing i with
 | nil=>simp [Ee] at h
 | cons x os ih =>
   simp only [Ee] at h
   split at h
   · obtain ⟨j,o,h1,h2,h3⟩:=ih h
     exact ⟨j+1,o,by omega,by simpa using h2,h3⟩
   · rename_i hq
     rcases List.mem_cons.1 h with h | h
     · exact ⟨0,x,by omega,rfl,by simpa using hq⟩
     · obtain ⟨j,o,h1,h2,h3⟩:=ih h
       exact ⟨j+1,o,by omega,by simpa using h2,h3⟩
theorem SA {ms ls:List Nat} {i:Nat} {o:Oper} {fr:List AV} {v:AV} {ss:List AS} {k0:Nat} (h:Kv P G ms ls i o fr v ss k0=true) {k:Nat} {s:AS} (hs:ss[k]?=some s) (hw:UW ms ls i (k0+k)=true):∃ s',Hr P G fr s o=some (.val v s'):=by
 induction ss generalizing k0 k with
 | nil=>simp at hs
 | cons x ss ih =>
   simp only [Kv,Bool.and_eq_true] at h
   cases k with
   | zero =>
     simp at hs;subst hs
     rw [Nat.add_zero] at hw
     have h1:=h.1
     rw [hw] at h1
     simp only [Bool.not_true,Bool.false_or] at h1
     split at h1
     · rename_i u s' hu
       exact ⟨s',by rw [hu,PE h1]⟩
     · cases h1
   | succ k=>exact ih h.2 (by simpa using hs) (by rwa [show k0+1+k=k0+(k+1) from by omega])
theorem SN {ms ls:List Nat} {sts:List AS} {os:List Oper} {ts:List (List AV×AS×AV)} {i0:Nat} (h:Mk P G ops ms ls sts os ts i0=true) {i:Nat} {o:Oper} {x:List AV×AS×AV} (ho:os[i]?=some o) (hx:ts[i]?=some x):(quiet o.op&&reads o.op)=true→AY ops x.1 o=true→Kv P G ms ls (i0+i) o x.1 x.2.2 sts 0=true:=by
 induction os generalizing ts i0 i with
 | nil=>simp at ho
 | cons y os ih =>
   cases ts with
   | nil=>simp at hx
   | cons t ts =>
     simp only [Mk,Bool.and_eq_true] at h
     cases i with
     | zero =>
       simp at ho hx;subst ho hx
       intro h1 h2
       have:=h.1
       rw [h1,h2] at this
       simpa using this
     | succ i =>
       have:=ih h.2 (by simpa using ho) (by simpa using hx)
       rwa [show i0+1+i=i0+(i+1) from by omega] at this
theorem DG {o:Oper} {fr:List AV} {s s':AS} {v:AV} (hq:quiet o.op=true) (h:J P G X H (.op ops o fr s (.ret v) s')):s'=s∧((AY ops fr o=false∧v=.sc undef)∨(AY ops fr o=true∧Hr P G fr s o=some (.val v s))):=by
 cases h with
 | opVal hw h =>
   obtain ⟨v',e⟩:=Jg hq h
   injection e with e1 e2
   subst e2
   exact ⟨rfl,.inr ⟨hw,h⟩⟩
 | opSkip hw=>exact ⟨rfl,.inl ⟨hw,rfl⟩⟩
 | opCall hw h hc =>
   obtain ⟨v',e⟩:=Jg hq h
   cases e
 | opWeak hq2=>rw [hq] at hq2;cases hq2
 | opWeakS hq2=>rw [hq] at hq2;cases hq2
 | opApp _ ho hcl=>simp [quiet,ho,hcl] at hq
theorem On {ms ls:List Nat} {i id:Nat} {cs:List AV} {ss:List AS} {k0:Nat} (h:NO ms ls i id cs ss k0=true) {k:Nat} {s:AS} (hs:ss[k]?=some s) (hw:UW ms ls i (k0+k)=true):s.get id=some (.cells cs):=by
 induction ss generalizing k0 k with
 | nil=>simp at hs
 | cons x ss ih =>
   simp only [NO,Bool.and_eq_true] at h
   cases k with
   | zero =>
     simp at hs;subst hs
     rw [Nat.add_zero] at hw
     have h1:=h.1
     rw [hw] at h1
     simp only [Bool.not_true,Bool.false_or] at h1
     split at h1
     · rename_i ds hu
       rw [hu,GW h1]
     · cases h1
   | succ k=>exact ih h.2 (by simpa using hs) (by rwa [show k0+1+k=k0+(k+1) from by omega])
theorem OJ {ms ls:List Nat} {sts:List AS} {os:List Oper} {ts:List (List AV×AS×AV)} {i0 q:Nat} (h:IK P ops ms ls sts os ts i0 q=true) {i:Nat} {o:Oper} {e:TypeId} {x:List AV×AS×AV} (ho:os[i]?=some o) (hx:ts[i]?=some x) (he:o.op=.alloc e) (hw:AY ops x.1 o=true):∃ z,D6 P e=some z∧NO ms ls (i0+i) (q+RJ os i) (cellsOf z) sts 0=true:=by
 induction os generalizing ts i0 i q with
 | nil=>simp at ho
 | cons y os ih =>
   cases ts with
   | nil=>simp at hx
   | cons t ts =>
     cases i with
     | zero =>
       simp at ho hx;subst ho hx
       simp only [IK,he,hw,Bool.not_true,Bool.false_or,Bool.and_eq_true] at h
       have h1:=h.1
       split at h1
       · rename_i z hz;exact ⟨z,hz,h1⟩
       · cases h1
     | succ i =>
       simp only [IK] at h
       split at h
       · rename_i e' he'
         rw [Bool.and_eq_true] at h
         have:=ih h.2 (by simpa using ho) (by simpa using hx)
         simp only [RJ,he',AN]
         rwa [show i0+1+i=i0+(i+1) from by omega,Nat.add_assoc q] at this
       · rename_i hne
         have:=ih h (by simpa using ho) (by simpa using hx)
         have hna:AN y.op=false:=by
           cases hya:AN y.op with
           | false=>rfl
           | true=>obtain ⟨e',he'⟩:=DX hya;exact absurd he' (hne e')
         simp only [RJ,hna,Nat.zero_add]
         rwa [show i0+1+i=i0+(i+1) from by omega] at this
theorem Tc {l:List Oper} {r:List Ap} (h:YP P l=some r):r.length=RJ l l.length:=by
 induction l generalizing r with
 | nil=>simp [YP] at h;subst h;rfl
 | cons o l ih =>
   simp only [YP] at h
   split at h
   · rename_i e he
     split at h
     · rename_i z r' hz hr
       cases h
       simp only [List.length_cons,RJ,he,AN,ih hr];omega
     · cases h
   · rename_i hne
     have hna:AN o.op=false:=by
       cases hya:AN o.op with
       | false=>rfl
       | true=>obtain ⟨e',he'⟩:=DX hya;exact absurd he' (hne e')
     simp only [List.length_cons,RJ,hna,ih h];omega
theorem FU {o:Oper} {e:TypeId} (h:o.op=.alloc e):quiet o.op=false:=by rw [h];rfl
theorem bK {id:Nat} {fr fr':List AV} {s s':AS} {r:List Ap} {t:List (List AV×AS×AV)} (hord:F5 ops=true) (hr:YP P ops.toList=some r) (h:Ha P G X H ops s.nx ops.toList fr (s.hold r) t fr' s') (hst:Nv P G ops t s' s.nx r=true):J P G X H (.code (.region id ops true) fr s .normal fr' s'):=by
 have hlen:t.length=ops.size:=by rw [h.len,Array.length_toList]
 have hst0:PQ P G ops t s'=true:=by
   unfold Nv at hst
   split at hst
   · assumption
   · cases hst
 have hst1:Jc P ops t s' s.nx r=true:=by
   unfold Nv at hst
   split at hst
   · exact hst
   · cases hst
 obtain ⟨h0,hat⟩:=h.at
 have hdst:∀ i o,ops[i]?=some o→Bg ops i=o.dst:=fun i o ho=>by unfold Bg;rw [ho];rfl
 obtain ⟨hfin,hfrs⟩:=h.MM (Bg ops) (Dq t) fr 0 rfl (fun i o ho=>by rw [Nat.zero_add];exact hdst i o (by rw [← Array.getElem?_toList];exact ho)) (fun i=>.inl (by rw [Nat.zero_add]))
 rw [Nat.zero_add,Array.length_toList] at hfin
 have hall:∀ i o,ops[i]?=some o→AN o.op=false→J P G X H (.op ops o (EH fr (Bg ops) (Dq t) (fun _=>true) i) (BK t s' i) (.ret (Dq t i)) (BK t s' (i+1))):=by
   intro i o ho hna
   obtain ⟨fi,h1,h2⟩:=hat i o (AP ho)
   have:=hfrs i _ h1
   simp only [Nat.zero_add] at this
   rcases h2 with ⟨_,h2⟩ | ⟨h2,_⟩
   · rw [← this]
     exact h2
   · rw [hna] at h2;cases h2
 have hallA:∀ i o,ops[i]?=some o→AN o.op=true→BK t s' (i+1)=BK t s' i∧Dq t i=E5 ops (EH fr (Bg ops) (Dq t) (fun _=>true) i) o (s.nx+rk ops i):=by
   intro i o ho hya
   obtain ⟨fi,h1,h2⟩:=hat i o (AP ho)
   have:=hfrs i _ h1
   simp only [Nat.zero_add] at this
   rcases h2 with ⟨h2,_⟩ | ⟨_,h2⟩
   · rw [hya] at h2;cases h2
   · rw [← this]
     exact h2
 have hna:∀ o:Oper,quiet o.op=true→AN o.op=false:=by
   intro o hq
   cases hya:AN o.op with
   | false=>rfl
   | true=>obtain ⟨e,he⟩:=DX hya;rw [FU he] at hq;cases hq
 have hnl:∀ o:Oper,calm o.op=false→AN o.op=false:=by
   intro o hq
   cases hya:AN o.op with
   | false=>rfl
   | true=>unfold calm at hq;rw [hya] at hq;cases hq
 have hsn:BK t s' ops.size=s':=by
   unfold BK
   rw [List.getElem?_eq_none (by omega)]
 have hsk:∀ k,k≤ops.size→(t.map (fun x=>x.2.1)++[s'])[k]?=some (BK t s' k):=by
   intro k hk
   unfold BK
   by_cases hkt:k < t.length
   · rw [List.getElem?_append_left (by simpa using hkt),List.getElem?_map,List.getElem?_eq_getElem hkt];rfl
   · have:k=t.length:=by omega
     subst this
     rw [List.getElem?_append_right (by simp)]
     simp
 have hloud:∀ l,l∈Ee ops.toList 0→Lo ops l:=by
   intro l hl
   obtain ⟨j,o',e,h5,h6⟩:=KR hl
   rw [Nat.zero_add] at e
   subst e
   exact ⟨o',by rw [← Array.getElem?_toList];exact h5,h6⟩
 have hquiet:∀ i o,ops[i]?=some o→calm o.op=true→BK t s' (i+1)=BK t s' i:=by
   intro i o ho hq
   rcases JP hq with hq | ⟨e,he⟩
   · exact (DG hq (hall i o ho (hna o hq))).1
   · exact (hallA i o ho (by rw [he];rfl)).1
 have key:=J.draw (P:=P) (G:=G) (X:=X) (H:=H) (id:=id) (f0:=fr) (s0:=s) r (Dq t) (BK t s') h0 hord (fun i o ho hl=>hall i o ho (hnl o hl)) (fun i o ho hq=>by
   obtain ⟨h1,h2⟩:=DG hq (hall i o ho (hna o hq))
   refine ⟨h1,?_⟩
   rcases h2 with h2 | ⟨hw,h2⟩
   · exact .inl h2
   · refine .inr ⟨hw,fun k hk hwin=>?_⟩
     cases hr:reads o.op with
     | false=>exact Im hq hr h2 _
     | true =>
       unfold PQ at hst0
       split at hst0
       · rename_i hls
         have hno:∀ m,¬ Lo ops m:=by
           rintro m ⟨y,hy,hyq⟩
           have:=RC (i:=0) (AP hy) hyq
           rw [hls] at this;cases this
         have hi:=(Array.getElem?_eq_some_iff.1 ho).1
         have e1:BK t s' 0=BK t s' k:=Ni hquiet k (Nat.zero_le _) hk (fun m _ _=>hno m)
         have e2:BK t s' 0=BK t s' i:=Ni hquiet i (Nat.zero_le _) (by omega) (fun m _ _=>hno m)
         rw [← e1,e2]
         exact h2
       · obtain ⟨fi,hti,_⟩:=hat i o (AP ho)
         have hfi:=hfrs i _ hti
         simp only [Nat.zero_add] at hfi
         have hs2:=SN hst0 (AP ho) hti (by rw [hq,hr];rfl) (by rw [hfi];exact hw)
         rw [Nat.zero_add] at hs2
         obtain ⟨s2,hs3⟩:=SA hs2 (hsk k hk) (by
           rw [Nat.zero_add]
           exact PW hloud hwin)
         obtain ⟨v',e⟩:=Jg hq hs3
         injection e with _ e2
         subst e2
         rw [← hfi]
         exact hs3) (fun i o e ho he=>by
   have hya:AN o.op=true:=by rw [he];rfl
   obtain ⟨h1,h2⟩:=hallA i o ho hya
   refine ⟨h1,?_⟩
   have hrk:rk ops i < r.length:=by
     rw [Tc hr]
     exact P2 (AP ho) hya (by rw [Array.length_toList];exact (Array.getElem?_eq_some_iff.1 ho).1)
   cases hw:AY ops (EH fr (Bg ops) (Dq t) (fun _=>true) i) o with
   | false=>unfold E5 at h2;rw [hw] at h2;exact .inl ⟨rfl,h2⟩
   | true =>
     unfold E5 at h2;rw [hw] at h2
     obtain ⟨fi,hti,_⟩:=hat i o (AP ho)
     have hfi:=hfrs i _ hti
     simp only [Nat.zero_add] at hfi
     have hal:IK P ops (Er ops.toList []) (Ee ops.toList 0) (t.map (·.2.1)++[s']) ops.toList t 0 s.nx=true:=by
       unfold Jc at hst1
       split at hst1
       · simp at hrk
       · exact hst1
     obtain ⟨z,hz,hbx⟩:=OJ hal (AP ho) hti he (by rw [hfi];exact hw)
     rw [Nat.zero_add] at hbx
     exact .inr ⟨rfl,z,hz,hrk,h2,fun k hk hwin=>On hbx (hsk k hk) (by rw [Nat.zero_add];exact PW hloud hwin)⟩)
 rw [← hfin,hsn] at key
 exact key
end
end AI
namespace AI
open Go Go.RowKit
def tF:Int→Bool
 | .ofNat m=>Nat.ble m 9223372036854775807
 | .negSucc m=>Nat.ble m 9223372036854775807
def IR (k:IntKind) (n:Int):Int:=match k with
 | .i64=>(match tF n with | true=>n | false=>IntKind.i64.wrap n)
 | k=>k.wrap n
theorem lR {n:Int} (h:tF n=true):IntKind.i64.wrap n=n:=by
 refine IntWalk.i64_in n ?_
 cases n with
 | ofNat m =>
   have:=Nat.le_of_ble_eq_true h
   have e:Int.ofNat m=(m:Int):=rfl
   rw [e]
   have h2:(m:Int)≤9223372036854775807:=Int.ofNat_le.2 this
   have h3:(0:Int)≤m:=Int.natCast_nonneg m
   omega
 | negSucc m =>
   have:=Nat.le_of_ble_eq_true h
   rw [Int.negSucc_eq]
   constructor
   · have e:(-9223372036854775808:Int)=-(9223372036854775807+1):=rfl
     rw [e]
     have h2:(m:Int)≤9223372036854775807:=Int.ofNat_le.2 this
     omega
   · have h2:(0:Int)≤m:=Int.natCast_nonneg m
     omega
theorem Nj (k:IntKind) (n:Int):IR k n=k.wrap n:=by
 cases k<;>try rfl
 simp only [IR]
 cases h:tF n with
 | true=>exact (lR h).symm
 | false=>rfl
def Xr:Int→Int→Int
 | .ofNat a,.ofNat b=>.ofNat (Nat.add a b)
 | a,b=>a+b
theorem PU (a b:Int):Xr a b=a+b:=by cases a<;>cases b<;>rfl
def pS (a b:Nat):Int:=match Nat.ble b a with
 | true=>.ofNat (Nat.sub a b)
 | false=>(a:Int) - (b:Int)
def bN:Int→Int→Int
 | .ofNat a,.ofNat b=>pS a b
 | a,b=>a - b
theorem Tq (a b:Int):bN a b=a - b:=by
 cases a<;>cases b<;>try rfl
 rename_i a b
 simp only [bN,pS]
 cases h:Nat.ble b a with
 | true =>
   have:=Nat.le_of_ble_eq_true h
   show Int.ofNat (a - b)=(a:Int) - (b:Int)
   exact Int.ofNat_sub this
 | false=>rfl
def DM:Int→Int→Bool
 | .ofNat a,.ofNat b=>Nat.beq a b
 | .negSucc a,.negSucc b=>Nat.beq a b
 | _,_=>false
theorem JZ (a b:Int):DM a b=(a == b):=by
 cases a<;>cases b<;>simp only [DM]
 · rename_i a b
   rw [Bool.eq_iff_iff,beq_iff_eq,Int.ofNat.injEq]
   exact ⟨fun h=>Nat.eq_of_beq_eq_true h,fun h=>by subst h;exact Nat.beq_refl a⟩
 · rw [Bool.eq_iff_iff,beq_iff_eq];exact ⟨fun h=>by simp at h,fun h=>by cases h⟩
 · rw [Bool.eq_iff_iff,beq_iff_eq];exact ⟨fun h=>by simp at h,fun h=>by cases h⟩
 · rename_i a b
   rw [Bool.eq_iff_iff,beq_iff_eq,Int.negSucc.injEq]
   exact ⟨fun h=>Nat.eq_of_beq_eq_true h,fun h=>by subst h;exact Nat.beq_refl a⟩
def O0:Int→Int→Bool
 | .ofNat a,.ofNat b=>Nat.ble a b
 | a,b=>decide (a≤b)
theorem XT (a b:Int):O0 a b=decide (a≤b):=by
 cases a<;>cases b<;>try rfl
 rename_i a b
 simp only [O0]
 rw [Bool.eq_iff_iff,decide_eq_true_iff]
 show _↔(a:Int)≤(b:Int)
 rw [Int.ofNat_le]
 exact ⟨Nat.le_of_ble_eq_true,Nat.ble_eq_true_of_le⟩
def Fx:Int→Int→Bool
 | .ofNat a,.ofNat b=>Nat.ble (Nat.succ a) b
 | a,b=>decide (a < b)
theorem I7 (a b:Int):Fx a b=decide (a < b):=by
 cases a<;>cases b<;>try rfl
 rename_i a b
 simp only [Fx]
 rw [Bool.eq_iff_iff,decide_eq_true_iff]
 show _↔(a:Int) < (b:Int)
 rw [Int.ofNat_lt]
 exact ⟨Nat.le_of_ble_eq_true,Nat.ble_eq_true_of_le⟩
def sameKind:IntKind→IntKind→Bool
 | .i64,.i64=>true
 | .u8,.u8=>true
 | _,_=>false
theorem LN {a b:IntKind} (h:sameKind a b=true):a=b:=by cases a<;>cases b<;>first | rfl | cases h
def Zz (k:IntKind) (a b:Int):BinOp→Option Value
 | .add=>some (.int k (IR k (Xr a b)))
 | .sub=>some (.int k (IR k (bN a b)))
 | .mul=>some (.int k (IR k (a*b)))
 | .eql=>some (.bool (DM a b))
 | .neq=>some (.bool (!DM a b))
 | .lss=>some (.bool (Fx a b))
 | .leq=>some (.bool (O0 a b))
 | .gtr=>some (.bool (Fx b a))
 | .geq=>some (.bool (O0 b a))
 | _=>none
theorem bY {P:Program} {op:BinOp} {k:IntKind} {a b:Int} {t:TypeId} {xo yo:Operand} {v:Value} (h:Zz k a b op=some v):pv P (do eqGuard op t xo yo (.int k a) (.int k b);binOp op t (.int k a) (.int k b))=some v∧scalar v=true:=by
 cases op<;>simp only [Zz,Option.some.injEq,reduceCtorEq] at h<;>subst h<;>refine ⟨?_,rfl⟩<;>simp [eqGuard,binOp,Op.intArith,Op.intCmp,pv,Nj,PU,Tq,JZ,I7,XT,bne,Bind.bind,Sem.bind,Pure.pure]
def Cc:List UInt8→List UInt8→Bool
 | [],[]=>true
 | a::l,b::m=>(match Nat.beq a.toNat b.toNat with
   | true=>Cc l m
   | false=>false)
 | _,_=>false
theorem SL (l m:List UInt8):Cc l m=(l == m):=by
 induction l generalizing m with
 | nil=>cases m<;>rfl
 | cons a l ih =>
   cases m with
   | nil=>rfl
   | cons b m =>
     simp only [Cc]
     cases h:Nat.beq a.toNat b.toNat with
     | true =>
       have:a=b:=UInt8.toNat_inj.1 (Nat.eq_of_beq_eq_true h)
       subst this
       simp only [ih]
       simp
     | false =>
       have:a≠b:=fun e=>by subst e;have:=Nat.ne_of_beq_eq_false h;exact this rfl
       simp [this]
def fN (x y:ByteArray):BinOp→Option Value
 | .eql=>some (.bool (Cc x.data.toList y.data.toList))
 | .neq=>some (.bool (!Cc x.data.toList y.data.toList))
 | op=>UJ op x y
theorem Z4 (x y:ByteArray) (op:BinOp):fN x y op=UJ op x y:=by cases op<;>simp only [fN,UJ,SL]
def Wu (v:Option Value):Option AV:=match v with
 | some v=>(match scalar v with | true=>some (.sc v) | false=>none)
 | none=>none
theorem XN (v:Option Value):Wu v=v.bind Qa:=by
 cases v with
 | none=>rfl
 | some v=>simp only [Wu,Option.bind_some,Qa];cases scalar v<;>rfl
def P5 (P:Program) (op:BinOp) (t:TypeId) (xo yo:Operand) (x y:Value):Option AV :=
 match x with
 | .int k a=>(match y with
   | .int k' b=>(match sameKind k k' with
     | true=>(match Zz k a b op with
       | some v=>some (.sc v)
       | none=>GI P op t xo yo (.sc (.int k a)) (.sc (.int k' b)))
     | false=>GI P op t xo yo (.sc (.int k a)) (.sc (.int k' b)))
   | y=>GI P op t xo yo (.sc (.int k a)) (.sc y))
 | .string a=>(match y with
   | .string b=>Wu (fN a b op)
   | y=>GI P op t xo yo (.sc (.string a)) (.sc y))
 | x=>GI P op t xo yo (.sc x) (.sc y)
def MN (P:Program) (op:BinOp) (t:TypeId) (xo yo:Operand) (a b:AV):Option AV :=
 match a with
 | .sc x=>(match b with
   | .sc y=>P5 P op t xo yo x y
   | b=>GI P op t xo yo (.sc x) b)
 | a=>GI P op t xo yo a b
theorem Nw (P:Program) (op:BinOp) (t:TypeId) (xo yo:Operand) (a b:AV):MN P op t xo yo a b=GI P op t xo yo a b:=by
 unfold MN
 cases a with
 | sc x =>
   cases b with
   | sc y =>
     simp only [P5]
     cases x with
     | int k a =>
       cases y with
       | int k' b =>
         simp only
         cases hk:sameKind k k' with
         | false=>rfl
         | true =>
           have:=LN hk
           subst this
           simp only
           cases hf:Zz k a b op with
           | none=>rfl
           | some v =>
             obtain ⟨h1,h2⟩:=bY (P:=P) (t:=t) (xo:=xo) (yo:=yo) hf
             simp [GI,Kn,Lz,h1,Qa,h2]
       | _=>rfl
     | string a =>
       cases y with
       | string b=>simp only [XN,Z4];rfl
       | _=>rfl
     | _=>rfl
   | _=>rfl
 | _=>rfl
def Yn:List UInt8→Nat→Option UInt8
 | [],_=>none
 | a::_,0=>some a
 | _::l,n+1=>Yn l n
theorem Zj (l:List UInt8) (n:Nat):Yn l n=l[n]?:=by
 induction l generalizing n with
 | nil=>simp [Yn]
 | cons a l ih=>cases n<;>simp [Yn,ih]
def rF:Option UInt8→Option AV
 | some b=>some (.sc (.int .u8 (.ofNat b.toNat)))
 | none=>none
def Mq (P:Program) (t:TypeId) (x ix:AV):Option AV :=
 match x with
 | .sc (.string s)=>(match P.underlying t with
   | some .string=>(match IA ix with
     | some i=>rF (Yn s.data.toList i)
     | none=>none)
   | _=>Fo P t (.sc (.string s)) ix)
 | x=>Fo P t x ix
theorem SH (P:Program) (t:TypeId) (x ix:AV):Mq P t x ix=Fo P t x ix:=by
 unfold Mq
 cases x with
 | sc v =>
   cases v with
   | string s =>
     simp only
     split
     · rename_i hu
       unfold Fo
       rw [hu]
       cases IA ix with
       | none=>rfl
       | some i =>
         simp only [Zj]
         cases s.data.toList[i]?<;>rfl
     · rfl
   | _=>rfl
 | _=>rfl
end AI
namespace AI
open Go Go.RowKit
def nth:List AV→Nat→AV
 | [],_=>.sc undef
 | a::_,0=>a
 | _::l,n+1=>nth l n
theorem YC (l:List AV) (n:Nat):nth l n=l.getD n (.sc undef):=by
 induction l generalizing n with
 | nil=>simp [nth]
 | cons a l ih=>cases n<;>simp [nth,ih]
def xM:Option (List AV)→Option AV
 | some cs=>some (.el cs)
 | none=>none
def Aw (G:AB) (fr:List AV):Operand→Option AV
 | .tmp t=>some (nth fr t)
 | .const v=>LB v
 | .global g=>xM (G g)
 | .func f=>some (.fn (.func f) [] [])
theorem A3 (G:AB) (fr:List AV) (x:Operand):Aw G fr x=AE G fr x:=by
 cases x with
 | tmp t=>simp only [Aw,AE,YC]
 | const v=>rfl
 | global g=>simp only [Aw,AE];cases G g<;>rfl
 | func f=>rfl
def FX (s:AS):Option AV→Option AR
 | some v=>some (.val v s)
 | none=>none
theorem Iq (s:AS) (o:Option AV):FX s o=o.map (fun v=>.val v s):=by cases o<;>rfl
def Q7:Option AS→Option AR
 | some s=>some (.val (.sc undef) s)
 | none=>none
theorem bA (o:Option AS):Q7 o=o.map (fun s=>.val (.sc undef) s):=by cases o<;>rfl
def U5:Option (AV×AS)→Option AR
 | some r=>some (.val r.1 r.2)
 | none=>none
theorem Th (o:Option (AV×AS)):U5 o=o.map (fun r=>.val r.1 r.2):=by cases o<;>rfl
def PO {α β:Type} (o:Option α) (f:α→Option β):Option β:=match o with
 | some a=>f a
 | none=>none
theorem Py {α β:Type} (o:Option α) (f:α→Option β):PO o f=o.bind f:=by cases o<;>rfl
def two {β:Type} (a b:Option AV) (f:AV→AV→Option β):Option β:=match a with
 | some x=>(match b with
   | some y=>f x y
   | none=>none)
 | none=>none
def three {β:Type} (a b d:Option AV) (f:AV→AV→AV→Option β):Option β:=match a with
 | some x=>(match b with
   | some y=>(match d with
     | some z=>f x y z
     | none=>none)
   | none=>none)
 | none=>none
def eR (x y:Option AV):Option AV→Option AV
 | some (.sc (.bool t))=>(match t with | true=>x | false=>y)
 | _=>none
def W6 (s:AS):Option AV→Option AR
 | some z=>some (.val (.ptr s.nx 0) (s.new (.cells (cellsOf z))))
 | none=>none
def TW (s:AS):Option AV→Option AR
 | some z=>(match IS z with | true=>none | false=>some (.val (.ptr s.nx 0) (s.new (.cells (cellsOf z)))))
 | none=>none
def Sv (s:AS):Option AV→Option AR
 | some v=>(match notNil v with | true=>some (.val v s) | false=>none)
 | none=>none
def S1 (t:TypeId) (s:AS) (v:Option AV):Option TypeDesc→Option AR
 | some d=>(match v with
   | some v=>(match isIface d with | true=>none | false=>some (.val (.ifc t v) s))
   | none=>none)
 | none=>none
def func1 (f:Fn) (s:AS) (b:Option (List AV)):Option (List AV)→Option AR
 | some a=>(match b with
   | some b=>some (.val (.fn f a b) s)
   | none=>none)
 | none=>none
def XJ (P:Program) (s:AS) (t:TypeId) (l h m:Option (Option AV)):Option AV→Option AR
 | some a=>(match l with
   | some l=>(match h with
     | some h=>(match m with
       | some m=>FX s (Gr P t a l h m)
       | none=>none)
     | none=>none)
   | none=>none)
 | none=>none
def nU:Option AV→Option AR
 | some (.ifc t v)=>some (.pan (.ifc t v))
 | _=>none
def nW (P:Program) (as:Option (List AV)):Option AV→Option AR
 | some (.fn (.func g) first caps)=>(match as with
   | some as=>(match Gq P g with | true=>some (.ent g (first++as++caps)) | false=>none)
   | none=>none)
 | _=>none
def r5 (P:Program) (G:AB) (fr:List AV) (s:AS):List Operand→List TypeId→Option AR
 | [x],[t]=>FX s (PO (Aw G fr x) (LP P s t))
 | _,_=>none
def sH (P:Program) (G:AB) (fr:List AV) (s:AS):List Operand→List TypeId→Option AR
 | [x,y],[t,tx]=>U5 (two (Aw G fr x) (Aw G fr y) (Fy P s t tx))
 | _,_=>none
def eJ (P:Program) (s:AS) (f:List Value→Sem Value):Option (List Value)→Option AR
 | some vs=>FX s (LI P (f vs))
 | none=>none
def TZ (P:Program) (s:AS) (f:Value→Sem Value):Option Value→Option AR
 | some v=>FX s (LI P (f v))
 | none=>none
def IG (P:Program) (G:AB) (fr:List AV) (s:AS) (o:Oper) (cl:Call):Builtin→Option AR
 | .len=>r5 P G fr s cl.args.toList cl.argTypes.toList
 | .append=>sH P G fr s cl.args.toList cl.argTypes.toList
 | .max=>eJ P s (fun vs=>Builtin.max_ cl.argTypes o.type vs.toArray) (PO (N5 G fr cl.args.toList) GX)
 | .min=>eJ P s (fun vs=>Builtin.min_ cl.argTypes o.type vs.toArray) (PO (N5 G fr cl.args.toList) GX)
 | _=>none
def PR (P:Program) (G:AB) (fr:List AV) (s:AS) (o:Oper) (cl:Call):Option AR :=
 match cl.callee with
 | .builtin b=>IG P G fr s o cl b
 | .value f=>nW P (N5 G fr cl.args.toList) (Aw G fr f)
 | _=>none
def Rc (s:AS):Option Operand→Option AR
 | none=>some (.val (.mp s.nx) (s.new (.map [] 0)))
 | some _=>none
def JF (P:Program) (G:AB) (fr:List AV) (s:AS) (o:Oper):Option AR :=
 match o.op with
 | .move x=>FX s (Aw G fr x)
 | .assign x=>FX s (Aw G fr x)
 | .pick c a b=>FX s (eR (Aw G fr a) (Aw G fr b) (Aw G fr c))
 | .alloc e=>W6 s (D6 P e)
 | .box _ x=>TW s (Aw G fr x)
 | .build t ps=>FX s (PO (Fw G fr ps.toList) (NU P t))
 | .buildSlice t n ps=>FX s (PO (Fw G fr ps.toList) (FH P t n))
 | .load t a=>FX s (PO (Aw G fr a) (DO P s t))
 | .store t a x=>Q7 (two (Aw G fr a) (Aw G fr x) (EG P s t))
 | .nilCheck x=>Sv s (Aw G fr x)
 | .binOp op t x y _=>FX s (two (Aw G fr x) (Aw G fr y) (MN P op t x y))
 | .unOp op _ x=>TZ P s (Op.unary op) (PO (Aw G fr x) Il)
 | .convert src dst x=>TZ P s (convert src dst) (PO (Aw G fr x) Il)
 | .makeInterface t x=>S1 t s (Aw G fr x) (P.underlying t)
 | .makeFunc f first caps=>func1 f s (N5 G fr caps.toList) (N5 G fr first.toList)
 | .makeMap _ r=>Rc s r
 | .makeSlice t l c=>U5 (two (Aw G fr l) (Aw G fr c) (Dz P s t))
 | .slice t x lo hi mx=>XJ P s t (Qd G fr lo) (Qd G fr hi) (Qd G fr mx) (Aw G fr x)
 | .fieldAddr t x k=>FX s (PO (Aw G fr x) fun a=>IP P t a k)
 | .field t x k=>FX s (PO (Aw G fr x) fun a=>MF P t a k)
 | .indexAddr t x i=>FX s (two (Aw G fr x) (Aw G fr i) (BD P t))
 | .index t x i=>FX s (two (Aw G fr x) (Aw G fr i) (Mq P t))
 | .lookup t x k ok=>FX s (two (Aw G fr x) (Aw G fr k) fun a b=>C4 P s t a b ok)
 | .mapUpdate t m k x=>Q7 (three (Aw G fr m) (Aw G fr k) (Aw G fr x) (Ed P s t))
 | .insert t m k x=>Q7 (three (Aw G fr m) (Aw G fr k) (Aw G fr x) (Ed P s t))
 | .mapEntry t m k=>U5 (two (Aw G fr m) (Aw G fr k) (Hp P s t))
 | .entryStore _ m st x=>Q7 (three (Aw G fr m) (Aw G fr st) (Aw G fr x) (FC s))
 | .extract x k=>FX s (PO (Aw G fr x) fun a=>I0 a k)
 | .call cl=>PR P G fr s o cl
 | .panic x=>nU (Aw G fr x)
 | _=>none
theorem U1 (P:Program) (G:AB) (fr:List AV) (s:AS) (o:Oper) (cl:Call):PR P G fr s o cl=JB P G fr s o cl:=by
 unfold PR JB
 cases hc:cl.callee with
 | value f =>
   simp only [A3]
   cases AE G fr f with
   | none=>rfl
   | some v =>
     cases v with
     | fn g a b =>
       cases g with
       | func g =>
         cases N5 G fr cl.args.toList with
         | none=>rfl
         | some as =>
           simp only [nW]
           cases Gq P g<;>rfl
       | _=>rfl
     | _=>rfl
 | invoke r m=>rfl
 | builtin b =>
   cases b<;>try rfl
   · simp only [IG]
     cases hx:cl.args.toList with
     | nil=>rfl
     | cons x xs =>
       cases xs with
       | nil=>rfl
       | cons y ys =>
         cases ys with
         | cons z zs=>rfl
         | nil =>
           cases ht:cl.argTypes.toList with
           | nil=>rfl
           | cons t ts =>
             cases ts with
             | nil=>rfl
             | cons u us =>
               cases us with
               | cons v vs=>rfl
               | nil =>
                 simp only [sH,A3]
                 cases AE G fr x<;>cases AE G fr y<;>first | rfl | exact Th _
   · simp only [IG]
     cases hx:cl.args.toList with
     | nil=>rfl
     | cons x xs =>
       cases xs with
       | cons y ys=>rfl
       | nil =>
         cases ht:cl.argTypes.toList with
         | nil=>rfl
         | cons t ts =>
           cases ts with
           | cons u us=>rfl
           | nil=>simp only [r5,A3,Py];exact Iq _ _
   · simp only [IG,Py]
     cases (N5 G fr cl.args.toList).bind GX with
     | none=>rfl
     | some vs=>exact Iq _ _
   · simp only [IG,Py]
     cases (N5 G fr cl.args.toList).bind GX with
     | none=>rfl
     | some vs=>exact Iq _ _
theorem Fu (P:Program) (G:AB) (fr:List AV) (s:AS) (o:Oper):JF P G fr s o=Hr P G fr s o:=by
 unfold JF Hr
 cases ho:o.op<;>simp only [A3,Iq,bA,Th,Py,U1]
 case pick c a b =>
   cases AE G fr c with
   | none=>rfl
   | some v =>
     cases v with
     | sc u=>cases u<;>first | rfl | (rename_i t;cases t<;>rfl)
     | _=>rfl
 case alloc e=>cases D6 P e<;>rfl
 case box e x =>
   cases AE G fr x with
   | none=>rfl
   | some v=>cases v<;>rfl
 case store t a x=>cases AE G fr a<;>cases AE G fr x<;>rfl
 case nilCheck x =>
   cases AE G fr x with
   | none=>rfl
   | some v=>simp only [Sv];cases notNil v<;>rfl
 case binOp op t x y z=>cases AE G fr x<;>cases AE G fr y<;>first | rfl | (simp only [two,Nw])
 case unOp op t x=>cases (AE G fr x).bind Il with
   | none=>rfl
   | some v=>exact Iq _ _
 case convert a b x=>cases (AE G fr x).bind Il with
   | none=>rfl
   | some v=>exact Iq _ _
 case makeInterface t x =>
   cases AE G fr x with
   | none=>cases P.underlying t<;>rfl
   | some v =>
     cases P.underlying t with
     | none=>rfl
     | some d=>simp only [S1];cases isIface d<;>rfl
 case makeFunc f a b=>cases N5 G fr a.toList<;>cases N5 G fr b.toList<;>rfl
 case makeMap t r=>cases r<;>rfl
 case makeSlice t l c=>cases AE G fr l<;>cases AE G fr c<;>rfl
 case slice t x lo hi mx =>
   cases AE G fr x<;>cases Qd G fr lo<;>cases Qd G fr hi<;>cases Qd G fr mx<;>first | rfl | exact Iq _ _
 case indexAddr t x i=>cases AE G fr x<;>cases AE G fr i<;>rfl
 case index t x i=>cases AE G fr x<;>cases AE G fr i<;>first | rfl | (simp only [two,SH])
 case lookup t x k ok=>cases AE G fr x<;>cases AE G fr k<;>rfl
 case mapUpdate t m k x=>cases AE G fr m<;>cases AE G fr k<;>cases AE G fr x<;>rfl
 case insert t m k x=>cases AE G fr m<;>cases AE G fr k<;>cases AE G fr x<;>rfl
 case mapEntry t m k=>cases AE G fr m<;>cases AE G fr k<;>rfl
 case entryStore t m k x=>cases AE G fr m<;>cases AE G fr k<;>cases AE G fr x<;>rfl
 case panic x =>
   cases AE G fr x with
   | none=>rfl
   | some v=>cases v<;>rfl
end AI
namespace AI
open Go Go.RowKit
abbrev Rec:=Tk→Option Rs
def Vb (r:Rec) (y:Code):Option Rs→Option Rs
 | some (.code e fr s)=>(match e with
   | .normal=>r (.code y fr s)
   | e=>some (.code e fr s))
 | _=>none
def Um (r:Rec) (x y:Code) (fr:List AV) (s:AS):Option AV→Option Rs
 | some (.sc (.bool t))=>(match t with
   | true=>r (.code x fr s)
   | false=>r (.code y fr s))
 | _=>none
def Si (id:Nat):Option Rs→Option Rs
 | some (.code e fr s)=>some (.code (Cu id e) fr s)
 | _=>none
def Qh:Option Rs→Option Rs
 | some (.code e fr s)=>some (.code e fr s)
 | _=>none
def dU (P:Program) (G:AB) (ops:Array Oper) (q:Nat) (rs:List Ap):Option Rs→Option Rs
 | some (.tr t fr s)=>(match Nv P G ops t s q rs with
   | true=>some (.code .normal fr s)
   | false=>none)
 | _=>none
def dY (P:Program) (G:AB) (r:Rec) (ops:Array Oper) (fr:List AV) (s:AS):Option (List Ap)→Option Rs
 | some rs=>dU P G ops s.nx rs (r (.draw ops ops.toList fr (s.hold rs) s.nx))
 | none=>none
def dM (P:Program) (G:AB) (r:Rec) (ops:Array Oper) (fr:List AV) (s:AS):Bool→Option Rs
 | true=>dY P G r ops fr s (YP P ops.toList)
 | false=>none
def Mh (P:Program) (G:AB) (r:Rec) (ops:Array Oper) (fr:List AV) (s:AS):Bool→Option Rs
 | false=>Qh (r (.ops ops ops.toList fr s))
 | true=>dM P G r ops fr s (F5 ops)
def DW (P:Program) (G:AB) (r:Rec) (fr:List AV) (s:AS):Code→Option Rs
 | .skip=>some (.code .normal fr s)
 | .exit id=>some (.code (.exit id) fr s)
 | .ret=>some (.code .ret fr s)
 | .seq x y=>Vb r y (r (.code x fr s))
 | .cond q x y=>Um r x y fr s (Aw G fr q)
 | .block id c=>Si id (r (.code c fr s))
 | .loop c=>Qh (r (.loop c fr s))
 | .region _ ops d=>Mh P G r ops fr s d
 | _=>none
def Oq (r:Rec) (c:Code):Option Rs→Option Rs
 | some (.code e fr s)=>(match e with
   | .normal=>r (.loop c fr s)
   | e=>some (.code e fr s))
 | _=>none
def vK (r:Rec) (ops:Array Oper) (dst:Option Tmp) (l:List Oper) (fr:List AV):Option Rs→Option Rs
 | some (.call c s)=>(match c with
   | .ret v=>r (.ops ops l (DK fr dst v) s)
   | .pan v=>some (.code (.pan v) fr s))
 | _=>none
def bS (r:Rec) (ops:Array Oper) (fr:List AV) (s:AS):List Oper→Option Rs
 | []=>some (.code .normal fr s)
 | o::l=>vK r ops o.dst l fr (r (.op ops o fr s))
def sK (fr:List AV) (s:AS) (v:AV):Option Rs→Option Rs
 | some (.tr t fr1 s2)=>some (.tr ((fr,s,v)::t) fr1 s2)
 | _=>none
def X1 (r:Rec) (ops:Array Oper) (dst:Option Tmp) (l:List Oper) (fr:List AV) (s:AS) (q:Nat):Option Rs→Option Rs
 | some (.call (.ret v) s1)=>sK fr s v (r (.draw ops l (DK fr dst v) s1 q))
 | _=>none
def YD (r:Rec) (ops:Array Oper) (o:Oper) (l:List Oper) (fr:List AV) (s:AS) (q:Nat) (v:AV):Option Rs:=sK fr s v (r (.draw ops l (DK fr o.dst v) s (q+1)))
def So (r:Rec) (ops:Array Oper) (o:Oper) (l:List Oper) (fr:List AV) (s:AS) (q:Nat):Bool→Option Rs
 | true=>YD r ops o l fr s q (E5 ops fr o q)
 | false=>X1 r ops o.dst l fr s q (r (.op ops o fr s))
def Ke (r:Rec) (ops:Array Oper) (fr:List AV) (s:AS) (q:Nat):List Oper→Option Rs
 | []=>some (.tr [] fr s)
 | o::l=>So r ops o l fr s q (AN o.op)
def eC:Option Rs→Option Rs
 | some (.call c s)=>some (.call c s)
 | _=>none
def rZ (r:Rec) (s:AS):Option AR→Option Rs
 | some (.val v s1)=>some (.call (.ret v) s1)
 | some (.pan v)=>some (.call (.pan v) s)
 | some (.ent f args)=>eC (r (.call f args s))
 | none=>none
def NF (ops:Array Oper) (fr:List AV):Option (Nat×Bool)→Bool
 | none=>true
 | some p=>(match (ops[p.1]?).bind (·.dst) with
   | some d=>(match nth fr d with
     | .sc (.bool b)=>b == p.2
     | _=>false)
   | none=>false)
theorem Uu (ops:Array Oper) (fr:List AV) (o:Oper):NF ops fr o.guard=AY ops fr o:=by
 unfold NF AY
 cases o.guard with
 | none=>rfl
 | some p =>
   obtain ⟨j,want⟩:=p
   simp only
   cases (ops[j]?).bind (·.dst) with
   | none=>rfl
   | some d =>
     simp only [YC,List.getD_eq_getElem?_getD]
     cases fr[d]? with
     | none=>rfl
     | some v =>
       cases v with
       | sc u=>cases u<;>rfl
       | _=>rfl
def kW (P:Program) (G:AB) (r:Rec) (fr:List AV) (s:AS) (o:Oper):Bool→Option Rs
 | true=>rZ r s (JF P G fr s o)
 | false=>some (.call (.ret (.sc undef)) s)
def fC (k:CR→Option CR):Option Rs→Option Rs
 | some (.call c s)=>(match k c with
   | some c1=>some (.call c1 s)
   | none=>none)
 | _=>none
def cR (s:AS) (n:Nat):Option AV→Option Rs
 | some v=>some (.call (.ret v) (fin v s n))
 | none=>none
def Qy (P:Program) (fn:Func) (n:Nat):Option Rs→Option Rs
 | some (.code e fr s)=>(match e with
   | .normal=>cR s n (Cm P s fn fr)
   | .ret=>cR s n (Cm P s fn fr)
   | .pan v=>some (.call (.pan v) (s.cut n))
   | .exit _=>none)
 | _=>none
def fE (P:Program) (r:Rec) (fn:Func) (args:List AV) (s:AS):Option Code→Option Rs
 | some c=>Qy P fn s.nx (r (.code c (args++List.replicate (fn.ntmps - args.length) (.sc undef)) s))
 | none=>none
def YV (P:Program) (r:Rec) (args:List AV) (s:AS):Option Func→Option Rs
 | some fn=>fE P r fn args s fn.body
 | none=>none
def VG (P:Program) (r:Rec) (f:FuncId) (args:List AV) (s:AS):Option (FuncId×List AV×(CR→Option CR))→Option Rs
 | some (g,gargs,k)=>fC k (r (.call g gargs s))
 | none=>YV P r args s P.funcs[f]?
def ZD (P:Program) (H:Hl) (r:Rec) (f:FuncId) (args:List AV) (s:AS):Option (CR×AS)→Option Rs
 | some (c,s1)=>some (.call c s1)
 | none=>VG P r f args s (H f args)
def step (P:Program) (G:AB) (X:NE) (H:Hl) (r:Rec):Tk→Option Rs
 | .code c fr s=>DW P G r fr s c
 | .loop c fr s=>Oq r c (r (.code c fr s))
 | .ops ops l fr s=>bS r ops fr s l
 | .draw ops l fr s q=>Ke r ops fr s q l
 | .op ops o fr s=>kW P G r fr s o (NF ops fr o.guard)
 | .call f args s=>ZD P H r f args s (X f args s)
end AI
namespace AI
open Go Go.RowKit
noncomputable def fR (l:List AV):Nat→AV:=List.rec (motive:=fun _=>Nat→AV) (fun _=>.sc undef) (fun a _ ih n=>Nat.rec (motive:=fun _=>AV) a (fun k _=>ih k) n) l
theorem aN (l:List AV) (n:Nat):fR l n=nth l n:=by
 induction l generalizing n with
 | nil=>rfl
 | cons a l ih=>cases n with
   | zero=>rfl
   | succ n=>exact ih n
noncomputable def hJ (v:AV) (l:List AV):Nat→List AV:=List.rec (motive:=fun _=>Nat→List AV) (fun _=>[]) (fun a t ih n=>Nat.rec (motive:=fun _=>List AV) (v::t) (fun k _=>a::ih k) n) l
theorem Z2 (v:AV) (l:List AV) (n:Nat):hJ v l n=l.set n v:=by
 induction l generalizing n with
 | nil=>rfl
 | cons a l ih=>cases n with
   | zero=>rfl
   | succ n=>show a::hJ v l n=_;rw [ih];rfl
noncomputable def c7 (fr:List AV) (dst:Option Tmp) (v:AV):List AV:=Option.rec (motive:=fun _=>List AV) fr (fun d=>hJ v fr d) dst
theorem XY (fr:List AV) (dst:Option Tmp) (v:AV):c7 fr dst v=DK fr dst v:=by cases dst with
 | none=>rfl
 | some d=>exact Z2 v fr d
abbrev Sm:=Program→AB→List AV→AS→Oper→Option AR
noncomputable def gQ (t:Tmp) (_:AB) (fr:List AV):Option AV:=some (fR fr t)
def ZO (v:Value) (_:AB) (_:List AV):Option AV:=LB v
def kS (g:Nat) (G:AB) (_:List AV):Option AV:=xM (G g)
def vM (f:FuncId) (_:AB) (_:List AV):Option AV:=some (.fn (.func f) [] [])
noncomputable def YN (x:Operand):AB→List AV→Option AV:=Operand.rec (motive:=fun _=>AB→List AV→Option AV) gQ ZO kS vM x
theorem gN (x:Operand) (G:AB) (fr:List AV):YN x G fr=Aw G fr x:=by
 cases x with
 | tmp t=>show some (fR fr t)=some (nth fr t);rw [aN]
 | const v=>rfl
 | global g=>rfl
 | func f=>rfl
noncomputable def N9 {α β:Type} (o:Option α) (f:α→Option β):Option β:=Option.rec (motive:=fun _=>Option β) none f o
theorem ZS {α β:Type} (o:Option α) (f:α→Option β):N9 o f=PO o f:=by cases o<;>rfl
def oI (s:AS) (v:AV):Option AR:=some (.val v s)
noncomputable def S7 (s:AS) (o:Option AV):Option AR:=N9 o (oI s)
theorem aL (s:AS) (o:Option AV):S7 s o=FX s o:=by cases o<;>rfl
noncomputable def P6 (x:Operand):Sm:=fun _ G fr s _=>S7 s (YN x G fr)
def bQ (c a b:Operand):Sm:=fun _ G fr s _=>FX s (eR (Aw G fr a) (Aw G fr b) (Aw G fr c))
def XV (e:TypeId):Sm:=fun P _ _ s _=>W6 s (D6 P e)
def lG (_:TypeId) (x:Operand):Sm:=fun _ G fr s _=>TW s (Aw G fr x)
def X7 (t:TypeId) (ps:Array (Nat×Operand)):Sm:=fun P G fr s _=>FX s (PO (Fw G fr ps.toList) (NU P t))
def N6 (t:TypeId) (n:Nat) (ps:Array (Nat×Operand)):Sm:=fun P G fr s _=>FX s (PO (Fw G fr ps.toList) (FH P t n))
noncomputable def Ty (t:TypeId) (a:Operand):Sm:=fun P G fr s _=>S7 s (N9 (YN a G fr) (DO P s t))
def Xp (t:TypeId) (a x:Operand):Sm:=fun P G fr s _=>Q7 (two (Aw G fr a) (Aw G fr x) (EG P s t))
def mO (x:Operand):Sm:=fun _ G fr s _=>Sv s (Aw G fr x)
noncomputable def VS (op:BinOp) (t:TypeId) (x y:Operand) (_:TypeId):Sm:=fun P G fr s _=>S7 s (N9 (YN x G fr) (fun a=>N9 (YN y G fr) (fun b=>MN P op t x y a b)))
def qF (op:UnOp) (_:TypeId) (x:Operand):Sm:=fun P G fr s _=>TZ P s (Op.unary op) (PO (Aw G fr x) Il)
def Z3 (src dst:TypeId) (x:Operand):Sm:=fun P G fr s _=>TZ P s (convert src dst) (PO (Aw G fr x) Il)
def Yo (t:TypeId) (x:Operand):Sm:=fun P G fr s _=>S1 t s (Aw G fr x) (P.underlying t)
def Y8 (f:Fn) (first caps:Array Operand):Sm:=fun _ G fr s _=>func1 f s (N5 G fr caps.toList) (N5 G fr first.toList)
def mI (_:TypeId) (r:Option Operand):Sm:=fun _ _ _ s _=>Rc s r
def cD (t:TypeId) (l c:Operand):Sm:=fun P G fr s _=>U5 (two (Aw G fr l) (Aw G fr c) (Dz P s t))
def XX (t:TypeId) (x:Operand) (lo hi mx:Option Operand):Sm:=fun P G fr s _=>XJ P s t (Qd G fr lo) (Qd G fr hi) (Qd G fr mx) (Aw G fr x)
noncomputable def OG (t:TypeId) (x:Operand) (k:Nat):Sm:=fun P G fr s _=>S7 s (N9 (YN x G fr) fun a=>IP P t a k)
def Xq (t:TypeId) (x:Operand) (k:Nat):Sm:=fun P G fr s _=>FX s (PO (Aw G fr x) fun a=>MF P t a k)
noncomputable def OY (t:TypeId) (x i:Operand):Sm:=fun P G fr s _=>S7 s (N9 (YN x G fr) (fun a=>N9 (YN i G fr) (fun b=>BD P t a b)))
noncomputable def QA (t:TypeId) (x i:Operand):Sm:=fun P G fr s _=>S7 s (N9 (YN x G fr) (fun a=>N9 (YN i G fr) (fun b=>Mq P t a b)))
def Ur (t:TypeId) (x k:Operand) (ok:Bool):Sm:=fun P G fr s _=>FX s (two (Aw G fr x) (Aw G fr k) fun a b=>C4 P s t a b ok)
def Wj (t:TypeId) (m k x:Operand):Sm:=fun P G fr s _=>Q7 (three (Aw G fr m) (Aw G fr k) (Aw G fr x) (Ed P s t))
def VN (t:TypeId) (m k:Operand):Sm:=fun P G fr s _=>U5 (two (Aw G fr m) (Aw G fr k) (Hp P s t))
def UA (_:TypeId) (m st x:Operand):Sm:=fun _ G fr s _=>Q7 (three (Aw G fr m) (Aw G fr st) (Aw G fr x) (FC s))
def SB (x:Operand) (k:Nat):Sm:=fun _ G fr s _=>FX s (PO (Aw G fr x) fun a=>I0 a k)
def aG (cl:Call):Sm:=fun P G fr s o=>PR P G fr s o cl
def WX (x:Operand):Sm:=fun _ G fr _ _=>nU (Aw G fr x)
def qO:Sm:=fun _ _ _ _ _=>none
noncomputable def V1 (op:Op):Sm:=match op with
 | .move x=>P6 x
 | .assign x=>P6 x
 | .pick c a b=>bQ c a b
 | .alloc e=>XV e
 | .box e x=>lG e x
 | .build t ps=>X7 t ps
 | .buildSlice t n ps=>N6 t n ps
 | .load t a=>Ty t a
 | .store t a x=>Xp t a x
 | .nilCheck x=>mO x
 | .binOp op t x y z=>VS op t x y z
 | .unOp op t x=>qF op t x
 | .convert a b x=>Z3 a b x
 | .makeInterface t x=>Yo t x
 | .makeFunc f a b=>Y8 f a b
 | .makeMap t r=>mI t r
 | .makeSlice t l c=>cD t l c
 | .slice t x lo hi mx=>XX t x lo hi mx
 | .fieldAddr t x k=>OG t x k
 | .field t x k=>Xq t x k
 | .indexAddr t x i=>OY t x i
 | .index t x i=>QA t x i
 | .lookup t x k ok=>Ur t x k ok
 | .mapUpdate t m k x=>Wj t m k x
 | .insert t m k x=>Wj t m k x
 | .mapEntry t m k=>VN t m k
 | .entryStore t m st x=>UA t m st x
 | .extract x k=>SB x k
 | .call cl=>aG cl
 | .panic x=>WX x
 | _=>qO
theorem Yb (P:Program) (G:AB) (fr:List AV) (s:AS) (o:Oper):V1 o.op P G fr s o=JF P G fr s o:=by
 unfold V1 JF
 cases o.op<;>try rfl
 all_goals simp only [P6,Ty,VS,OG,OY,QA,gN,aL,ZS]
 all_goals first
   | done
   | (rename_i a b c d e;cases Aw G fr c<;>cases Aw G fr d<;>rfl)
   | (rename_i a b c;cases Aw G fr b<;>cases Aw G fr c<;>rfl)
noncomputable def NN (ops:Array Oper) (fr:List AV) (g:Option (Nat×Bool)):Bool:=Option.rec (motive:=fun _=>Bool) true (fun p=>NF ops fr (some p)) g
theorem U6 (ops:Array Oper) (fr:List AV) (g:Option (Nat×Bool)):NN ops fr g=NF ops fr g:=by cases g<;>rfl
noncomputable def VL (r:Rec) (ops:Array Oper) (dst:Option Tmp) (l:List Oper) (fr:List AV):Option Rs→Option Rs
 | some (.call c s)=>(match c with
   | .ret v=>r (.ops ops l (c7 fr dst v) s)
   | .pan v=>some (.code (.pan v) fr s))
 | _=>none
noncomputable def Ko (P:Program) (G:AB) (r:Rec) (fr:List AV) (s:AS) (o:Oper) (b:Bool):Option Rs:=Bool.rec (motive:=fun _=>Option Rs) (some (.call (.ret (.sc undef)) s)) (rZ r s (V1 o.op P G fr s o)) b
noncomputable def M8 (P:Program) (G:AB) (r:Rec) (ops:Array Oper) (fr:List AV) (s:AS) (l:List Oper):Option Rs:=List.rec (motive:=fun _=>Option Rs) (some (.code .normal fr s)) (fun o l _=>VL r ops o.dst l fr (Ko P G r fr s o (NN ops fr o.guard))) l
abbrev Ss:=Program→AB→Rec→List AV→AS→Option Rs
def iE:Ss:=fun _ _ _ fr s=>some (.code .normal fr s)
def kV (id:Nat):Ss:=fun _ _ _ fr s=>some (.code (.exit id) fr s)
def rY:Ss:=fun _ _ _ fr s=>some (.code .ret fr s)
def qD (x y:Code):Ss:=fun _ _ r fr s=>Vb r y (r (.code x fr s))
def lV (q:Operand) (x y:Code):Ss:=fun _ G r fr s=>Um r x y fr s (Aw G fr q)
def Z8 (id:Nat) (c:Code):Ss:=fun _ _ r fr s=>Si id (r (.code c fr s))
def gD (c:Code):Ss:=fun _ _ r fr s=>Qh (r (.loop c fr s))
def Wl (_:Nat) (ops:Array Oper) (d:Bool):Ss:=fun P G r fr s=>Mh P G r ops fr s d
def vH:Ss:=fun _ _ _ _ _=>none
def Tw (c:Code):Ss:=match c with
 | .skip=>iE
 | .exit id=>kV id
 | .ret=>rY
 | .seq x y=>qD x y
 | .cond q x y=>lV q x y
 | .block id c=>Z8 id c
 | .loop c=>gD c
 | .region id ops d=>Wl id ops d
 | _=>vH
theorem Sl (P:Program) (G:AB) (r:Rec) (fr:List AV) (s:AS) (c:Code):Tw c P G r fr s=DW P G r fr s c:=by cases c<;>rfl
noncomputable def NQ (P:Program) (G:AB) (X:NE) (H:Hl) (r:Rec):Tk→Option Rs
 | .code c fr s=>Tw c P G r fr s
 | .loop c fr s=>Oq r c (r (.code c fr s))
 | .ops ops l fr s=>M8 P G r ops fr s l
 | .draw ops l fr s q=>Ke r ops fr s q l
 | .op ops o fr s=>Ko P G r fr s o (NN ops fr o.guard)
 | .call f args s=>ZD P H r f args s (X f args s)
noncomputable def s6 (P:Program) (G:AB) (X:NE) (H:Hl) (n:Nat):Rec:=Nat.rec (motive:=fun _=>Rec) (fun _=>none) (fun _ ih=>NQ P G X H ih) n
end AI
namespace AI
open Go Go.RowKit
section
variable {P:Program} {G:AB} {X:NE} {H:Hl} {r:Rec}
theorem eV (hr:∀ tk rs,r tk=some rs→Rt P G (XP X) H tk rs) {ops:Array Oper} {o:Oper} {fr:List AV} {s:AS} {rs:Rs} (h:Ko P G r fr s o (NN ops fr o.guard)=some rs):Rt P G (XP X) H (.op ops o fr s) rs:=by
 rw [U6,Uu] at h
 unfold Ko at h
 cases hw:AY ops fr o with
 | false=>rw [hw] at h;simp only at h;cases h;exact J.opSkip hw
 | true =>
   rw [hw] at h
   simp only at h
   rw [Yb,Fu] at h
   cases ha:Hr P G fr s o with
   | none=>rw [ha] at h;cases h
   | some a =>
     rw [ha] at h
     cases a with
     | val v s1=>simp only [rZ] at h;cases h;exact J.opVal hw ha
     | pan v=>simp only [rZ] at h;cases h;exact J.opPan hw ha
     | ent f args =>
       simp only [rZ] at h
       cases hc:r (.call f args s) with
       | none=>rw [hc] at h;cases h
       | some q =>
         rw [hc] at h
         cases q with
         | call c s1=>simp only [eC] at h;cases h;exact J.opCall hw ha (hr _ _ hc)
         | _=>cases h
theorem Xy (hr:∀ tk rs,r tk=some rs→Rt P G (XP X) H tk rs) (tk:Tk) (rs:Rs) (h:NQ P G X H r tk=some rs):Rt P G (XP X) H tk rs:=by
 cases tk with
 | code c fr s =>
   simp only [NQ,Sl] at h
   cases c with
   | skip=>simp only [DW] at h;cases h;exact J.skip
   | exit id=>simp only [DW] at h;cases h;exact J.exit
   | ret=>simp only [DW] at h;cases h;exact J.ret
   | seq x y =>
     simp only [DW] at h
     cases h1:r (.code x fr s) with
     | none=>rw [h1] at h;cases h
     | some q =>
       rw [h1] at h
       have i1:=hr _ _ h1
       cases q with
       | code e fr1 s1 =>
         cases e with
         | normal =>
           simp only [Vb] at h
           have i2:=hr _ _ h
           cases rs with
           | code e fr' s'=>exact J.seq i1 i2
           | call r s'=>exact i2.elim
           | tr t fr' s'=>exact i2.elim
         | exit id=>simp only [Vb] at h;cases h;exact J.seqX i1 (by simp)
         | ret=>simp only [Vb] at h;cases h;exact J.seqX i1 (by simp)
         | pan v=>simp only [Vb] at h;cases h;exact J.seqX i1 (by simp)
       | _=>cases h
   | cond q x y =>
     simp only [DW,A3] at h
     cases hq:AE G fr q with
     | none=>rw [hq] at h;cases h
     | some v =>
       rw [hq] at h
       cases v with
       | sc u =>
         cases u with
         | bool t =>
           cases t with
           | true =>
             simp only [Um] at h
             have i2:=hr _ _ h
             cases rs with
             | code e fr' s'=>exact J.cond hq i2
             | call r s'=>exact i2.elim
             | tr t fr' s'=>exact i2.elim
           | false =>
             simp only [Um] at h
             have i2:=hr _ _ h
             cases rs with
             | code e fr' s'=>exact J.cond hq i2
             | call r s'=>exact i2.elim
             | tr t fr' s'=>exact i2.elim
         | _=>cases h
       | _=>cases h
   | block id c =>
     simp only [DW] at h
     cases h1:r (.code c fr s) with
     | none=>rw [h1] at h;cases h
     | some q =>
       rw [h1] at h
       cases q with
       | code e fr1 s1=>simp only [Si] at h;cases h;exact J.block (hr _ _ h1)
       | _=>cases h
   | loop c =>
     simp only [DW] at h
     cases h1:r (.loop c fr s) with
     | none=>rw [h1] at h;cases h
     | some q =>
       rw [h1] at h
       cases q with
       | code e fr1 s1=>simp only [Qh] at h;cases h;exact J.loop (hr _ _ h1)
       | _=>cases h
   | region id ops d =>
     simp only [DW] at h
     cases d with
     | false =>
       simp only [Mh] at h
       cases h1:r (.ops ops ops.toList fr s) with
       | none=>rw [h1] at h;cases h
       | some q =>
         rw [h1] at h
         cases q with
         | code e fr1 s1 =>
           simp only [Qh] at h;cases h
           have:=hr _ _ h1 0 (by simp)
           refine J.region ?_
           rw [Array.length_toList] at this
           rw [List.range_eq_range']
           exact this
         | _=>cases h
     | true =>
       simp only [Mh] at h
       cases hord:F5 ops with
       | false=>rw [hord] at h;cases h
       | true =>
         rw [hord] at h
         simp only [dM] at h
         cases hrs:YP P ops.toList with
         | none=>rw [hrs] at h;cases h
         | some r0 =>
           rw [hrs] at h
           simp only [dY] at h
           cases h1:r (.draw ops ops.toList fr (s.hold r0) s.nx) with
           | none=>rw [h1] at h;cases h
           | some q =>
             rw [h1] at h
             cases q with
             | tr t fr1 s1 =>
               simp only [dU] at h
               cases hst:Nv P G ops t s1 s.nx r0 with
               | false=>rw [hst] at h;cases h
               | true=>rw [hst] at h;simp only at h;cases h;exact bK hord hrs (hr _ _ h1) hst
             | _=>cases h
   | _=>simp only [DW] at h;cases h
 | loop c fr s =>
   simp only [NQ] at h
   cases h1:r (.code c fr s) with
   | none=>rw [h1] at h;cases h
   | some q =>
     rw [h1] at h
     have i1:=hr _ _ h1
     cases q with
     | code e fr1 s1 =>
       cases e with
       | normal =>
         simp only [Oq] at h
         have i2:=hr _ _ h
         cases rs with
         | code e fr' s'=>exact J.loopN i1 i2
         | call r s'=>exact i2.elim
         | tr t fr' s'=>exact i2.elim
       | exit id=>simp only [Oq] at h;cases h;exact J.loopX i1 (by simp)
       | ret=>simp only [Oq] at h;cases h;exact J.loopX i1 (by simp)
       | pan v=>simp only [Oq] at h;cases h;exact J.loopX i1 (by simp)
     | _=>cases h
 | ops ops l fr s =>
   simp only [NQ] at h
   cases l with
   | nil=>simp only [M8] at h;cases h;intro k _;exact J.opsNil
   | cons o l =>
     simp only [M8] at h
     cases h1:Ko P G r fr s o (NN ops fr o.guard) with
     | none=>rw [h1] at h;cases h
     | some q =>
       rw [h1] at h
       have i1:=eV hr h1
       cases q with
       | call c s1 =>
         cases c with
         | ret v =>
           simp only [VL,XY] at h
           have i2:=hr _ _ h
           cases rs with
           | code e fr' s' =>
             intro k hk
             obtain ⟨hk1,hk2⟩:ops.toList[k]?=some o∧l=ops.toList.drop (k+1):=by
               constructor
               · have:=congrArg (fun x=>x[0]?) hk
                 simpa using this.symm
               · have:=congrArg List.tail hk
                 rw [List.tail_drop] at this
                 exact this
             rw [List.length_cons,List.range'_succ]
             exact J.opsCons (by rw [← Array.getElem?_toList];exact hk1) i1 (i2 (k+1) hk2)
           | call r s'=>exact i2.elim
           | tr t fr' s'=>exact i2.elim
         | pan v =>
           simp only [VL] at h
           cases h
           intro k hk
           have hk1:ops.toList[k]?=some o:=by
             have:=congrArg (fun x=>x[0]?) hk
             simpa using this.symm
           rw [List.length_cons,List.range'_succ]
           exact J.opsPan (by rw [← Array.getElem?_toList];exact hk1) i1
       | _=>cases h
 | draw ops l fr s q0 =>
   simp only [NQ] at h
   cases l with
   | nil=>simp only [Ke] at h;cases h;exact Ha.nil
   | cons o l =>
     simp only [Ke] at h
     cases ha:AN o.op with
     | true =>
       rw [ha] at h
       simp only [So,YD] at h
       cases h2:r (.draw ops l (DK fr o.dst (E5 ops fr o q0)) s (q0+1)) with
       | none=>rw [h2] at h;cases h
       | some q =>
         rw [h2] at h
         cases q with
         | tr t fr1 s2=>simp only [sK] at h;cases h;exact Ha.alloc ha (hr _ _ h2)
         | _=>cases h
     | false =>
       rw [ha] at h
       simp only [So] at h
       cases h1:r (.op ops o fr s) with
       | none=>rw [h1] at h;cases h
       | some q =>
         rw [h1] at h
         cases q with
         | call c s1 =>
           cases c with
           | ret v =>
             simp only [X1] at h
             cases h2:r (.draw ops l (DK fr o.dst v) s1 q0) with
             | none=>rw [h2] at h;cases h
             | some q =>
               rw [h2] at h
               cases q with
               | tr t fr1 s2=>simp only [sK] at h;cases h;exact Ha.cons ha (hr _ _ h1) (hr _ _ h2)
               | _=>cases h
           | pan v=>cases h
         | _=>cases h
 | op ops o fr s=>exact eV hr h
 | call f args s =>
   simp only [NQ] at h
   cases hx:X f args s with
   | some q=>rw [hx] at h;obtain ⟨c,s1⟩:=q;simp only [ZD] at h;cases h;exact J.ext hx
   | none =>
     rw [hx] at h
     simp only [ZD] at h
     cases hh:H f args with
     | some q =>
       obtain ⟨g,gargs,k⟩:=q
       rw [hh] at h
       simp only [VG] at h
       cases h1:r (.call g gargs s) with
       | none=>rw [h1] at h;cases h
       | some q =>
         rw [h1] at h
         cases q with
         | call c s1 =>
           simp only [fC] at h
           cases hk:k c with
           | none=>rw [hk] at h;cases h
           | some c1=>rw [hk] at h;simp only at h;cases h;exact J.hook hh (hr _ _ h1) hk
         | _=>cases h
     | none =>
       rw [hh] at h
       simp only [VG] at h
       cases hf:P.funcs[f]? with
       | none=>rw [hf] at h;cases h
       | some fn =>
         rw [hf] at h
         simp only [YV] at h
         cases hb:fn.body with
         | none=>rw [hb] at h;cases h
         | some c =>
           rw [hb] at h
           simp only [fE] at h
           cases h1:r (.code c (args++List.replicate (fn.ntmps - args.length) (.sc undef)) s) with
           | none=>rw [h1] at h;cases h
           | some q =>
             rw [h1] at h
             have i1:=hr _ _ h1
             cases q with
             | code e fr1 s1 =>
               cases e with
               | normal =>
                 simp only [Qy] at h
                 cases ha:Cm P s1 fn fr1 with
                 | none=>rw [ha] at h;cases h
                 | some v=>rw [ha] at h;simp only [cR] at h;cases h;exact J.body hf hb i1 (.inl rfl) ha (Yc _ _ _)
               | ret =>
                 simp only [Qy] at h
                 cases ha:Cm P s1 fn fr1 with
                 | none=>rw [ha] at h;cases h
                 | some v=>rw [ha] at h;simp only [cR] at h;cases h;exact J.body hf hb i1 (.inr rfl) ha (Yc _ _ _)
               | pan v=>simp only [Qy] at h;cases h;exact J.bodyP hf hb i1
               | exit id=>simp only [Qy] at h;cases h
             | _=>cases h
theorem fZ (n:Nat) (tk:Tk) (rs:Rs) (h:s6 P G X H n tk=some rs):Rt P G (XP X) H tk rs:=by
 induction n generalizing tk rs with
 | zero=>cases h
 | succ n ih=>exact Xy ih tk rs h
end
mutual
def plain:AV→Bool
 | .sc _=>true
 | .agg cs=>AL cs
 | .Bc cs=>AL cs
 | .sl o _ cs=>(match o with | .row _ _=>false | _=>true)&&AL cs
 | .ifc _ v=>plain v
 | .el cs=>AL cs
 | .fn _ a b=>AL a&&AL b
 | .any=>true
 | _=>false
def AL:List AV→Bool
 | []=>true
 | a::l=>plain a&&AL l
end
mutual
def G6:AV→AV
 | .agg cs=>.agg (Ka cs)
 | .Bc cs=>.Bc (Ka cs)
 | .sl o n cs=>.sl (match o with | .row _ _=>.lost | o=>o) n (Ka cs)
 | .ifc t v=>.ifc t (G6 v)
 | .el cs=>.el (Ka cs)
 | a=>a
def Ka:List AV→List AV
 | []=>[]
 | a::l=>G6 a::Ka l
end
mutual
def Ja:AV→Bool
 | .sc _=>true
 | .agg cs=>DU cs
 | .Bc cs=>DU cs
 | .sl _ _ cs=>DU cs
 | .ifc _ v=>Ja v
 | .el cs=>DU cs
 | .any=>true
 | _=>false
def DU:List AV→Bool
 | []=>true
 | a::l=>Ja a&&DU l
end
section
variable {c c':Cx} {w w':World}
mutual
theorem Rp.plain (hv:∀ g i v,EM c w g i v→EM c' w' g i v):∀ {a:AV} {v:Value},AI.plain a=true→Rp c w a v→Rp c' w' a v:=by
 intro a v hp h
 cases h with
 | sc h1=>exact .sc h1
 | agg h1=>exact .agg (A6.plain hv hp h1)
 | Bc h1=>exact .Bc (A6.plain hv hp h1)
 | @sl0 own A cap h1 =>
   simp only [AI.plain,Bool.and_eq_true] at hp
   cases own with
   | full=>exact .sl0 h1
   | nil=>exact .sl0 h1
   | nn=>exact .sl0 h1
   | lost=>exact .sl0 h1
   | row r sz=>cases hp.1
 | @sl1 own n cap g o cs hn h1 ho =>
   simp only [AI.plain,Bool.and_eq_true] at hp
   refine .sl1 hn (AA.plain hv hp.2 h1) ?_
   cases own with
   | full=>exact ho
   | nil=>exact ho
   | nn=>exact ho
   | lost=>trivial
   | row r sz=>cases hp.1
 | msl hn h1=>cases hp
 | el h1=>exact .el (AA.plain hv hp h1)
 | ptr h1=>cases hp
 | fn h1 h2 =>
   simp only [AI.plain,Bool.and_eq_true] at hp
   exact .fn (A6.plain hv hp.1 h1) (A6.plain hv hp.2 h2)
 | ifc h1=>exact .ifc (Rp.plain hv hp h1)
 | mp h1=>cases hp
 | any h1=>exact .any h1
 | raw=>first | (cases hp;done) | exact .raw
theorem A6.plain (hv:∀ g i v,EM c w g i v→EM c' w' g i v):∀ {a:List AV} {v:List Value},AI.AL a=true→A6 c w a v→A6 c' w' a v:=by
 intro a v hp h
 cases h with
 | nil=>exact .nil
 | cons h1 t =>
   simp only [AI.AL,Bool.and_eq_true] at hp
   exact .cons (Rp.plain hv hp.1 h1) (A6.plain hv hp.2 t)
theorem AA.plain (hv:∀ g i v,EM c w g i v→EM c' w' g i v):∀ {a:List AV} {g o:Nat},AI.AL a=true→AA c w g o a→AA c' w' g o a:=by
 intro a g o hp h
 cases h with
 | nil=>exact .nil
 | cons hvv h1 t =>
   simp only [AI.AL,Bool.and_eq_true] at hp
   exact .cons (hv _ _ _ hvv) (Rp.plain hv hp.1 h1) (AA.plain hv hp.2 t)
end
mutual
theorem Rp.G6 (hv:∀ g i v,EM c w g i v→EM c' w' g i v):∀ {a:AV} {v:Value},Ja a=true→Rp c w a v→Rp c' w' (AI.G6 a) v:=by
 intro a v hp h
 cases h with
 | sc h1=>exact .sc h1
 | agg h1=>exact .agg (A6.G6 hv hp h1)
 | Bc h1=>exact .Bc (A6.G6 hv hp h1)
 | @sl0 own A cap h1 =>
   cases own with
   | full=>exact .sl0 h1
   | nil=>exact .sl0 h1
   | nn=>exact .sl0 h1
   | lost=>exact .sl0 h1
   | row r sz=>exact .sl0 trivial
 | @sl1 own n cap g o cs hn h1 ho =>
   have h2:=AA.G6 hv hp h1
   refine .sl1 hn h2 ?_
   cases own with
   | full=>exact ho
   | nil=>exact ho
   | nn=>exact ho
   | lost=>trivial
   | row r sz=>trivial
 | msl hn h1=>cases hp
 | el h1=>exact .el (AA.G6 hv hp h1)
 | ptr h1=>cases hp
 | fn h1 h2=>cases hp
 | ifc h1=>exact .ifc (Rp.G6 hv hp h1)
 | mp h1=>cases hp
 | any h1=>exact .any h1
 | raw=>first | (cases hp;done) | exact .raw
theorem A6.G6 (hv:∀ g i v,EM c w g i v→EM c' w' g i v):∀ {a:List AV} {v:List Value},DU a=true→A6 c w a v→A6 c' w' (AI.Ka a) v:=by
 intro a v hp h
 cases h with
 | nil=>exact .nil
 | cons h1 t =>
   simp only [AI.DU,Bool.and_eq_true] at hp
   exact .cons (Rp.G6 hv hp.1 h1) (A6.G6 hv hp.2 t)
theorem AA.G6 (hv:∀ g i v,EM c w g i v→EM c' w' g i v):∀ {a:List AV} {g o:Nat},DU a=true→AA c w g o a→AA c' w' g o (AI.Ka a):=by
 intro a g o hp h
 cases h with
 | nil=>exact .nil
 | cons hvv h1 t =>
   simp only [AI.DU,Bool.and_eq_true] at hp
   exact .cons (hv _ _ _ hvv) (Rp.G6 hv hp.1 h1) (AA.G6 hv hp.2 t)
end
end
def s0:AS:=⟨[],0,[],0⟩
theorem Ri {P:Program} {G:AB} (hG:∀ g cs,G g=some cs→AL cs=true) {f:FuncId} {args:List AV} {v:AV} {s1:AS} (h:Sound P G (.call f args s0 (.ret v) s1)) (hp:AL args=true) (hb:Ja v=true) (s:AS):Sound P G (.call f args s (.ret (G6 v)) s):=by
 intro cx w vs hs hargs
 have hvis:∀ g i x,EM cx w g i x→EM ⟨w.heap.size,[],[],cx.LA⟩ w g i x:=by
   intro g i x hx
   refine ⟨hx.1,fun hsh=>?_,hx.2.2⟩
   rcases hsh with hsh | ⟨r,n,cap,sz,hr,_⟩ | hsh
   · cases hsh
   · simp at hr
   · exact hx.2.1 hsh
 have hst:St G ⟨w.heap.size,[],[],cx.LA⟩ w s0 :=
   ⟨rfl,trivial,(fun i j g h1=>by simp at h1),(fun g hg=>by cases hg),(fun id g b h1=>by simp at h1),rfl,(fun r g n cap sz hr=>by simp at hr),(fun r n hr=>by cases hr),(fun g hg=>by cases hg),(fun g i hb=>hs.Ib hb),(fun r r' g n cap sz n' cap' sz' hr=>by simp at hr),(fun g cs hg=>AA.plain hvis (hG g cs hg) (hs.glob g cs hg)),Nat.le_refl _⟩
 refine (h _ w vs hst (A6.plain hvis hp hargs)).mono ?_
 rintro e w' ⟨c',hx,_,u,rfl,hu⟩
 have hbel:=hx.below
 obtain ⟨x2,st2⟩:=hs.same (w':=w') ⟨hbel.os,hbel.tape,hbel.output,hbel.size,fun k hk _=>hbel.block k hk⟩
 refine ⟨cx,x2,st2,u,rfl,Rp.G6 (fun g i x hv=>⟨hv.1,fun hsh=>hv.2.1 (.inr (.inr ?_)),hv.2.2⟩) hb hu⟩
 rw [hx.bad]
 exact hsh
theorem Ru {P:Program} {G:AB} (hG:∀ g cs,G g=some cs→AL cs=true) {f:FuncId} {args cs cs':List AV} {v:AV} {s1:AS} (h:Sound P G (.call f (.ptr 0 0::args) ⟨[(0,.cells cs)],1,[],0⟩ (.ret v) s1)) (hs1:s1.get 0=some (.cells cs')) (hp:AL args=true) (hcs:AL cs=true) (hb:Ja v=true) (hb':DU cs'=true) (s:AS) (id:Nat) (hid:s.get id=some (.cells cs)) :
   Sound P G (.call f (.ptr id 0::args) s (.ret (G6 v)) (s.put id (.cells (Ka cs')))):=by
 intro cx w vs hs hargs
 cases hargs with
 | @cons _ pv _ avs hptr hrest =>
   cases hptr with
   | @ptr _ _ g hphi =>
     have hgm:some g∈cx.Bf:=List.mem_of_getElem? hphi
     have hvis:∀ k i x,EM cx w k i x→EM ⟨0,[some g],[],fun k i=>k≠g∧cx.LA k i⟩ w k i x:=by
       intro k i x hx
       refine ⟨hx.1,fun hsh=>?_,hx.2.2⟩
       rcases hsh with hsh | ⟨r,n,cap,sz,hr,_⟩ | hsh
       · have:k=g:=by simpa using hsh
         subst this
         exact hx.2.1 (.inl hgm)
       · simp at hr
       · exact hx.2.1 hsh.2
     obtain ⟨us,ext,T,hw,hur⟩:=Fp hs hphi hid
     have hst:St G ⟨0,[some g],[],fun k i=>k≠g∧cx.LA k i⟩ w ⟨[(0,.cells cs)],1,[],0⟩:=by
       refine ⟨rfl,⟨by simp,trivial⟩,(fun i j g' h1 h2=>by have e1:=(List.getElem?_eq_some_iff.1 h1).1;have e2:=(List.getElem?_eq_some_iff.1 h2).1;simp at e1 e2;omega),(fun g hg=>Nat.zero_le _),(fun id' g' b h1 h2=>?_),rfl,(fun r g n cap sz hr=>by simp at hr),(fun r n hr=>by cases hr),(fun g' hg=>?_),(fun k i hb=>hs.Ib hb.2),(fun r r' g n cap sz n' cap' sz' hr=>by simp at hr),(fun g cs hg=>AA.plain hvis (hG g cs hg) (hs.glob g cs hg)),Nat.zero_le _⟩
       · simp only [AS.get,look] at h2
         split at h2
         · rename_i hb'
           cases h2
           have:=(beq_true hb').symm
           subst this
           simp at h1
           subst h1
           exact ⟨_,hw,.cellsX ext (A6.plain hvis hcs hur)⟩
         · cases h2
       · have:g'=g:=by simpa using hg
         subst this
         exact hs.Fe hgm
     refine (h _ w _ hst (.cons (.ptr rfl) (A6.plain hvis hp hrest))).mono ?_
     rintro e w' ⟨c',hx,hst',u,rfl,hu⟩
     have hphi':c'.Bf[0]?=some (some g):=hx.get (c:=⟨0,[some g],[],fun k i=>k≠g∧cx.LA k i⟩) rfl
     obtain ⟨us',ext',T',hw',hur'⟩:=Fp hst' hphi' hs1
     have hvis':∀ k i x,EM c' w' k i x→EM cx w' k i x:=by
       intro k i x hv
       refine ⟨hv.1,fun hsh=>?_,hv.2.2⟩
       by_cases hk:k=g
       · subst hk;exact hv.2.1 (.inl (List.mem_of_getElem? hphi'))
       · refine hv.2.1 (.inr (.inr ?_))
         rw [hx.bad]
         exact ⟨hk,hsh⟩
     have hbel:=hx.below
     have hchg:KL w w' (fun x=>x=g):=⟨hbel.os,hbel.tape,hbel.output,hbel.size,fun k hk hne=>hx.CY k hk (by simpa using hne) (fun r n cap sz=>by simp)⟩
     obtain ⟨x2,st2⟩:=hs.tY hphi hchg hw' (B1.cellsX ext' (A6.G6 hvis' hb' hur'))
     exact ⟨cx,x2,st2,u,rfl,Rp.G6 hvis' hb hu⟩
end AI
namespace AI
open Go Go.RowKit
mutual
def under (n m:Nat):AV→Bool
 | .sc _=>true
 | .agg cs=>B3 n m cs
 | .Bc cs=>B3 n m cs
 | .sl o _ cs=>(match o with | .row r _=>decide (r < m) | _=>true)&&B3 n m cs
 | .msl id _ _=>decide (id < n)
 | .el cs=>B3 n m cs
 | .ptr id _=>decide (id < n)
 | .fn _ a b=>B3 n m a&&B3 n m b
 | .ifc _ v=>under n m v
 | .mp id=>decide (id < n)
 | .any=>true
 | .raw _ _ _=>true
def B3 (n m:Nat):List AV→Bool
 | []=>true
 | a::l=>under n m a&&B3 n m l
end
mutual
theorem GO (n m:Nat):∀ {a:AV},plain a=true→under n m a=true
 | .sc _,_=>rfl
 | .agg cs,h=>by simp only [plain] at h;simp only [under];exact BU n m h
 | .Bc cs,h=>by simp only [plain] at h;simp only [under];exact BU n m h
 | .sl o k cs,h=>by
   simp only [plain,Bool.and_eq_true] at h
   simp only [under,Bool.and_eq_true]
   refine ⟨?_,BU n m h.2⟩
   cases o with
   | row r sz=>cases h.1
   | _=>rfl
 | .msl _ _ _,h=>by cases h
 | .el cs,h=>by simp only [plain] at h;simp only [under];exact BU n m h
 | .ptr _ _,h=>by cases h
 | .fn _ a b,h=>by
   simp only [plain,Bool.and_eq_true] at h
   simp only [under,Bool.and_eq_true]
   exact ⟨BU n m h.1,BU n m h.2⟩
 | .ifc _ v,h=>by simp only [plain] at h;simp only [under];exact GO n m h
 | .mp _,h=>by cases h
 | .any,_=>rfl
 | .raw _ _ _,_=>rfl
theorem BU (n m:Nat):∀ {l:List AV},AL l=true→B3 n m l=true
 | [],_=>rfl
 | a::l,h=>by
   simp only [AL,Bool.and_eq_true] at h
   simp only [B3,Bool.and_eq_true]
   exact ⟨GO n m h.1,BU n m h.2⟩
end
def Cx.upto (c:Cx) (n m:Nat):Cx:=⟨c.base,c.Bf.take n,c.rows.take m,c.bad⟩
theorem B4 {α:Type} {l:List α} {n i:Nat} {x:α} (h:(l.take n)[i]?=some x):l[i]?=some x∧i < n:=by
 rw [List.getElem?_take] at h
 split at h
 · rename_i hi;exact ⟨h,hi⟩
 · cases h
theorem H9 {α:Type} {l:List α} {n i:Nat} {x:α} (h:l[i]?=some x) (hi:i < n):(l.take n)[i]?=some x:=by
 rw [List.getElem?_take,if_pos hi];exact h
section
variable {c:Cx} {w:World} {n m:Nat}
theorem Xu {g i:Nat} (h:(c.upto n m).LA g i):c.LA g i:=by
 rcases h with h | ⟨r,n,cap,sz,hr,h⟩ | h
 · exact .inl (List.mem_of_mem_take h)
 · exact .inr (.inl ⟨r,n,cap,sz,(B4 hr).1,h⟩)
 · exact .inr (.inr h)
theorem J5 {g i:Nat} {v:Value} (h:EM c w g i v):EM (c.upto n m) w g i v:=⟨h.1,fun hs=>h.2.1 (Xu hs),h.2.2⟩
mutual
theorem Rp.upto:∀ {a:AV} {v:Value},under n m a=true→Rp c w a v→Rp (c.upto n m) w a v:=by
 intro a v hp h
 cases h with
 | sc h1=>exact .sc h1
 | agg h1=>exact .agg (A6.upto hp h1)
 | Bc h1=>exact .Bc (A6.upto hp h1)
 | @sl0 own A cap h1 =>
   simp only [AI.under,Bool.and_eq_true] at hp
   cases own with
   | full=>exact .sl0 h1
   | nil=>exact .sl0 h1
   | nn=>exact .sl0 h1
   | lost=>exact .sl0 trivial
   | row r sz =>
     have hr:r < m:=of_decide_eq_true hp.1
     refine .sl0 ⟨h1.1,?_⟩
     have:=h1.2
     simp only [Cx.upto,List.length_take]
     omega
 | @sl1 own k cap g o cs hn h1 ho =>
   simp only [AI.under,Bool.and_eq_true] at hp
   refine .sl1 hn (AA.upto hp.2 h1) ?_
   cases own with
   | full=>exact ho
   | nil=>exact ho
   | nn=>exact ho
   | lost=>trivial
   | row r sz =>
     have hr:r < m:=of_decide_eq_true hp.1
     refine ⟨ho.1,ho.2.1,?_,fun e=>ho.2.2.2.1 (B4 e).1,fun g' n' c' s' e=>ho.2.2.2.2 g' n' c' s' (B4 e).1⟩
     have:=ho.2.2.1
     simp only [Cx.upto,List.length_take]
     omega
 | msl hn h1=>exact .msl hn (H9 h1 (of_decide_eq_true hp))
 | el h1=>exact .el (AA.upto hp h1)
 | ptr h1=>exact .ptr (H9 h1 (of_decide_eq_true hp))
 | fn h1 h2 =>
   simp only [AI.under,Bool.and_eq_true] at hp
   exact .fn (A6.upto hp.1 h1) (A6.upto hp.2 h2)
 | ifc h1=>exact .ifc (Rp.upto hp h1)
 | mp h1=>exact .mp (H9 h1 (of_decide_eq_true hp))
 | any h1=>exact .any h1
 | raw=>exact .raw
theorem A6.upto:∀ {a:List AV} {v:List Value},B3 n m a=true→A6 c w a v→A6 (c.upto n m) w a v:=by
 intro a v hp h
 cases h with
 | nil=>exact .nil
 | cons h1 t =>
   simp only [AI.B3,Bool.and_eq_true] at hp
   exact .cons (Rp.upto hp.1 h1) (A6.upto hp.2 t)
theorem AA.upto:∀ {a:List AV} {g o:Nat},B3 n m a=true→AA c w g o a→AA (c.upto n m) w g o a:=by
 intro a g o hp h
 cases h with
 | nil=>exact .nil
 | cons hvv h1 t =>
   simp only [AI.B3,Bool.and_eq_true] at hp
   exact .cons (J5 hvv) (Rp.upto hp.1 h1) (AA.upto hp.2 t)
end
end
def KP:AV→Bool
 | .sc v=>Md v
 | _=>true
theorem J0 {c:Cx} {w:World} {a:AV} {v:Value} (h:Rp c w a v) (hd:KP a=true):Md v=true:=by
 cases h<;>first | rfl | exact hd | assumption | (cases hd;done)
def RV:AV→AV
 | .sl _ n cs=>.sl .lost n cs
 | a=>a
inductive Fg (n m:Nat):List AV→List AV→Prop where
 | nil:Fg n m [] []
 | CY {a:AV} {l k:List AV} (h:under n m a=true) (t:Fg n m l k):Fg n m (a::l) (a::k)
 | drop {a:AV} {l k:List AV} (h:KP a=true) (t:Fg n m l k):Fg n m (a::l) (.any::k)
 | lost {o:Own} {j:Nat} {cs l k:List AV} (h:B3 n m cs=true) (t:Fg n m l k):Fg n m (.sl o j cs::l) (.sl .lost j cs::k)
theorem Fg.ok {n m:Nat} {l k:List AV} (h:Fg n m l k) {c:Cx} {w:World} {vs:List Value} (hr:A6 c w l vs):A6 (c.upto n m) w k vs:=by
 induction h generalizing vs with
 | nil=>cases hr;exact .nil
 | CY h _ ih=>cases hr with | cons h1 t=>exact .cons (h1.upto h) (ih t)
 | drop h _ ih=>cases hr with | cons h1 t=>exact .cons (.any (J0 h1 h)) (ih t)
 | @lost o j cs l k h _ ih =>
   cases hr with
   | cons h1 t =>
     refine .cons ?_ (ih t)
     cases h1 with
     | sl0 _=>exact .sl0 trivial
     | sl1 hn hc ho=>exact .sl1 hn (hc.upto h) trivial
def Ks (n m:Nat):List (Value×AV×Nat)→Bool
 | []=>true
 | e::l=>under n m e.2.1&&Ks n m l
def PF (n m:Nat):Ap→Bool
 | .cells cs=>B3 n m cs
 | .map es _=>Ks n m es
theorem EE.upto {c:Cx} {w:World} {n m:Nat}:∀ {es:List (Value×AV×Nat)} {fs:List MapEntry},Ks n m es=true→EE c w es fs→EE (c.upto n m) w es fs:=by
 intro es
 induction es with
 | nil=>intro fs _ h;cases h;exact .nil
 | cons e es ih =>
   intro fs hu h
   obtain ⟨x,a,b⟩:=e
   simp only [Ks,Bool.and_eq_true] at hu
   cases h with | cons h1 t=>exact .cons (h1.upto hu.1) (ih hu.2 t)
theorem B1.upto {c:Cx} {w:World} {n m:Nat} {b:Ap} {o:Obj} (hb:PF n m b=true) (h:B1 c w b o):B1 (c.upto n m) w b o:=by
 cases h with
 | cellsX ext h1=>exact .cellsX ext (h1.upto hb)
 | map h1=>exact .map (h1.upto hb)
def Fits (n m:Nat) (a b:AV):Prop:=∀ (c:Cx) (w:World) (v:Value),Rp c w a v→Rp (c.upto n m) w b v
def Eh (n m:Nat) (a b:List AV):Prop:=∀ (c:Cx) (w:World) (v:List Value),A6 c w a v→A6 (c.upto n m) w b v
def Jy (n m:Nat) (a b:List AV):Prop:=∀ (c:Cx) (w:World) (g o:Nat),AA c w g o a→AA (c.upto n m) w g o b
def Hm (n m:Nat) (a b:Ap):Prop:=∀ (c:Cx) (w:World) (o:Obj),B1 c w a o→B1 (c.upto n m) w b o
theorem Fits.under {n m:Nat} {a:AV} (h:AI.under n m a=true):Fits n m a a:=fun _ _ _ hr=>hr.upto h
theorem Eh.under {n m:Nat} {a:List AV} (h:AI.B3 n m a=true):Eh n m a a:=fun _ _ _ hr=>hr.upto h
theorem Jy.under {n m:Nat} {a:List AV} (h:AI.B3 n m a=true):Jy n m a a:=fun _ _ _ _ hr=>hr.upto h
theorem Hm.under {n m:Nat} {b:Ap} (h:PF n m b=true):Hm n m b b:=fun _ _ _ hr=>hr.upto h
theorem Fits.plain {n m:Nat} {a:AV} (h:AI.plain a=true):Fits n m a a:=.under (GO n m h)
theorem Eh.plain {n m:Nat} {a:List AV} (h:AL a=true):Eh n m a a:=.under (BU n m h)
theorem Jy.plain {n m:Nat} {a:List AV} (h:AL a=true):Jy n m a a:=.under (BU n m h)
theorem Fits.sc {n m:Nat} {v:Value}:Fits n m (.sc v) (.sc v):=.under rfl
theorem Fits.drop {n m:Nat} {a:AV} (h:KP a=true):Fits n m a .any:=fun _ _ _ hr=>.any (J0 hr h)
theorem Fits.agg {n m:Nat} {a b:List AV} (h:Eh n m a b):Fits n m (.agg a) (.agg b):=fun _ _ _ hr=>by cases hr with | agg h1=>exact .agg (h _ _ _ h1)
theorem Fits.Bc {n m:Nat} {a b:List AV} (h:Eh n m a b):Fits n m (.Bc a) (.Bc b):=fun _ _ _ hr=>by cases hr with | Bc h1=>exact .Bc (h _ _ _ h1)
theorem Fits.lost {n m:Nat} {o:Own} {k:Nat} {a b:List AV} (h:Jy n m a b) (e:a=[]→b=[]):Fits n m (.sl o k a) (.sl .lost k b):=fun _ _ _ hr=>by
 cases hr with
 | sl0 _=>rw [e rfl];exact .sl0 trivial
 | sl1 hn hc ho=>exact .sl1 hn (h _ _ _ _ hc) trivial
theorem Eh.nil {n m:Nat}:Eh n m [] []:=fun _ _ _ hr=>by cases hr;exact .nil
theorem Eh.cons {n m:Nat} {a b:AV} {l k:List AV} (h:Fits n m a b) (t:Eh n m l k):Eh n m (a::l) (b::k):=fun _ _ _ hr=>by cases hr with | cons h1 t1=>exact .cons (h _ _ _ h1) (t _ _ _ t1)
theorem Jy.nil {n m:Nat}:Jy n m [] []:=fun _ _ _ _ hr=>by cases hr;exact .nil
theorem Jy.cons {n m:Nat} {a b:AV} {l k:List AV} (h:Fits n m a b) (t:Jy n m l k):Jy n m (a::l) (b::k):=fun _ _ _ _ hr=>by cases hr with | cons hv h1 t1=>exact .cons (J5 hv) (h _ _ _ h1) (t _ _ _ _ t1)
theorem Hm.cells {n m:Nat} {a b:List AV} (h:Eh n m a b):Hm n m (.cells a) (.cells b):=fun _ _ _ hr=>by cases hr with | cellsX ext h1=>exact .cellsX ext (h _ _ _ h1)
theorem cE {G:AB} (hG:∀ g cs,G g=some cs→AL cs=true) {s s' s2:AS} {fr' fr2:List AV} (hn:s2.nx=s.nx) (hr:s2.nr=s.nr)
   (hd:DY s2.h s2.nx) (hbox:∀ id b,look id s2.h=some b→∃ b',look id s'.h=some b'∧Hm s.nx s.nr b' b) (hF:∀ r n,BJ r s2.F=some n→BJ r s'.F=some n∧r < s.nr)
   (hf:Eh s.nx s.nr fr' fr2) (cx:Cx) (w:World) (c':Cx) (w':World) (vs:List Value) (hx:Ext cx w c' w') (hs:St G cx w s) (hs':St G c' w' s') (hfr:A6 c' w' fr' vs) :
   ∃ c2,Ext cx w c2 w'∧St G c2 w' s2∧A6 c2 w' fr2 vs:=by
 have hphi:c'.Bf.take s.nx=cx.Bf:=by
   obtain ⟨t,ht⟩:=hx.Bf
   rw [← ht,hs.len,List.take_left]
 have hrl:(c'.rows.take s.nr).length=cx.rows.length:=by
   have:=hx.rlen
   rw [List.length_take,hs.rlen];omega
 refine ⟨c'.upto s.nx s.nr,⟨?_,?_,fun r x hr' h=>?_,fun g i v hv=>J5 (hx.vis g i v hv),hx.below,hx.base,hx.bad,fun g hg=>hx.pnew g (List.mem_of_mem_take hg),fun r g n cap sz h=>hx.rnew r g n cap sz (B4 h).1,hx.CY⟩,?_,hf _ _ _ hfr⟩
 · show cx.Bf <+: c'.Bf.take s.nx
   rw [hphi]
   exact List.prefix_refl _
 · show cx.rows.length≤(c'.rows.take s.nr).length
   omega
 · exact hx.rows r x hr' (B4 h).1
 · refine ⟨?_,hd,fun i j g h1 h2=>hs'.nodup i j g (B4 h1).1 (B4 h2).1,fun g hg=>hs'.low g (List.mem_of_mem_take hg),fun id g b h1 h2=>?_,?_,fun r g n cap sz h=>?_,fun r n h=>?_,fun g hg=>hs'.plow g (List.mem_of_mem_take hg),hs'.blow,fun r r' g n cap sz n' cap' sz' h h'=>hs'.rdist r r' g n cap sz n' cap' sz' (B4 h).1 (B4 h').1,fun g cs hg=>(hs'.glob g cs hg).upto (BU _ _ (hG g cs hg)),hs'.bsz⟩
   · show s2.nx=(c'.Bf.take s.nx).length
     rw [hphi,hn,hs.len]
   · obtain ⟨b',h3,h4⟩:=hbox id b h2
     obtain ⟨o,ho,hb⟩:=hs'.box id g b' (B4 h1).1 h3
     exact ⟨o,ho,h4 _ _ _ hb⟩
   · show s2.nr=(c'.rows.take s.nr).length
     rw [hrl,hr,hs.rlen]
   · obtain ⟨a1,a2,a3,a4⟩:=hs'.row r g n cap sz (B4 h).1
     exact ⟨a1,a2,fun hm=>a3 (List.mem_of_mem_take hm),a4⟩
   · obtain ⟨h1,h2⟩:=hF r n h
     rcases hs'.rfree r n h1 with ⟨h3,h4⟩ | ⟨g,cap,sz,h3⟩
     · exact .inl ⟨H9 h3 h2,h4⟩
     · exact .inr ⟨g,cap,sz,H9 h3 h2⟩
end AI
