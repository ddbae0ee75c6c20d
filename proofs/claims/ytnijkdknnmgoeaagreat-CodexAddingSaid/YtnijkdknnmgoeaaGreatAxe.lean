/- Part of a proof: see the last text. -/
import Derived.Test.YtnijkdknnmgoeaaGreatAxd
import Derived.LoopN
set_option linter.unusedVariables false
set_option linter.unusedSimpArgs false
namespace AI
open Go Go.RowKit
inductive AX where
 | normal
 | exit (id:Nat)
 | ret
 | pan (v:AV)
inductive CR where
 | ret (v:AV)
 | pan (v:AV)
def Bt (ops:Array Oper) (fr:List AV) (o:Oper):Bool:=match o.guard with
 | none=>true
 | some (j,want)=>match (ops[j]?).bind (·.dst) with
   | some d=>match fr[d]? with
     | some (.sc (.bool b))=>b == want
     | _=>false
   | none=>false
def DR (id:Nat):AX→AX
 | .exit id'=>if id'=id then .normal else .exit id'
 | e=>e
def KV (P:Program) (s:AS) (fr:List AV):ResultVar→Option AV
 | .tmp t=>some (fr.getD t (.sc undef))
 | .cell t ty=>E7 P s ty (fr.getD t (.sc undef))
def Ie (P:Program) (s:AS) (fr:List AV):List ResultVar→Option (List AV)
 | []=>some []
 | r::rs=>match KV P s fr r,Ie P s fr rs with
   | some a,some as=>some (a::as)
   | _,_=>none
def D4 (P:Program) (s:AS) (fn:Func) (fr:List AV):Option AV:=match Ie P s fr fn.results.toList with
 | some [a]=>some a
 | some as=>some (.Bh as)
 | none=>none
inductive Jd where
 | code (c:Code) (fr:List AV) (s:AS) (e:AX) (fr':List AV) (s':AS)
 | loop (c:Code) (fr:List AV) (s:AS) (e:AX) (fr':List AV) (s':AS)
 | ops (ops:Array Oper) (l:List Nat) (fr:List AV) (s:AS) (e:AX) (fr':List AV) (s':AS)
 | op (ops:Array Oper) (o:Oper) (fr:List AV) (s:AS) (r:CR) (s':AS)
 | call (f:FuncId) (args:List AV) (s:AS) (r:CR) (s':AS)
def BI (ops:Array Oper) (i:Nat):Option Tmp:=(ops[i]?).bind (·.dst)
def LG (ops:Array Oper) (i:Nat):Prop:=∃ o,ops[i]?=some o∧calm o.op=false
def kG (ops:Array Oper) (i k:Nat):Prop:=(∀ l,LG ops l→Lf (E5 ops.toList []) i l=true→l < k)∧(∀ l,LG ops l→Lf (E5 ops.toList []) l i=true→k≤l)
abbrev Ki:=FuncId→List AV→AS→CR→AS→Prop
abbrev Ii:=FuncId→List AV→Option (FuncId×List AV×(CR→Option CR))
def l5 (P:Program) (G:AY) (t tx:TypeId) (a b:AV) (s:AS) (v:AV) (s':AS):Prop:=∀ (c:Cx) (w:World) (va vb:Value) (ty:TypeId),St G c w s→Rp c w a va→Rp c w b vb →
 ∃ u w' c',(Builtin.append_ #[t,tx] ty #[va,vb]).run P w=.ok u w'∧Ext c w c' w'∧St G c' w' s'∧Rp c' w' v u
inductive J (P:Program) (G:AY) (X:Ki) (H:Ii):Jd→Prop where
 | skip {fr:List AV} {s:AS}:J P G X H (.code .skip fr s .normal fr s)
 | exit {id:Nat} {fr:List AV} {s:AS}:J P G X H (.code (.exit id) fr s (.exit id) fr s)
 | ret {fr:List AV} {s:AS}:J P G X H (.code .ret fr s .ret fr s)
 | seq {x y:Code} {fr fr1 fr':List AV} {s s1 s':AS} {e:AX} (h1:J P G X H (.code x fr s .normal fr1 s1)) (h2:J P G X H (.code y fr1 s1 e fr' s')):J P G X H (.code (.seq x y) fr s e fr' s')
 | seqX {x y:Code} {fr fr':List AV} {s s':AS} {e:AX} (h1:J P G X H (.code x fr s e fr' s')) (he:e≠.normal):J P G X H (.code (.seq x y) fr s e fr' s')
 | cond {q:Operand} {x y:Code} {t:Bool} {fr fr':List AV} {s s':AS} {e:AX} (hq:A4 G fr q=some (.sc (.bool t))) (h:J P G X H (.code (if t then x else y) fr s e fr' s')):J P G X H (.code (.cond q x y) fr s e fr' s')
 | block {id:Nat} {c:Code} {fr fr':List AV} {s s':AS} {e:AX} (h:J P G X H (.code c fr s e fr' s')):J P G X H (.code (.block id c) fr s (DR id e) fr' s')
 | loop {c:Code} {fr fr':List AV} {s s':AS} {e:AX} (h:J P G X H (.loop c fr s e fr' s')):J P G X H (.code (.loop c) fr s e fr' s')
 | loopN {c:Code} {fr fr1 fr':List AV} {s s1 s':AS} {e:AX} (h1:J P G X H (.code c fr s .normal fr1 s1)) (h2:J P G X H (.loop c fr1 s1 e fr' s')):J P G X H (.loop c fr s e fr' s')
 | loopX {c:Code} {fr fr':List AV} {s s':AS} {e:AX} (h1:J P G X H (.code c fr s e fr' s')) (he:e≠.normal):J P G X H (.loop c fr s e fr' s')
 | region {id:Nat} {ops:Array Oper} {fr fr':List AV} {s s':AS} {e:AX} (h:J P G X H (.ops ops (List.range ops.size) fr s e fr' s')):J P G X H (.code (.region id ops false) fr s e fr' s')
 | opsNil {ops:Array Oper} {fr:List AV} {s:AS}:J P G X H (.ops ops [] fr s .normal fr s)
 | opsCons {ops:Array Oper} {i:Nat} {l:List Nat} {o:Oper} {v:AV} {fr fr':List AV} {s s1 s':AS} {e:AX} (ho:ops[i]?=some o) (h:J P G X H (.op ops o fr s (.ret v) s1)) (t:J P G X H (.ops ops l (GD fr o.dst v) s1 e fr' s')):J P G X H (.ops ops (i::l) fr s e fr' s')
 | opsPan {ops:Array Oper} {i:Nat} {l:List Nat} {o:Oper} {v:AV} {fr:List AV} {s s1:AS} (ho:ops[i]?=some o) (h:J P G X H (.op ops o fr s (.pan v) s1)):J P G X H (.ops ops (i::l) fr s (.pan v) fr s1)
 | opVal {ops:Array Oper} {o:Oper} {fr:List AV} {s s':AS} {v:AV} (hw:Bt ops fr o=true) (h:Ir P G fr s o=some (.val v s')):J P G X H (.op ops o fr s (.ret v) s')
 | opWeak {ops:Array Oper} {o:Oper} {fr:List AV} {s s':AS} {v v2:AV} (hq:quiet o.op=false) (h:J P G X H (.op ops o fr s (.ret v) s')) (hv:∀ cx w u,Rp cx w v u→Rp cx w v2 u):J P G X H (.op ops o fr s (.ret v2) s')
 | opApp {ops:Array Oper} {o:Oper} {fr:List AV} {s s':AS} {cl:Call} {x y:Operand} {t tx:TypeId} {a b v:AV} (hw:Bt ops fr o=true) (ho:o.op=.call cl) (hcl:cl.callee=.builtin .append) (hx:cl.args.toList=[x,y]) (ht:cl.argTypes.toList=[t,tx]) (ha:A4 G fr x=some a) (hb:A4 G fr y=some b) (h:l5 P G t tx a b s v s'):J P G X H (.op ops o fr s (.ret v) s')
 | opSkip {ops:Array Oper} {o:Oper} {fr:List AV} {s:AS} (hw:Bt ops fr o=false):J P G X H (.op ops o fr s (.ret (.sc undef)) s)
 | opCall {ops:Array Oper} {o:Oper} {fr:List AV} {s s':AS} {f:FuncId} {args:List AV} {r:CR} (hw:Bt ops fr o=true) (h:Ir P G fr s o=some (.ent f args)) (hc:J P G X H (.call f args s r s')):J P G X H (.op ops o fr s r s')
 | opPan {ops:Array Oper} {o:Oper} {fr:List AV} {s:AS} {v:AV} (hw:Bt ops fr o=true) (h:Ir P G fr s o=some (.pan v)):J P G X H (.op ops o fr s (.pan v) s)
 | draw {id:Nat} {ops:Array Oper} {f0:List AV} {s0:AS} (rs:List AT) (vals:Nat→AV) (sts:Nat→AS) (h0:sts 0=s0.hold rs) (hord:GM ops=true)
     (hl:∀ i o,ops[i]?=some o→calm o.op=false→J P G X H (.op ops o (Ff f0 (BI ops) vals (fun _=>true) i) (sts i) (.ret (vals i)) (sts (i+1))))
     (hq:∀ i o,ops[i]?=some o→quiet o.op=true→sts (i+1)=sts i∧((Bt ops (Ff f0 (BI ops) vals (fun _=>true) i) o=false∧vals i=.sc undef)∨(Bt ops (Ff f0 (BI ops) vals (fun _=>true) i) o=true∧∀ k,k≤ops.size→kG ops i k→Ir P G (Ff f0 (BI ops) vals (fun _=>true) i) (sts k) o=some (.val (vals i) (sts k)))))
     (ha:∀ i o e,ops[i]?=some o→o.op=.alloc e→sts (i+1)=sts i∧((Bt ops (Ff f0 (BI ops) vals (fun _=>true) i) o=false∧vals i=.sc undef)∨(Bt ops (Ff f0 (BI ops) vals (fun _=>true) i) o=true∧∃ z,Ev P e=some z∧rk ops i < rs.length∧vals i=.ptr (s0.nx+rk ops i) 0∧∀ k,k≤ops.size→kG ops i k→(sts k).get (s0.nx+rk ops i)=some (.cells (cellsOf z))))) :
     J P G X H (.code (.region id ops true) f0 s0 .normal (Ff f0 (BI ops) vals (fun _=>true) ops.size) (sts ops.size))
 | body {f:FuncId} {fn:Func} {c:Code} {args fr':List AV} {s s' s2:AS} {e:AX} {v:AV} (hf:P.funcs[f]?=some fn) (hb:fn.body=some c) (h:J P G X H (.code c (args++List.replicate (fn.ntmps - args.length) (.sc undef)) s e fr' s')) (he:e=.normal∨e=.ret) (hr:D4 P s' fn fr'=some v) (hk:s2=s'.cut s.nx∨s2=s'):J P G X H (.call f args s (.ret v) s2)
 | bodyP {f:FuncId} {fn:Func} {c:Code} {args fr':List AV} {s s':AS} {v:AV} (hf:P.funcs[f]?=some fn) (hb:fn.body=some c) (h:J P G X H (.code c (args++List.replicate (fn.ntmps - args.length) (.sc undef)) s (.pan v) fr' s')):J P G X H (.call f args s (.pan v) (s'.cut s.nx))
 | ext {f:FuncId} {args:List AV} {s s':AS} {r:CR} (h:X f args s r s'):J P G X H (.call f args s r s')
 | weak {c:Code} {fr fr2 fr':List AV} {s s2 s':AS} {e:AX} (hw:∀ cx w vs,St G cx w s→BS cx w fr vs→∃ cx2,Ext cx w cx2 w∧St G cx2 w s2∧BS cx2 w fr2 vs) (h:J P G X H (.code c fr2 s2 e fr' s')):J P G X H (.code c fr s e fr' s')
 | weakL {c:Code} {fr fr2 fr':List AV} {s s2 s':AS} {e:AX} (hw:∀ cx w vs,St G cx w s→BS cx w fr vs→∃ cx2,Ext cx w cx2 w∧St G cx2 w s2∧BS cx2 w fr2 vs) (h:J P G X H (.loop c fr2 s2 e fr' s')):J P G X H (.loop c fr s e fr' s')
 | scope {c:Code} {fr fr2 fr':List AV} {s s2 s':AS} {e:AX} (h:J P G X H (.code c fr s e fr' s')) (he:∀ v,e≠.pan v) (hs:∀ cx w c' w' vs,Ext cx w c' w'→St G cx w s→St G c' w' s'→BS c' w' fr' vs→∃ c2,Ext cx w c2 w'∧St G c2 w' s2∧BS c2 w' fr2 vs):J P G X H (.code c fr s e fr2 s2)
 | hook {f g:FuncId} {args gargs:List AV} {k:CR→Option CR} {s s':AS} {r r':CR} (hh:H f args=some (g,gargs,k)) (h:J P G X H (.call g gargs s r s')) (hk:k r=some r'):J P G X H (.call f args s r' s')
def qX (G:AY) (c:Cx) (w:World) (r:CR) (s':AS) (e:Ending) (w':World):Prop :=
 ∃ c',Ext c w c' w'∧St G c' w' s'∧match r with
   | .ret v=>∃ u,e=.returned u∧Rp c' w' v u
   | .pan v=>∃ u,e=.panicked [{ v:=u,recovered:=false }]∧Rp c' w' v u
def K1 (G:AY) (c:Cx) (w:World) (e:AX) (fr':List AV) (s':AS) (e':Exit) (a':Act) (w':World):Prop :=
 ∃ c',Ext c w c' w'∧St G c' w' s'∧a'.defers=[]∧match e with
   | .normal=>e'=.normal∧BS c' w' fr' a'.tmps.toList
   | .exit id=>e'=.exit id∧BS c' w' fr' a'.tmps.toList
   | .ret=>e'=.ret∧BS c' w' fr' a'.tmps.toList
   | .pan v=>∃ u,e'=.panic [{ v:=u,recovered:=false }]∧Rp c' w' v u
theorem K1.ext {G:AY} {c c1:Cx} {w w1:World} {e:AX} {fr':List AV} {s':AS} {e':Exit} {a':Act} {w':World} (x:Ext c w c1 w1) (h:K1 G c1 w1 e fr' s' e' a' w'):K1 G c w e fr' s' e' a' w':=by
 obtain ⟨c',h1,h2⟩:=h
 exact ⟨c',x.trans h1,h2⟩
def Jp (P:Program) (ops:Array Oper) (o:Oper) (K:Act→World→Prop) (Q:Exit→Act→World→Prop) (a:Act) (w:World):Prop :=
 if Region.wanted o (yielded ops a.tmps) then o.wp P a w K Q else K (a.put o.dst undef) w
def Sound (P:Program) (G:AY):Jd→Prop
 | .code c fr s e fr' s'=>∀ (cx:Cx) (w:World) (a:Act) (Q:Exit→Act→World→Prop),St G cx w s→BS cx w fr a.tmps.toList→a.defers=[]→(∀ e' a' w',K1 G cx w e fr' s' e' a' w'→Q e' a' w')→c.wp P Q a w
 | .loop c fr s e fr' s'=>∃ n,∀ (cx:Cx) (w:World) (a:Act) (Q:Exit→Act→World→Prop),St G cx w s→BS cx w fr a.tmps.toList→a.defers=[]→(∀ e' a' w',K1 G cx w e fr' s' e' a' w'→Q e' a' w')→Code.rounds P c Q n a w
 | .ops ops l fr s e fr' s'=>∀ (cx:Cx) (w:World) (a:Act) (Q:Exit→Act→World→Prop),St G cx w s→BS cx w fr a.tmps.toList→a.defers=[]→(∀ e' a' w',K1 G cx w e fr' s' e' a' w'→Q e' a' w')→wpOps P ops Q l a w
 | .op ops o fr s r s'=>∀ (cx:Cx) (w:World) (a:Act) (K:Act→World→Prop) (Q:Exit→Act→World→Prop),St G cx w s→(∀ x∈o.op.operands,PJ G cx w fr a.eval x)→Bt ops fr o=Region.wanted o (yielded ops a.tmps) →
     (match r with
       | .ret v=>∀ u w' c',Ext cx w c' w'→St G c' w' s'→Rp c' w' v u→K (a.put o.dst u) w'
       | .pan v=>∀ u w' c',Ext cx w c' w'→St G c' w' s'→Rp c' w' v u→Q (.panic [{ v:=u,recovered:=false }]) a w')→Jp P ops o K Q a w
 | .call f args s r s'=>∀ (cx:Cx) (w:World) (vs:List Value),St G cx w s→BS cx w args vs→Calls P f vs.toArray w (qX G cx w r s')
theorem Km {ops:Array Oper} {fr:List AV} {o:Oper} {c:Cx} {w:World} {tmps:Array Value} (h:∀ j want,o.guard=some (j,want)→∀ d,(ops[j]?).bind (·.dst)=some d→∃ M,BS c w M tmps.toList∧M[d]?=fr[d]?):Bt ops fr o=Region.wanted o (yielded ops tmps):=by
 unfold Bt Region.wanted
 cases hg:o.guard with
 | none=>rfl
 | some p =>
   obtain ⟨j,want⟩:=p
   simp only
   unfold yielded
   cases hd:(ops[j]?).bind (·.dst) with
   | none=>simp
   | some d =>
     obtain ⟨M,hM,he⟩:=h j want hg d hd
     simp only [Option.bind_some]
     rw [← he]
     cases hm:M[d]? with
     | none =>
       have hl:=hM.len
       have h1:=List.getElem?_eq_none_iff.1 hm
       have h2:tmps[d]?=none:=Array.getElem?_eq_none (by rw [← Array.length_toList];omega)
       simp [h2]
     | some b =>
       obtain ⟨u,hu,hr⟩:=hM.get hm
       rw [Array.getElem?_toList] at hu
       rw [hu]
       cases hr with
       | sc hs=>cases u<;>simp
       | any hs=>cases u<;>first | (simp [Mn] at hs;done) | simp
       | _=>simp
def X6 (tmps:Array Value):ResultVar→Sem Value
 | .tmp t=>pure (tmps.getD t undef)
 | .cell a t=>do loadVar t (← asAddr (tmps.getD a undef))
theorem Sx (fn:Func) (tmps:Array Value):results fn tmps=(do
 let vs ← fn.results.mapM (X6 tmps)
 pure (if h:vs.size=1 then vs[0] else .tuple vs)):=by
 unfold results
 congr 2
theorem Q0 {P:Program} {G:AY} {c:Cx} {w:World} {s:AS} {fr:List AV} {tmps:Array Value} (hs:St G c w s) (hf:BS c w fr tmps.toList) {r:ResultVar} {v:AV} (h:KV P s fr r=some v) :
   ∃ u,(X6 tmps r).run P w=.ok u w∧Rp c w v u:=by
 have ht:∀ t,Rp c w (fr.getD t (.sc undef)) (tmps.getD t undef):=fun t=>Hu (G:=G) (s:=s) (a:=⟨tmps,[]⟩) (x:=.tmp t) hs hf rfl
 cases r with
 | tmp t=>simp only [KV,Option.some.injEq] at h;subst h;exact ⟨_,rfl,ht t⟩
 | cell t ty =>
   obtain ⟨u,h1,h2⟩:=QZ hs h (ht t)
   refine ⟨u,?_,h2⟩
   have hr:=ht t
   simp only [Instr.loadAt,Sem.run_bind] at h1
   simp only [X6,Sem.run_bind]
   generalize tmps.getD t undef=x at hr h1
   simp only [KV] at h
   unfold E7 at h
   split at h
   · rename_i heq;rw [heq] at hr;cases hr;simpa [asAddr,Instr.sureAddr] using h1
   · rename_i heq;rw [heq] at hr;cases hr;simpa [asAddr,Instr.sureAddr] using h1
   · cases h
theorem P8 {P:Program} {G:AY} {c:Cx} {w:World} {s:AS} {fr:List AV} {tmps:Array Value} (hs:St G c w s) (hf:BS c w fr tmps.toList) (rs:List ResultVar) {vs:List AV} (h:Ie P s fr rs=some vs) :
   ∃ us,(rs.mapM (X6 tmps)).run P w=.ok us w∧BS c w vs us:=by
 induction rs generalizing vs with
 | nil=>simp [Ie] at h;subst h;exact ⟨[],rfl,.nil⟩
 | cons r rs ih =>
   simp only [Ie] at h
   split at h
   · rename_i a as h1 h2
     cases h
     obtain ⟨u,hu,hr⟩:=Q0 hs hf h1
     obtain ⟨us,hus,hrs⟩:=ih h2
     refine ⟨u::us,?_,.cons hr hrs⟩
     rw [List.mapM_cons]
     simp only [Sem.run_bind,hu,Result.andThen_ok,hus,Sem.run_pure]
   · cases h
theorem LK {P:Program} {G:AY} {c:Cx} {w:World} {s:AS} {fr:List AV} {tmps:Array Value} {fn:Func} {v:AV} (hs:St G c w s) (hf:BS c w fr tmps.toList) (h:D4 P s fn fr=some v):∃ u,(results fn tmps).run P w=.ok u w∧Rp c w v u:=by
 unfold D4 at h
 cases hl:Ie P s fr fn.results.toList with
 | none=>rw [hl] at h;cases h
 | some as =>
   rw [hl] at h
   obtain ⟨us,hus,hrs⟩:=P8 hs hf _ hl
   have hlen:=hrs.len
   have hrun:(results fn tmps).run P w=.ok (if h:us.toArray.size=1 then us.toArray[0] else .tuple us.toArray) w:=by
     rw [Sx,Array.mapM_eq_mapM_toList]
     simp only [Sem.run_bind,Sem.run_map,hus,Result.andThen_ok,Sem.run_pure]
   rw [hrun]
   split at h
   · rename_i a heq
     cases heq;cases h
     cases hrs with
     | cons h1 t=>cases t;exact ⟨_,rfl,h1⟩
   · rename_i as' hne heq
     cases heq;cases h
     have:¬ us.toArray.size=1:=by
       intro h1
       simp at h1
       obtain ⟨a,ha⟩:=List.length_eq_one_iff.1 (hlen.symm.trans h1)
       exact hne a ha
     rw [dif_neg this]
     exact ⟨_,rfl,.Bh hrs⟩
   · rename_i heq;cases heq
end AI
namespace AI
open Go Go.RowKit
def Mg (L:Nat→Bool):Nat→Nat
 | 0=>0
 | n+1=>Mg L n+if L n then 0 else 1
theorem Xo {L:Nat→Bool}:∀ (n:Nat),Mg L n=0→∀ i,i < n→L i=true:=by
 intro n
 induction n with
 | zero=>intro _ i hi;omega
 | succ n ih =>
   intro h i hi
   simp only [Mg] at h
   by_cases hn:i=n
   · subst hn
     by_cases hL:L i=true
     · exact hL
     · simp [hL] at h
   · exact ih (by omega) i (by omega)
theorem Zt {L M:Nat→Bool} {i:Nat} (h0:L i=false) (h1:M i=true) (hne:∀ j,j≠i→M j=L j):∀ (n:Nat),(i < n→Mg L n=Mg M n+1)∧(n≤i→Mg L n=Mg M n):=by
 intro n
 induction n with
 | zero=>exact ⟨fun h=>by omega,fun _=>rfl⟩
 | succ n ih =>
   refine ⟨fun h=>?_,fun h=>?_⟩
   · simp only [Mg]
     by_cases hn:n=i
     · subst hn
       rw [ih.2 (Nat.le_refl _),h0,h1];simp
     · rw [ih.1 (by omega),hne n hn];omega
   · simp only [Mg]
     rw [ih.2 (by omega),hne n (by omega)]
theorem M5 {ops:Array Oper} {sts:Nat→AS} (hq:∀ i o,ops[i]?=some o→calm o.op=true→sts (i+1)=sts i) {x:Nat}:∀ (y:Nat),x≤y→y≤ops.size→(∀ m,x≤m→m < y→¬ LG ops m)→sts x=sts y:=by
 intro y
 induction y with
 | zero=>intro h _ _;have:x=0:=by omega
         subst this;rfl
 | succ y ih =>
   intro h hn hl
   by_cases e:x=y+1
   · subst e;rfl
   · rw [ih (by omega) (by omega) (fun m h1 h2=>hl m h1 (by omega))]
     have ho:ops[y]?=some (ops[y]'(by omega)):=Array.getElem?_eq_getElem (by omega)
     have hy:=hl y (by omega) (by omega)
     refine (hq y _ ho ?_).symm
     cases hqq:calm (ops[y]'(by omega)).op with
     | true=>rfl
     | false=>exact absurd ⟨_,ho,hqq⟩ hy
theorem mem_ready {ops:Array Oper} {L:Array Bool} (hsz:L.size=ops.size) {i:Nat} (h:i∈Region.ready .any ops L):∃ o,ops[i]?=some o∧L.getD i false=false∧Ze (fun j=>L.getD j false) o∧i < ops.size:=by
 unfold Region.ready at h
 rw [List.mem_filter,List.mem_range,Bool.and_eq_true] at h
 obtain ⟨h1,h2,h3⟩:=h
 have ho:ops[i]?=some (ops[i]'h1):=Array.getElem?_eq_getElem h1
 refine ⟨_,ho,?_,fun e he hb=>?_,h1⟩
 · have:i < L.size:=by omega
   simpa [this] using h2
 · rw [ho] at h3
   simp only [Option.map_some,Option.getD_some] at h3
   rw [Array.all_eq_true_iff_forall_mem] at h3
   have:=h3 e he
   rw [hb] at this
   simpa using this
theorem Xq {ops:Array Oper} {L:Array Bool} (hsz:L.size=ops.size) {i:Nat} {o:Oper} (ho:ops[i]?=some o) (hL:L.getD i false=false) (hm:Ze (fun j=>L.getD j false) o):i∈Region.ready .any ops L:=by
 have h1:=(Array.getElem?_eq_some_iff.1 ho).1
 unfold Region.ready
 rw [List.mem_filter,List.mem_range,Bool.and_eq_true]
 refine ⟨h1,?_,?_⟩
 · have:i < L.size:=by omega
   simpa [this] using hL
 · rw [ho]
   simp only [Option.map_some,Option.getD_some]
   rw [Array.all_eq_true_iff_forall_mem]
   intro e he
   by_cases hb:Region.binds .any e=true
   · have:=hm e he hb
     rw [hb]
     simpa using this
   · simp [hb]
section
variable {P:Program} {G:AY} {ops:Array Oper} {f0:List AV} {vals:Nat→AV} {sts:Nat→AS}
structure Inv (G:AY) (ops:Array Oper) (f0:List AV) (vals:Nat→AV) (sts:Nat→AS) (cx0:Cx) (w0:World) (nh:Nat) (L:Array Bool) (a:Act) (w:World):Prop where
 size:L.size=ops.size
 closed:Iv ops.toList (fun j=>L.getD j false)
 st:∃ c k,k≤ops.size∧(∀ l,LG ops l→(L.getD l false=true↔l < k))∧Ext cx0 w0 c w∧St G c w (sts k)∧BS c w (Ff f0 (BI ops) vals (fun j=>L.getD j false) ops.size) a.tmps.toList ∧
   ∀ j y,ops[j]?=some y→Bb y.op=true→L.getD j false=false→rk ops j < nh→c.BK[cx0.BK.length+rk ops j]?=some none
 defers:a.defers=[]
theorem looks {x y:Oper} {t:Nat} (hx:x.dst=some t) (hy:t∈y.looksAt ops):Ib ops x y=true:=by
 simp [Ib,hx,hy]
theorem gE {x y:Oper} {t:Nat} (hx:t∈x.looksAt ops) (hy:y.dst=some t):Ib ops x y=true:=by
 simp [Ib,hx,hy]
theorem nR {x y:Oper} {t:Nat} (hx:x.dst=some t) (hy:y.dst=some t):Ib ops x y=true:=by
 simp [Ib,hx,hy]
theorem S4 {x y:Oper} (hx:calm x.op=false) (hy:calm y.op=false):Ib ops x y=true:=by
 simp [Ib,hx,hy]
theorem Bd {i:Nat} {o:Oper} (h:ops[i]?=some o):ops.toList[i]?=some o:=by rw [Array.getElem?_toList];exact h
theorem LH {L:Nat→Bool} (hord:GM ops=true) (hc:Iv ops.toList L) {i j:Nat} {x y:Oper} (hx:ops[i]?=some x) (hy:ops[j]?=some y) (hm:Ze L y) (hlt:i < j) (hcl:Ib ops x y=true):L i=true :=
 Pg hc (Bd hy) hm (OF hord hx hy hlt hcl)
theorem IQ {L:Nat→Bool} (hord:GM ops=true) (hc:Iv ops.toList L) {i j:Nat} {x y:Oper} (hx:ops[i]?=some x) (hy:ops[j]?=some y) (hL:L i=false) (hlt:i < j) (hcl:Ib ops x y=true):L j=false:=by
 cases h:L j with
 | false=>rfl
 | true =>
   have:=Pg hc (Bd hy) (hc j y (Bd hy) h) (OF hord hx hy hlt hcl)
   rw [hL] at this;cases this
theorem SH {i t:Nat} (h:BI ops i=some t):∃ o,ops[i]?=some o∧o.dst=some t:=by
 unfold BI at h
 cases ho:ops[i]? with
 | none=>rw [ho] at h;cases h
 | some o=>rw [ho] at h;exact ⟨o,rfl,by simpa using h⟩
theorem OH {L:Nat→Bool} (hord:GM ops=true) (hc:Iv ops.toList L) {i:Nat} {o:Oper} (ho:ops[i]?=some o) (hL:L i=false) (hm:Ze L o) {t:Nat} (ht:t∈o.looksAt ops) :
   (Ff f0 (BI ops) vals L ops.size)[t]?=(Ff f0 (BI ops) vals (fun _=>true) i)[t]?:=by
 have hi:=(Array.getElem?_eq_some_iff.1 ho).1
 rw [TI (j:=i) ops.size (by omega)]
 · refine M0 i (fun j hj hd=>?_)
   obtain ⟨x,hx,hxd⟩:=SH hd
   exact LH hord hc hx ho hm hj (looks hxd ht)
 · intro j hj _ hd
   by_cases e:j=i
   · subst e;exact hL
   · obtain ⟨y,hy,hyd⟩:=SH hd
     exact IQ hord hc ho hy hL (by omega) (gE ht hyd)
theorem Zb {L M:Nat→Bool} (hord:GM ops=true) (hc:Iv ops.toList L) {i:Nat} {o:Oper} (ho:ops[i]?=some o) (hL:L i=false) (hM:M i=true) (hne:∀ j,j≠i→M j=L j) :
   Ff f0 (BI ops) vals M ops.size=GD (Ff f0 (BI ops) vals L ops.size) o.dst (vals i):=by
 have hi:=(Array.getElem?_eq_some_iff.1 ho).1
 have hdi:BI ops i=o.dst:=by unfold BI;rw [ho];rfl
 apply List.ext_getElem?
 intro t
 by_cases hd:o.dst=some t
 · rw [TI (j:=i+1) ops.size (by omega)]
   · simp only [Ff,hM,if_true,hdi,hd]
     rw [HP,HP,MA,MA]
   · intro j hj _ hdj
     obtain ⟨y,hy,hyd⟩:=SH hdj
     rw [hne j (by omega)]
     exact IQ hord hc ho hy hL (by omega) (nR hd hyd)
 · rw [I0 hd]
   refine M0 ops.size (fun j _ hdj=>hne j (fun e=>hd ?_))
   rw [← hdi,← e];exact hdj
theorem Ext.gW {c:Cx} {w:World} {c':Cx} {w':World} (h:Ext c w c' w') {id:Nat} {y:Option Nat} (e:c.BK[id]?=some y):c'.BK[id]?=some y:=by
 obtain ⟨t,ht⟩:=h.BK
 rw [← ht,List.getElem?_append_left (List.getElem?_eq_some_iff.1 e).1]
 exact e
theorem Vf {nh:Nat} (hord:GM ops=true)
   (hl:∀ i o,ops[i]?=some o→calm o.op=false→Sound P G (.op ops o (Ff f0 (BI ops) vals (fun _=>true) i) (sts i) (.ret (vals i)) (sts (i+1))))
   (hq:∀ i o,ops[i]?=some o→quiet o.op=true→sts (i+1)=sts i∧((Bt ops (Ff f0 (BI ops) vals (fun _=>true) i) o=false∧vals i=.sc undef)∨(Bt ops (Ff f0 (BI ops) vals (fun _=>true) i) o=true∧∀ k,k≤ops.size→kG ops i k→Ir P G (Ff f0 (BI ops) vals (fun _=>true) i) (sts k) o=some (.val (vals i) (sts k)))))
   (cx0:Cx) (w0:World)
   (ha:∀ i o e,ops[i]?=some o→o.op=.alloc e→sts (i+1)=sts i∧((Bt ops (Ff f0 (BI ops) vals (fun _=>true) i) o=false∧vals i=.sc undef)∨(Bt ops (Ff f0 (BI ops) vals (fun _=>true) i) o=true∧∃ z,Ev P e=some z∧rk ops i < nh∧vals i=.ptr (cx0.BK.length+rk ops i) 0∧∀ k,k≤ops.size→kG ops i k→(sts k).get (cx0.BK.length+rk ops i)=some (.cells (cellsOf z)))))
   (Q:Exit→Act→World→Prop) (hQ:∀ e' a' w',K1 G cx0 w0 .normal (Ff f0 (BI ops) vals (fun _=>true) ops.size) (sts ops.size) e' a' w'→Q e' a' w') :
   ∀ (fuel:Nat) (L:Array Bool) (a:Act) (w:World),Inv G ops f0 vals sts cx0 w0 nh L a w→Mg (fun j=>L.getD j false) ops.size=fuel→wpAny P .any ops Q fuel L a w:=by
 have hqs:∀ i o,ops[i]?=some o→calm o.op=true→sts (i+1)=sts i:=fun i o h1 h2=>by
   rcases Kg h2 with h2 | ⟨e,h2⟩
   · exact (hq i o h1 h2).1
   · exact (ha i o e h1 h2).1
 have fin:∀ (L:Array Bool) (a:Act) (w:World),Inv G ops f0 vals sts cx0 w0 nh L a w→(∀ i,i < ops.size→L.getD i false=true)→Q .normal a w:=by
   intro L a w hI hall
   obtain ⟨c,k,hk,hlk,hx,hst,hfr,_⟩:=hI.st
   have hsts:sts k=sts ops.size:=M5 hqs ops.size hk (Nat.le_refl _) (fun m h1 h2 hm=>by have:=(hlk m hm).1 (hall m h2);omega)
   rw [hsts] at hst
   refine hQ _ _ _ ⟨c,hx,hst,hI.defers,rfl,?_⟩
   have:Ff f0 (BI ops) vals (fun j=>L.getD j false) ops.size=Ff f0 (BI ops) vals (fun _=>true) ops.size:=by
     apply List.ext_getElem?
     intro t
     exact M0 ops.size (fun i hi _=>hall i hi)
   rw [← this];exact hfr
 intro fuel
 induction fuel with
 | zero =>
   intro L a w hI hc
   have hall:=Xo ops.size hc
   refine ⟨?_,fin L a w hI hall⟩
   apply List.eq_nil_iff_forall_not_mem.2
   intro i hi
   obtain ⟨o,ho,h1,_,hlt⟩:=mem_ready hI.size hi
   have:=hall i hlt
   rw [h1] at this;cases this
 | succ fuel ih =>
   intro L a w hI hcnt
   refine ⟨fun hnil=>fin L a w hI (fun i=>?_),fun i hi=>?_⟩
   · induction i using Nat.strongRecOn with
     | _ i ihi =>
       intro hlt
       cases hLi:L.getD i false with
       | true=>rfl
       | false =>
         exfalso
         have ho:ops[i]?=some (ops[i]'hlt):=Array.getElem?_eq_getElem hlt
         have:=Xq hI.size ho hLi (fun e he hb=>by
           have h1:=Vp hord ho he hb
           exact ihi e.on h1 (by omega))
         rw [hnil] at this;cases this
   · obtain ⟨o,ho,hLi,hmet,hlt⟩:=mem_ready hI.size hi
     obtain ⟨c,k,hk,hlk,hx,hst,hfr,hholes⟩:=hI.st
     have hMi:(L.setIfInBounds i true).getD i false=true:=by
       have:i < L.size:=by rw [hI.size];exact hlt
       simp [this]
     have hMn:∀ j,j≠i→(L.setIfInBounds i true).getD j false=L.getD j false:=by
       intro j hj
       simp only [Array.getD_eq_getD_getElem?]
       rw [Array.getElem?_setIfInBounds_ne (fun e=>hj e.symm)]
     have hle:∀ j,L.getD j false=true→(L.setIfInBounds i true).getD j false=true:=by
       intro j hj
       by_cases e:j=i
       · subst e;exact hMi
       · rw [hMn j e];exact hj
     have hclosed':Iv ops.toList (fun j=>(L.setIfInBounds i true).getD j false):=by
       intro j y hy hj e he hb
       by_cases ej:j=i
       · subst ej
         rw [Bd ho] at hy;cases hy
         exact hle _ (hmet e he hb)
       · have hj2:L.getD j false=true:=by rw [← hMn j ej];exact hj
         exact hle _ (hI.closed j y hy hj2 e he hb)
     have hcnt':Mg (fun j=>(L.setIfInBounds i true).getD j false) ops.size=fuel:=by
       have:=(Zt (L:=fun j=>L.getD j false) (M:=fun j=>(L.setIfInBounds i true).getD j false) hLi hMi hMn ops.size).1 hlt
       omega
     have hput:=Zb (f0:=f0) (vals:=vals) (L:=fun j=>L.getD j false) (M:=fun j=>(L.setIfInBounds i true).getD j false) hord hI.closed ho hLi hMi hMn
     have stepM:∀ (k':Nat) (u:Value) (w':World) (c':Cx),k'≤ops.size→(∀ l,LG ops l→((L.setIfInBounds i true).getD l false=true↔l < k'))→Ext cx0 w0 c' w'→Mon c w c' w' →
         (∀ j y,ops[j]?=some y→Bb y.op=true→(L.setIfInBounds i true).getD j false=false→rk ops j < nh→c'.BK[cx0.BK.length+rk ops j]?=some none)→St G c' w' (sts k')→Rp c' w' (vals i) u→wpAny P .any ops Q fuel (L.setIfInBounds i true) (a.put o.dst u) w':=by
       intro k' u w' c' hk' hlk' hx' hm' hh' hst' hu
       refine ih _ _ _ ⟨by simp [hI.size],hclosed',⟨c',k',hk',hlk',hx',hst',?_,hh'⟩,by cases o.dst<;>exact hI.defers⟩ hcnt'
       rw [hput]
       exact SY (hfr.Dy hm') hu
     have step:∀ (k':Nat) (u:Value) (w':World) (c':Cx),k'≤ops.size→(∀ l,LG ops l→((L.setIfInBounds i true).getD l false=true↔l < k'))→Ext c w c' w'→St G c' w' (sts k')→Rp c' w' (vals i) u→wpAny P .any ops Q fuel (L.setIfInBounds i true) (a.put o.dst u) w':=by
       intro k' u w' c' hk' hlk' hx' hst' hu
       refine stepM k' u w' c' hk' hlk' (hx.trans hx') hx'.dT (fun j y hy hya hj hjn=>?_) hst' hu
       have hji:j≠i:=fun e=>by subst e;rw [hMi] at hj;cases hj
       rw [hMn j hji] at hj
       exact hx'.gW (hholes j y hy hya hj hjn)
     have hsees:∀ x∈o.op.operands,PJ G c w (Ff f0 (BI ops) vals (fun _=>true) i) a.eval x:=by
       intro x hxo v hv
       cases x with
       | tmp t =>
         have hlook:t∈o.looksAt ops:=by
           unfold Oper.looksAt
           rw [List.mem_append]
           left
           rw [List.mem_filterMap]
           exact ⟨.tmp t,Array.mem_toList_iff.2 hxo,rfl⟩
         have he:=OH (f0:=f0) (vals:=vals) hord hI.closed ho hLi hmet hlook
         have:A4 G (Ff f0 (BI ops) vals (fun j=>L.getD j false) ops.size) (.tmp t)=some v:=by
           rw [← hv]
           simp only [A4,List.getD_eq_getElem?_getD,he]
         exact Hu hst hfr this
       | const z=>exact Hu (fr:=Ff f0 (BI ops) vals (fun j=>L.getD j false) ops.size) hst hfr hv
       | global g=>exact Hu (fr:=Ff f0 (BI ops) vals (fun j=>L.getD j false) ops.size) hst hfr hv
       | func f=>exact Hu (fr:=Ff f0 (BI ops) vals (fun j=>L.getD j false) ops.size) hst hfr hv
     have hwant:Bt ops (Ff f0 (BI ops) vals (fun _=>true) i) o=Region.wanted o (yielded ops a.tmps):=by
       refine Km (c:=c) (w:=w) (fun j want hg d hd=>⟨_,hfr,?_⟩)
       refine OH hord hI.closed ho hLi hmet ?_
       unfold Oper.looksAt
       rw [List.mem_append]
       right
       rw [hg]
       simp [hd]
     have fromOne:Jp P ops o (wpAny P .any ops Q fuel (L.setIfInBounds i true)) Q a w→wpOp P ops Q i (wpAny P .any ops Q fuel (L.setIfInBounds i true)) a w:=by
       intro h
       unfold wpOp
       rw [ho]
       unfold Jp at h
       simp only
       split
       · rename_i hw;rw [if_pos hw] at h;exact .inl h
       · rename_i hw;rw [if_neg hw] at h;exact h
     refine fromOne ?_
     cases hqo:calm o.op with
     | false =>
       have hki:sts k=sts i:=by
         rcases Nat.le_total k i with hle' | hle'
         · exact M5 hqs i hle' (by omega) (fun m h1 h2 hm=>by
             obtain ⟨y,hy,hyq⟩:=hm
             have:=LH hord hI.closed hy ho hmet h2 (S4 hyq hqo)
             have:=(hlk m ⟨y,hy,hyq⟩).1 this
             omega)
         · exact (M5 hqs k hle' hk (fun m h1 h2 hm=>by
             obtain ⟨y,hy,hyq⟩:=hm
             have hLm:=(hlk m ⟨y,hy,hyq⟩).2 h2
             by_cases e:m=i
             · subst e;rw [hLi] at hLm;cases hLm
             · have:=IQ hord hI.closed ho hy hLi (by omega) (S4 hqo hyq)
               rw [this] at hLm;cases hLm)).symm
       rw [hki] at hst
       refine hl i o ho hqo c w a _ _ hst hsees hwant ?_
       intro u w' c' hx' hst' hu
       refine step (i+1) u w' c' (by omega) (fun l hl'=>?_) hx' hst' hu
       by_cases e:l=i
       · subst e;rw [hMi];simp
       · rw [hMn l e,hlk l hl']
         obtain ⟨y,hy,hyq⟩:=hl'
         constructor
         · intro hlt'
           have hLl:=(hlk l ⟨y,hy,hyq⟩).2 hlt'
           rcases Nat.lt_or_ge l i with h1 | h1
           · omega
           · have:=IQ hord hI.closed ho hy hLi (by omega) (S4 hqo hyq)
             rw [this] at hLl;cases hLl
         · intro hlt'
           have:=LH hord hI.closed hy ho hmet (by omega) (S4 hyq hqo)
           exact (hlk l ⟨y,hy,hyq⟩).1 this
     | true =>
       have hlk':∀ l,LG ops l→((L.setIfInBounds i true).getD l false=true↔l < k):=by
         intro l hl'
         have hne:l≠i:=by
           intro e
           subst e
           obtain ⟨y,hy,hyq⟩:=hl'
           rw [ho] at hy;cases hy
           rw [hqo] at hyq;cases hyq
         rw [hMn l hne]
         exact hlk l hl'
       have hwin:kG ops i k:=by
         refine ⟨fun l hl' hd=>?_,fun l hl' hd=>?_⟩
         · exact (hlk l hl').1 (Pg hI.closed (Bd ho) hmet hd)
         · rcases Nat.lt_or_ge l k with h1 | h1
           · exfalso
             have hLl:=(hlk l hl').2 h1
             obtain ⟨y,hy,hyq⟩:=hl'
             have:=Pg hI.closed (Bd hy) (hI.closed l y (Bd hy) hLl) hd
             rw [hLi] at this;cases this
           · exact h1
       unfold Jp
       rcases Kg hqo with hqo | ⟨e,hoe⟩
       · obtain ⟨_,hcase⟩:=hq i o ho hqo
         rcases hcase with ⟨hw,hv⟩ | ⟨hw,hv⟩
         · rw [← hwant,hw]
           simp only [Bool.false_eq_true,if_false]
           exact step k undef w c hk hlk' (Ext.refl c w) hst (by rw [hv];exact .sc rfl)
         · rw [← hwant,hw]
           simp only [if_true]
           have hfine:=PT hst hsees (fun _=>rfl) (hv k hk hwin)
           obtain ⟨u,w',c',hr,hx',hst',hu⟩:=hfine
           unfold Oper.wp
           rcases hr with hr | ⟨hr,rfl⟩
           · rw [hr];exact step k u w' c' hk hlk' hx' hst' hu
           · rw [hr];exact step k undef w' c' hk hlk' hx' hst' hu
       · obtain ⟨_,hcase⟩:=ha i o e ho hoe
         rcases hcase with ⟨hw,hv⟩ | ⟨hw,z,hz,hrk,hv,hgets⟩
         · rw [← hwant,hw]
           simp only [Bool.false_eq_true,if_false]
           exact step k undef w c hk hlk' (Ext.refl c w) hst (by rw [hv];exact .sc rfl)
         · rw [← hwant,hw]
           simp only [if_true]
           have hia:Bb o.op=true:=by rw [hoe];rfl
           obtain ⟨u,w',c',hr,hm',hst',hu,hext,hoth⟩:=RS (ρ:=a.eval) hst hoe hz (hholes i o ho hia hLi hrk) (hgets k hk hwin)
           unfold Oper.wp
           rw [hr]
           refine stepM k u w' c' hk hlk' (hext cx0 w0 hx (by omega)) hm' (fun j y hy hya hj hjn=>?_) hst' (by rw [hv];exact hu)
           have hji:j≠i:=fun e=>by subst e;rw [hMi] at hj;cases hj
           rw [hMn j hji] at hj
           have hne:rk ops j≠rk ops i:=fun e=>hji (gU hy ho hya hia e)
           rw [hoth _ (by omega)]
           exact hholes j y hy hya hj hjn
end
end AI
namespace AI
open Go Go.RowKit
theorem Tc {G:AY} {c:Cx} {w:World} {s:AS} {fr:List AV} {a:Act} (hs:St G c w s) (hf:BS c w fr a.tmps.toList) (x:Operand):PJ G c w fr a.eval x:=fun _ hv=>Hu hs hf hv
theorem OU {P:Program} {ops:Array Oper} {o:Oper} {i:Nat} {l:List Nat} {Q:Exit→Act→World→Prop} {a:Act} {w:World} (ho:ops[i]?=some o) (h:Jp P ops o (wpOps P ops Q l) Q a w):wpOps P ops Q (i::l) a w:=by
 unfold wpOps
 rw [ho]
 unfold Jp at h
 simp only
 split
 · rename_i hw;rw [if_pos hw] at h;exact .inl h
 · rename_i hw;rw [if_neg hw] at h;exact h
theorem K1.OL {G:AY} {c:Cx} {w:World} {e:AX} {fr':List AV} {s':AS} {e':Exit} {a':Act} {w':World} (h:K1 G c w e fr' s' e' a' w') (he:e≠.normal):e'≠.normal:=by
 obtain ⟨c',_,_,_,h4⟩:=h
 cases e with
 | normal=>exact absurd rfl he
 | exit id=>intro h5;rw [h4.1] at h5;cases h5
 | ret=>intro h5;rw [h4.1] at h5;cases h5
 | pan v=>obtain ⟨u,h5,_⟩:=h4;intro h6;rw [h5] at h6;cases h6
theorem QB {K:Act→World→Prop} {Q:Exit→Act→World→Prop} {e:Exit} {a:Act} {w:World} (he:e≠.normal) (h:Q e a w):Exit.then K Q e a w:=by
 cases e<;>first | exact absurd rfl he | exact h
structure P7 (P:Program) (G:AY) (X:Ki) (H:Ii):Prop where
 mixed:P.follows .mixedOrders=true
 ext:∀ f args s r s',X f args s r s'→Sound P G (.call f args s r s')
 hook:∀ f args g gargs k,H f args=some (g,gargs,k)→∀ s r s' r',Sound P G (.call g gargs s r s')→k r=some r'→Sound P G (.call f args s r' s')
theorem sound {P:Program} {G:AY} {X:Ki} {H:Ii} (hg:P7 P G X H) {jd:Jd} (h:J P G X H jd):Sound P G jd:=by
 induction h with
 | weak hw _ ih=>intro cx w a Q hs hf hd hQ;obtain ⟨c2,x,h1,h2⟩:=hw cx w _ hs hf;exact ih c2 w a Q h1 h2 hd (fun e a w hp=>hQ e a w (hp.ext x))
 | weakL hw _ ih=>obtain ⟨n,ih⟩:=ih;exact ⟨n,fun cx w a Q hs hf hd hQ=>by obtain ⟨c2,x,h1,h2⟩:=hw cx w _ hs hf;exact ih c2 w a Q h1 h2 hd (fun e a w hp=>hQ e a w (hp.ext x))⟩
 | opWeak _ _ hv ih =>
   intro cx w a K Q hs hev hwa hK
   exact ih cx w a K Q hs hev hwa (fun u w' c' x st hu=>hK u w' c' x st (hv _ _ _ hu))
 | @scope c fr fr2 fr' s s2 s' e _ he hsc ih =>
   intro cx w a Q hs hf hd hQ
   refine ih cx w a Q hs hf hd ?_
   rintro e' a' w' ⟨c',hx,hs',hd',h4⟩
   cases e with
   | normal=>obtain ⟨rfl,h5⟩:=h4;obtain ⟨c2,x2,st2,f2⟩:=hsc cx w c' w' _ hx hs hs' h5;exact hQ _ _ _ ⟨c2,x2,st2,hd',rfl,f2⟩
   | exit id=>obtain ⟨rfl,h5⟩:=h4;obtain ⟨c2,x2,st2,f2⟩:=hsc cx w c' w' _ hx hs hs' h5;exact hQ _ _ _ ⟨c2,x2,st2,hd',rfl,f2⟩
   | ret=>obtain ⟨rfl,h5⟩:=h4;obtain ⟨c2,x2,st2,f2⟩:=hsc cx w c' w' _ hx hs hs' h5;exact hQ _ _ _ ⟨c2,x2,st2,hd',rfl,f2⟩
   | pan v=>exact absurd rfl (he v)
 | skip=>intro cx w a Q hs hf hd hQ;exact wp_skip (hQ _ _ _ ⟨cx,Ext.refl _ _,hs,hd,rfl,hf⟩)
 | exit=>intro cx w a Q hs hf hd hQ;exact wp_exit (hQ _ _ _ ⟨cx,Ext.refl _ _,hs,hd,rfl,hf⟩)
 | ret=>intro cx w a Q hs hf hd hQ;exact wp_ret (hQ _ _ _ ⟨cx,Ext.refl _ _,hs,hd,rfl,hf⟩)
 | seq _ _ ih1 ih2 =>
   intro cx w a Q hs hf hd hQ
   refine wp_seq (ih1 cx w a _ hs hf hd ?_)
   rintro e' a' w' ⟨c',hx,hs',hd',rfl,hf'⟩
   exact ih2 c' w' a' Q hs' hf' hd' (fun e2 a2 w2 h2=>hQ e2 a2 w2 (h2.ext hx))
 | seqX _ he ih1 =>
   intro cx w a Q hs hf hd hQ
   refine wp_seq (ih1 cx w a _ hs hf hd ?_)
   intro e' a' w' hp
   exact QB (hp.OL he) (hQ _ _ _ hp)
 | @cond q x y t fr fr' s s' e hq _ ih =>
   intro cx w a Q hs hf hd hQ
   have hr:=Hu hs hf hq
   have hev:a.eval q=.bool t:=by
     generalize a.eval q=v at hr
     cases hr;rfl
   exact wp_cond hev (ih cx w a Q hs hf hd hQ)
 | @block id c fr fr' s s' e _ ih =>
   intro cx w a Q hs hf hd hQ
   refine wp_block (ih cx w a _ hs hf hd ?_)
   rintro e' a' w' ⟨c',hx,hs',hd',h4⟩
   cases e with
   | normal=>obtain ⟨rfl,h5⟩:=h4;exact hQ _ _ _ ⟨c',hx,hs',hd',rfl,h5⟩
   | exit id' =>
     obtain ⟨rfl,h5⟩:=h4
     show if id'=id then Q .normal a' w' else Q (.exit id') a' w'
     by_cases hid:id'=id
     · rw [if_pos hid]
       refine hQ _ _ _ ⟨c',hx,hs',hd',?_⟩
       simp only [DR,hid,if_true]
       exact ⟨trivial,h5⟩
     · rw [if_neg hid]
       refine hQ _ _ _ ⟨c',hx,hs',hd',?_⟩
       simp only [DR,hid,if_false]
       exact ⟨trivial,h5⟩
   | ret=>obtain ⟨rfl,h5⟩:=h4;exact hQ _ _ _ ⟨c',hx,hs',hd',rfl,h5⟩
   | pan v=>obtain ⟨u,rfl,h5⟩:=h4;exact hQ _ _ _ ⟨c',hx,hs',hd',u,rfl,h5⟩
 | loop _ ih =>
   intro cx w a Q hs hf hd hQ
   obtain ⟨n,hn⟩:=ih
   exact wp_loop_rounds n (hn cx w a Q hs hf hd hQ)
 | loopN _ _ ih1 ih2 =>
   obtain ⟨n,hn⟩:=ih2
   refine ⟨n+1,?_⟩
   intro cx w a Q hs hf hd hQ
   rw [rounds_succ]
   refine ih1 cx w a _ hs hf hd ?_
   rintro e' a' w' ⟨c',hx,hs',hd',rfl,hf'⟩
   exact hn c' w' a' Q hs' hf' hd' (fun e2 a2 w2 h2=>hQ e2 a2 w2 (h2.ext hx))
 | loopX _ he ih1 =>
   refine ⟨1,?_⟩
   intro cx w a Q hs hf hd hQ
   rw [rounds_succ]
   refine ih1 cx w a _ hs hf hd ?_
   intro e' a' w' hp
   exact QB (hp.OL he) (hQ _ _ _ hp)
 | region _ ih =>
   intro cx w a Q hs hf hd hQ
   exact wp_region (ih cx w a Q hs hf hd hQ)
 | opsNil=>intro cx w a Q hs hf hd hQ;exact hQ _ _ _ ⟨cx,Ext.refl _ _,hs,hd,rfl,hf⟩
 | @opsCons ops i l o v fr fr' s s1 s' e ho _ _ ih1 ih2 =>
   intro cx w a Q hs hf hd hQ
   refine OU ho (ih1 cx w a _ _ hs (fun x _=>Tc hs hf x) (Km (c:=cx) (w:=w) (fun _ _ _ _ _=>⟨fr,hf,rfl⟩)) ?_)
   intro u w' c' hx hs' hu
   exact ih2 c' w' (a.put o.dst u) Q hs' (SY (hf.mono hx) hu) (by cases o.dst<;>exact hd) (fun e2 a2 w2 h2=>hQ e2 a2 w2 (h2.ext hx))
 | @opsPan ops i l o v fr s s1 ho _ ih1 =>
   intro cx w a Q hs hf hd hQ
   refine OU ho (ih1 cx w a _ _ hs (fun x _=>Tc hs hf x) (Km (c:=cx) (w:=w) (fun _ _ _ _ _=>⟨fr,hf,rfl⟩)) ?_)
   intro u w' c' hx hs' hu
   exact hQ _ _ _ ⟨c',hx,hs',hd,u,rfl,hu⟩
 | @opVal ops o fr s s' v hw h =>
   intro cx w a K Q hs hev hwa hK
   unfold Jp
   rw [← hwa,hw]
   simp only [if_true]
   obtain ⟨u,w',c',hr,hx,hs',hu⟩:=PT hs hev (fun _=>rfl) h
   unfold Oper.wp
   rcases hr with hr | ⟨hr,rfl⟩
   · rw [hr];exact hK u w' c' hx hs' hu
   · rw [hr];exact hK undef w' c' hx hs' hu
 | @opApp ops o fr s s' cl x y t tx a b v hw ho hcl hxs hts ha hb h =>
   intro cx w ac K Q hs hev hwa hK
   unfold Jp
   rw [← hwa,hw]
   simp only [if_true]
   have e1:cl.args=#[x,y]:=by apply Array.ext';rw [hxs]
   have e2:cl.argTypes=#[t,tx]:=by apply Array.ext';rw [hts]
   have hop:∀ z∈[x,y],z∈o.op.operands:=fun z hz=>by rw [ho];simp only [Op.operands,Call.operands,e1,Array.mem_append];exact .inr (by simpa using hz)
   obtain ⟨u,w',c',hr,hx,hs',hu⟩:=h cx w _ _ o.type hs (hev x (hop x (by simp)) a ha) (hev y (hop y (by simp)) b hb)
   unfold Oper.wp
   have hr2:(execOp ac.eval o).run P w=.ok (.value u) w':=by
     simp [execOp,ho,resolve,hcl,e1,e2,invoke,builtin,hr]
   rw [hr2]
   exact hK u w' c' hx hs' hu
 | @opSkip ops o fr s hw =>
   intro cx w a K Q hs hev hwa hK
   unfold Jp
   rw [← hwa,hw]
   simp only [Bool.false_eq_true,if_false]
   exact hK undef w cx (Ext.refl _ _) hs (.sc rfl)
 | @opCall ops o fr s s' f args r hw h _ ih =>
   intro cx w a K Q hs hev hwa hK
   unfold Jp
   rw [← hwa,hw]
   simp only [if_true]
   obtain ⟨vs,hr,hargs⟩:=PT hs hev (fun _=>rfl) h
   unfold Oper.wp
   rw [hr]
   refine (ih cx w vs hs hargs).mono ?_
   rintro e w' ⟨c',hx,hs',h4⟩
   cases r with
   | ret v=>obtain ⟨u,rfl,hu⟩:=h4;exact hK u w' c' hx hs' hu
   | pan v=>obtain ⟨u,rfl,hu⟩:=h4;exact hK u w' c' hx hs' hu
 | @opPan ops o fr s v hw h =>
   intro cx w a K Q hs hev hwa hK
   unfold Jp
   rw [← hwa,hw]
   simp only [if_true]
   obtain ⟨u,hr,hu⟩:=PT hs hev (fun _=>rfl) h
   unfold Oper.wp
   rw [hr]
   exact hK u w cx (Ext.refl _ _) hs hu
 | @draw id ops f0 s0 rs vals sts h0 hord hl hq ha ihl =>
   intro cx w a Q hs hf hd hQ
   refine wp_region_any hg.mixed ?_
   obtain ⟨x,st⟩:=hs.same (Wx w)
   obtain ⟨c2,x2,st2,hphi⟩:=st.holds rs
   rw [← h0] at st2
   rw [hs.len] at ha
   refine Vf (nh:=rs.length) hord ihl hq cx w ha Q hQ ops.size _ a _ ⟨by simp,?_,⟨c2,0,Nat.zero_le _,?_,x.trans x2,st2,?_,?_⟩,hd⟩ ?_
   · intro i o ho hL
     exfalso
     simp only [Array.getD_eq_getD_getElem?,Array.getElem?_replicate] at hL
     split at hL<;>simp at hL
   · intro l _
     simp only [Array.getD_eq_getD_getElem?,Array.getElem?_replicate]
     split<;>simp
   · have:Ff f0 (BI ops) vals (fun j=>(Array.replicate ops.size false).getD j false) ops.size=f0:=by
       have key:∀ n,Ff f0 (BI ops) vals (fun j=>(Array.replicate ops.size false).getD j false) n=f0:=by
         intro n
         induction n with
         | zero=>rfl
         | succ n ih =>
           simp only [Ff,ih]
           rw [if_neg]
           simp only [Array.getD_eq_getD_getElem?,Array.getElem?_replicate]
           split<;>simp
       exact key _
     rw [this]
     exact hf.mono (x.trans x2)
   · intro j y _ _ _ hj
     rw [hphi,List.getElem?_append_right (by omega)]
     simp [List.getElem?_replicate]
     omega
   · have key:∀ n,Mg (fun j=>(Array.replicate ops.size false).getD j false) n=n:=by
       intro n
       induction n with
       | zero=>rfl
       | succ n ih =>
         simp only [Mg,ih]
         have:(Array.replicate ops.size false).getD n false=false:=by
           simp only [Array.getD_eq_getD_getElem?,Array.getElem?_replicate]
           split<;>simp
         simp only [this];simp
     exact key _
 | @body f fn c args fr' s s' s2 e v hf hb _ he hr hk ih =>
   intro cx w vs hs hargs
   have hl:=hargs.len
   refine calls_of_wp hf hb (ih cx w _ _ hs ?_ rfl ?_)
   · simp only [Array.toList_append,Array.toList_replicate]
     rw [List.size_toArray,hl]
     exact hargs.append (BS.replicate (.sc rfl) _)
   · rintro e' a' w' ⟨c',hx,hs',hd',h4⟩
     have hs2:St G c' w' s2:=by
       rcases hk with rfl | rfl
       · exact hs'.cut _
       · exact hs'
     rcases he with rfl | rfl
     · obtain ⟨rfl,h5⟩:=h4
       obtain ⟨u,h6,h7⟩:=LK hs' h5 hr
       exact ⟨hd',u,h6,c',hx,hs2,u,rfl,h7⟩
     · obtain ⟨rfl,h5⟩:=h4
       obtain ⟨u,h6,h7⟩:=LK hs' h5 hr
       exact ⟨hd',u,h6,c',hx,hs2,u,rfl,h7⟩
 | @bodyP f fn c args fr' s s' v hf hb _ ih =>
   intro cx w vs hs hargs
   have hl:=hargs.len
   refine calls_of_wp hf hb (ih cx w _ _ hs ?_ rfl ?_)
   · simp only [Array.toList_append,Array.toList_replicate]
     rw [List.size_toArray,hl]
     exact hargs.append (BS.replicate (.sc rfl) _)
   · rintro e' a' w' ⟨c',hx,hs',hd',u,rfl,h5⟩
     exact ⟨hd',c',hx,hs'.cut _,u,rfl,h5⟩
 | ext h=>exact hg.ext _ _ _ _ _ h
 | hook hh _ hk ih=>exact hg.hook _ _ _ _ _ hh _ _ _ _ ih hk
end AI
namespace AI
open Go Go.RowKit
def X1:Value→Value→Bool
 | .int k a,.int k' b=>k == k'&&a == b
 | .bool a,.bool b=>a == b
 | .string a,.string b=>a.data.toList == b.data.toList
 | .nilIface,.nilIface=>true
 | .nilFunc,.nilFunc=>true
 | .pointer none,.pointer none=>true
 | .map none,.map none=>true
 | .tuple a,.tuple b=>a.size == 0&&b.size == 0
 | _,_=>false
theorem TJ {a b:Value} (h:X1 a b=true):a=b:=by
 unfold X1 at h
 split at h
 · simp at h;rw [h.1,h.2]
 · simp at h;rw [h]
 · simp only [beq_iff_eq] at h
   rename_i x y
   have:x=y:=ByteArray.ext (Array.ext' h)
   rw [this]
 · rfl
 · rfl
 · rfl
 · rfl
 · rename_i x y
   simp at h
   rw [h.1,h.2]
 · cases h
mutual
def Kf:AV→AV→Bool
 | .sc a,.sc b=>X1 a b
 | .agg a,.agg b=>NQ a b
 | .Bh a,.Bh b=>NQ a b
 | .sl o n a,.sl p m b=>decide (o=p)&&n == m&&NQ a b
 | .msl a b c,.msl x y z=>a == x&&b == y&&c == z
 | .el a,.el b=>NQ a b
 | .ptr a b,.ptr x y=>a == x&&b == y
 | .fn f a b,.fn g x y=>decide (f=g)&&NQ a x&&NQ b y
 | .ifc t a,.ifc u b=>t == u&&Kf a b
 | .mp a,.mp b=>a == b
 | _,_=>false
def NQ:List AV→List AV→Bool
 | [],[]=>true
 | a::as,b::bs=>Kf a b&&NQ as bs
 | _,_=>false
end
mutual
theorem Po:∀ {a b:AV},Kf a b=true→a=b
 | .sc a,b,h=>by cases b<;>simp [Kf] at h;rw [TJ h]
 | .agg a,b,h=>by cases b<;>simp [Kf] at h;rw [HF h]
 | .Bh a,b,h=>by cases b<;>simp [Kf] at h;rw [HF h]
 | .sl o n a,b,h=>by cases b<;>simp [Kf] at h;rw [h.1.1,h.1.2,HF h.2]
 | .msl _ _ _,b,h=>by cases b<;>simp [Kf] at h;rw [h.1.1,h.1.2,h.2]
 | .el a,b,h=>by cases b<;>simp [Kf] at h;rw [HF h]
 | .ptr _ _,b,h=>by cases b<;>simp [Kf] at h;rw [h.1,h.2]
 | .fn f a c,b,h=>by cases b<;>simp [Kf] at h;rw [h.1.1,HF h.1.2,HF h.2]
 | .ifc t a,b,h=>by cases b<;>simp [Kf] at h;rw [h.1,Po h.2]
 | .mp _,b,h=>by cases b<;>simp [Kf] at h;rw [h]
 | .any,b,h=>by cases b<;>simp [Kf] at h
theorem HF:∀ {a b:List AV},NQ a b=true→a=b
 | [],b,h=>by cases b<;>simp [NQ] at h;rfl
 | a::as,b,h=>by cases b<;>simp [NQ] at h;rw [Po h.1,HF h.2]
end
def reads:Op→Bool
 | .load .. | .lookup ..=>true
 | .call cl=>(match cl.callee with
   | .builtin .len=>true
   | _=>false)
 | _=>false
theorem JA {P:Program} {G:AY} {fr:List AV} {s:AS} {o:Oper} {r:AR} (hq:quiet o.op=true) (h:Ir P G fr s o=some r):∃ v,r=.val v s:=by
 unfold Ir at h
 split at h<;>rename_i ho<;>(try (rw [ho] at hq;simp [quiet] at hq;done))
 all_goals first
   | (obtain ⟨v,_,rfl⟩:=map_some h;exact ⟨_,rfl⟩)
   | (split at h
      all_goals first
        | (obtain ⟨v,_,rfl⟩:=map_some h;exact ⟨_,rfl⟩)
        | (cases h;done)
        | (cases h;exact ⟨_,rfl⟩)
        | (split at h
           all_goals first
             | (cases h;done)
             | (cases h;exact ⟨_,rfl⟩)))
   | (obtain ⟨_,_,h2⟩:=bind_some h;obtain ⟨v,_,rfl⟩:=map_some h2;exact ⟨_,rfl⟩)
   | (rw [ho] at hq
      unfold JY at h
      split at h
      all_goals first
        | (obtain ⟨_,_,h2⟩:=bind_some h;obtain ⟨v,_,rfl⟩:=map_some h2;exact ⟨_,rfl⟩)
        | (rename_i hcl;simp [quiet,hcl] at hq;done)
        | (split at h
           all_goals first
             | (obtain ⟨v,_,rfl⟩:=map_some h;exact ⟨_,rfl⟩)
             | (cases h;done))
        | (cases h;done))
   | (cases h;done)
theorem IJ {P:Program} {G:AY} {fr:List AV} {s:AS} {o:Oper} {v:AV} {s':AS} (hq:quiet o.op=true) (hr:reads o.op=false) (h:Ir P G fr s o=some (.val v s')) (s2:AS):Ir P G fr s2 o=some (.val v s2):=by
 have e:=JA hq h
 obtain ⟨v',e⟩:=e
 injection e with e1 e2
 subst e1 e2
 obtain ⟨dst,op,ty,pos,after,guard⟩:=o
 cases op<;>simp only [quiet,reads,Bool.false_eq_true] at hq hr<;>simp only [Ir] at h ⊢
 all_goals first
   | (obtain ⟨v',h1,h2⟩:=map_some h;injection h2 with h2;subst h2;rw [h1];rfl)
   | (obtain ⟨q,h0,h2⟩:=bind_some h;obtain ⟨v',h1,h3⟩:=map_some h2;injection h3 with h3;subst h3;rw [h0,Option.bind_some,h1];rfl)
   | (split at h
      all_goals first
        | (obtain ⟨v',h1,h2⟩:=map_some h;injection h2 with h2;subst h2;simp only [*,Option.map_some];done)
        | (cases h;done)
        | (cases h;simp only [*];done)
        | (split at h
           all_goals first
             | (cases h;done)
             | (cases h;simp [*];done)))
   | (cases hr;done)
   | (rename_i cl
      unfold JY at h ⊢
      split at h
      all_goals first
        | (rename_i hcl;simp [hcl] at hr;done)
        | (rename_i hcl;simp [hcl] at hq;done)
        | (simp only;obtain ⟨q,h0,h2⟩:=bind_some h;obtain ⟨v',h1,h3⟩:=map_some h2;injection h3 with h3;subst h3;rw [h0,Option.bind_some,h1];rfl)
        | (cases h;done))
end AI
namespace AI
open Go Go.RowKit
inductive Tk where
 | code (c:Code) (fr:List AV) (s:AS)
 | loop (c:Code) (fr:List AV) (s:AS)
 | ops (ops:Array Oper) (l:List Oper) (fr:List AV) (s:AS)
 | draw (ops:Array Oper) (l:List Oper) (fr:List AV) (s:AS) (q:Nat)
 | op (ops:Array Oper) (o:Oper) (fr:List AV) (s:AS)
 | call (f:FuncId) (args:List AV) (s:AS)
inductive Rs where
 | code (e:AX) (fr:List AV) (s:AS)
 | call (r:CR) (s:AS)
 | tr (l:List (List AV×AS×AV)) (fr:List AV) (s:AS)
abbrev L1:=FuncId→List AV→AS→Option (CR×AS)
def EP:List Oper→Nat→List Nat
 | [],_=>[]
 | o::os,i=>if calm o.op then EP os (i+1) else i::EP os (i+1)
def TU (ms:List Nat) (ls:List Nat) (i k:Nat):Bool:=ls.all fun l=>(!Lf ms i l||decide (l < k))&&(!Lf ms l i||decide (k≤l))
def K9 (P:Program) (G:AY) (ms ls:List Nat) (i:Nat) (o:Oper) (fr:List AV) (v:AV):List AS→Nat→Bool
 | [],_=>true
 | s::ss,k=>(!TU ms ls i k||(match Ir P G fr s o with
     | some (.val u _)=>Kf u v
     | _=>false))&&K9 P G ms ls i o fr v ss (k+1)
def Mz (P:Program) (G:AY) (ops:Array Oper) (ms ls:List Nat) (sts:List AS):List Oper→List (List AV×AS×AV)→Nat→Bool
 | o::os,t::ts,i=>(!(quiet o.op&&reads o.op)||!Bt ops t.1 o||K9 P G ms ls i o t.1 t.2.2 sts 0)&&Mz P G ops ms ls sts os ts (i+1)
 | _,_,_=>true
def Nr (ms ls:List Nat) (i id:Nat) (cs:List AV):List AS→Nat→Bool
 | [],_=>true
 | s::ss,k=>(!TU ms ls i k||(match s.get id with
     | some (.cells ds)=>NQ ds cs
     | _=>false))&&Nr ms ls i id cs ss (k+1)
def Jc (P:Program) (ops:Array Oper) (ms ls:List Nat) (sts:List AS):List Oper→List (List AV×AS×AV)→Nat→Nat→Bool
 | o::os,t::ts,i,q=>(match o.op with
   | .alloc e=>(!Bt ops t.1 o||(match Ev P e with
     | some z=>Nr ms ls i q (cellsOf z) sts 0
     | none=>false))&&Jc P ops ms ls sts os ts (i+1) (q+1)
   | _=>Jc P ops ms ls sts os ts (i+1) q)
 | _,_,_,_=>true
def XB (P:Program):List Oper→Option (List AT)
 | []=>some []
 | o::l=>(match o.op with
   | .alloc e=>(match Ev P e,XB P l with
     | some z,some r=>some (.cells (cellsOf z)::r)
     | _,_=>none)
   | _=>XB P l)
def Pj (P:Program) (G:AY) (ops:Array Oper) (tr:List (List AV×AS×AV)) (sf:AS):Bool :=
 match EP ops.toList 0 with
 | []=>true
 | ls=>Mz P G ops (E5 ops.toList []) ls (tr.map (·.2.1)++[sf]) ops.toList tr 0
def JC (P:Program) (ops:Array Oper) (tr:List (List AV×AS×AV)) (sf:AS) (q:Nat):List AT→Bool
 | []=>true
 | _=>Jc P ops (E5 ops.toList []) (EP ops.toList 0) (tr.map (·.2.1)++[sf]) ops.toList tr 0 q
def MD (P:Program) (G:AY) (ops:Array Oper) (tr:List (List AV×AS×AV)) (sf:AS) (q:Nat) (r:List AT):Bool :=
 match Pj P G ops tr sf with
 | true=>JC P ops tr sf q r
 | false=>false
def n4:AV→Bool
 | .ptr _ _ | .msl _ _ _ | .mp _ | .fn _ _ _=>true
 | _=>false
def gB:List AV→Bool
 | []=>false
 | a::l=>match n4 a with
   | true=>true
   | false=>gB l
def uD:AV→Bool
 | .agg l=>gB l
 | .Bh l=>gB l
 | a=>n4 a
def fin (v:AV) (s:AS) (n:Nat):AS:=match uD v with
 | true=>s
 | false=>s.cut n
theorem Xv (v:AV) (s:AS) (n:Nat):fin v s n=s.cut n∨fin v s n=s:=by
 unfold fin
 cases uD v
 · exact .inl rfl
 · exact .inr rfl
abbrev XP (X:L1):Ki:=fun f args s r s'=>X f args s=some (r,s')
def FJ (ops:Array Oper) (fr:List AV) (o:Oper) (q:Nat):AV:=match Bt ops fr o with
 | true=>.ptr q 0
 | false=>.sc undef
inductive HV (P:Program) (G:AY) (X:Ki) (H:Ii) (ops:Array Oper):Nat→List Oper→List AV→AS→List (List AV×AS×AV)→List AV→AS→Prop where
 | nil {q:Nat} {fr:List AV} {s:AS}:HV P G X H ops q [] fr s [] fr s
 | cons {q:Nat} {o:Oper} {l:List Oper} {fr fr':List AV} {s s1 s':AS} {v:AV} {t:List (List AV×AS×AV)} (ha:Bb o.op=false) (h:J P G X H (.op ops o fr s (.ret v) s1)) (k:HV P G X H ops q l (GD fr o.dst v) s1 t fr' s'):HV P G X H ops q (o::l) fr s ((fr,s,v)::t) fr' s'
 | alloc {q:Nat} {o:Oper} {l:List Oper} {fr fr':List AV} {s s':AS} {t:List (List AV×AS×AV)} (ha:Bb o.op=true) (k:HV P G X H ops (q+1) l (GD fr o.dst (FJ ops fr o q)) s t fr' s'):HV P G X H ops q (o::l) fr s ((fr,s,FJ ops fr o q)::t) fr' s'
def Rt (P:Program) (G:AY) (X:Ki) (H:Ii):Tk→Rs→Prop
 | .code c fr s,.code e fr' s'=>J P G X H (.code c fr s e fr' s')
 | .loop c fr s,.code e fr' s'=>J P G X H (.loop c fr s e fr' s')
 | .ops ops l fr s,.code e fr' s'=>∀ k,l=ops.toList.drop k→J P G X H (.ops ops (List.range' k l.length) fr s e fr' s')
 | .draw ops l fr s q,.tr t fr' s'=>HV P G X H ops q l fr s t fr' s'
 | .op ops o fr s,.call r s'=>J P G X H (.op ops o fr s r s')
 | .call f args s,.call r s'=>J P G X H (.call f args s r s')
 | _,_=>False
section
variable {P:Program} {G:AY} {X:Ki} {H:Ii} {ops:Array Oper}
theorem HV.len {q:Nat} {l:List Oper} {fr fr':List AV} {s s':AS} {t:List (List AV×AS×AV)} (h:HV P G X H ops q l fr s t fr' s'):t.length=l.length:=by
 induction h with
 | nil=>rfl
 | cons _ _ _ ih=>simp [ih]
 | alloc _ _ ih=>simp [ih]
def Cp (t:List (List AV×AS×AV)) (sf:AS) (i:Nat):AS:=match t[i]? with
 | some x=>x.2.1
 | none=>sf
def Ee (t:List (List AV×AS×AV)) (i:Nat):AV:=match t[i]? with
 | some x=>x.2.2
 | none=>.sc undef
theorem HV.at {q:Nat} {l:List Oper} {fr fr':List AV} {s s':AS} {t:List (List AV×AS×AV)} (h:HV P G X H ops q l fr s t fr' s'):Cp t s' 0=s∧∀ i o,l[i]?=some o→∃ fi,t[i]?=some (fi,Cp t s' i,Ee t i) ∧
   ((Bb o.op=false∧J P G X H (.op ops o fi (Cp t s' i) (.ret (Ee t i)) (Cp t s' (i+1))))∨(Bb o.op=true∧Cp t s' (i+1)=Cp t s' i∧Ee t i=FJ ops fi o (q+Rh l i))):=by
 induction h with
 | nil=>exact ⟨rfl,fun i o ho=>by simp at ho⟩
 | @cons q o l fr fr' s s1 s' v t ha h k ih =>
   refine ⟨rfl,fun i o' ho=>?_⟩
   cases i with
   | zero =>
     simp at ho;subst ho
     refine ⟨fr,rfl,.inl ⟨ha,?_⟩⟩
     have:Cp ((fr,s,v)::t) s' 1=s1:=by
       have:=ih.1
       unfold Cp at this ⊢
       simpa using this
     rw [this]
     exact h
   | succ i =>
     obtain ⟨fi,h1,h2⟩:=ih.2 i o' (by simpa using ho)
     refine ⟨fi,?_,?_⟩
     · have:((fr,s,v)::t)[i+1]?=t[i]?:=by simp
       rw [this,h1]
       simp [Cp,Ee]
     · simp only [Rh,ha,Nat.zero_add]
       simpa [Cp,Ee] using h2
 | @alloc q o l fr fr' s s' t ha k ih =>
   refine ⟨rfl,fun i o' ho=>?_⟩
   cases i with
   | zero =>
     simp at ho;subst ho
     refine ⟨fr,rfl,.inr ⟨ha,?_,?_⟩⟩
     · have:=ih.1
       unfold Cp at this ⊢
       simpa using this
     · simp [Ee,Rh]
   | succ i =>
     obtain ⟨fi,h1,h2⟩:=ih.2 i o' (by simpa using ho)
     refine ⟨fi,?_,?_⟩
     · have:((fr,s,FJ ops fr o q)::t)[i+1]?=t[i]?:=by simp
       rw [this,h1]
       simp [Cp,Ee]
     · simp only [Rh,ha]
       rw [← Nat.add_assoc]
       simpa [Cp,Ee] using h2
theorem HV.Nf {q:Nat} {l:List Oper} {fr fr':List AV} {s s':AS} {t:List (List AV×AS×AV)} (h:HV P G X H ops q l fr s t fr' s') (dst:Nat→Option Tmp) (vals:Nat→AV) (f0:List AV) (k:Nat) (hfr:fr=Ff f0 dst vals (fun _=>true) k) (hd:∀ i o,l[i]?=some o→dst (k+i)=o.dst) (hv:∀ i,vals (k+i)=Ee t i∨l.length≤i) :
   fr'=Ff f0 dst vals (fun _=>true) (k+l.length)∧∀ i x,t[i]?=some x→x.1=Ff f0 dst vals (fun _=>true) (k+i):=by
 have key:∀ {q:Nat} {o:Oper} {l:List Oper} {fr fr':List AV} {s:AS} {v:AV} {t:List (List AV×AS×AV)}
     (_:∀ (k:Nat),GD fr o.dst v=Ff f0 dst vals (fun _=>true) k→(∀ i o,l[i]?=some o→dst (k+i)=o.dst)→(∀ i,vals (k+i)=Ee t i∨l.length≤i)→fr'=Ff f0 dst vals (fun _=>true) (k+l.length)∧∀ i x,t[i]?=some x→x.1=Ff f0 dst vals (fun _=>true) (k+i))
     (k:Nat),fr=Ff f0 dst vals (fun _=>true) k→(∀ i o',(o::l)[i]?=some o'→dst (k+i)=o'.dst)→(∀ i,vals (k+i)=Ee ((fr,s,v)::t) i∨(o::l).length≤i) →
     fr'=Ff f0 dst vals (fun _=>true) (k+(o::l).length)∧∀ i x,((fr,s,v)::t)[i]?=some x→x.1=Ff f0 dst vals (fun _=>true) (k+i):=by
   intro q o l fr fr' s v t ih k hfr hd hv
   have hd0:=hd 0 o rfl
   have hv0:vals k=v:=by
     rcases hv 0 with h0 | h0
     · simpa [Ee] using h0
     · simp at h0
   have:=ih (k+1) (by simp only [Ff,if_true];rw [hfr,← hd0,hv0];rfl) (fun i o' ho'=>by have:=hd (i+1) o' (by simpa using ho');rwa [show k+1+i=k+(i+1) from by omega]) (fun i=>by
     rcases hv (i+1) with h1 | h1
     · left;rw [show k+1+i=k+(i+1) from by omega,h1];simp [Ee]
     · right;simp at h1;omega)
   refine ⟨by rw [this.1];congr 1;simp;omega,fun i x hx=>?_⟩
   cases i with
   | zero=>simp at hx;subst hx;exact hfr
   | succ i =>
     have h2:=this.2 i x (by simpa using hx)
     rw [h2];congr 1;omega
 induction h generalizing k with
 | nil=>exact ⟨hfr,fun i x hx=>by simp at hx⟩
 | @cons q o l fr fr' s s1 s' v t ha h _ ih=>exact key (q:=q) (fun k h1 h2 h3=>ih k h1 h2 h3) k hfr hd hv
 | @alloc q o l fr fr' s s' t ha _ ih=>exact key (q:=q) (fun k h1 h2 h3=>ih k h1 h2 h3) k hfr hd hv
theorem Qf {os:List Oper} {i l:Nat} {o:Oper} (ho:os[l]?=some o) (hq:calm o.op=false):i+l∈EP os i:=by
 induction os generalizing i l with
 | nil=>simp at ho
 | cons x os ih =>
   simp only [EP]
   cases l with
   | zero =>
     simp at ho;subst ho
     rw [hq];simp
   | succ l =>
     have:=ih (i:=i+1) (by simpa using ho)
     rw [show i+1+l=i+(l+1) from by omega] at this
     split
     · exact this
     · exact List.mem_cons_of_mem _ this
theorem Pl {i k:Nat} {ls:List Nat} (hls:∀ l,l∈ls→LG ops l) (h:kG ops i k):TU (E5 ops.toList []) ls i k=true:=by
 unfold TU
 rw [List.all_eq_true]
 intro l hl
 have h1:=h.1 l (hls l hl)
 have h2:=h.2 l (hls l hl)
 cases hd1:Lf (E5 ops.toList []) i l<;>cases hd2:Lf (E5 ops.toList []) l i<;>simp_all
theorem KK {os:List Oper} {i l:Nat} (h:l∈EP os i):∃ j o,l=i+j∧os[j]?=some o∧calm o.op=false:=by
 induction os generalizing i with
 | nil=>simp [EP] at h
 | cons x os ih =>
   simp only [EP] at h
   split at h
   · obtain ⟨j,o,h1,h2,h3⟩:=ih h
     exact ⟨j+1,o,by omega,by simpa using h2,h3⟩
   · rename_i hq
     rcases List.mem_cons.1 h with h | h
     · exact ⟨0,x,by omega,rfl,by simpa using hq⟩
     · obtain ⟨j,o,h1,h2,h3⟩:=ih h
       exact ⟨j+1,o,by omega,by simpa using h2,h3⟩
theorem RW {ms ls:List Nat} {i:Nat} {o:Oper} {fr:List AV} {v:AV} {ss:List AS} {k0:Nat} (h:K9 P G ms ls i o fr v ss k0=true) {k:Nat} {s:AS} (hs:ss[k]?=some s) (hw:TU ms ls i (k0+k)=true):∃ s',Ir P G fr s o=some (.val v s'):=by
 induction ss generalizing k0 k with
 | nil=>simp at hs
 | cons x ss ih =>
   simp only [K9,Bool.and_eq_true] at h
   cases k with
   | zero =>
     simp at hs;subst hs
     rw [Nat.add_zero] at hw
     have h1:=h.1
     rw [hw] at h1
     simp only [Bool.not_true,Bool.false_or] at h1
     split at h1
     · rename_i u s' hu
       exact ⟨s',by rw [hu,Po h1]⟩
     · cases h1
   | succ k=>exact ih h.2 (by simpa using hs) (by rwa [show k0+1+k=k0+(k+1) from by omega])
theorem Sw {ms ls:List Nat} {sts:List AS} {os:List Oper} {ts:List (List AV×AS×AV)} {i0:Nat} (h:Mz P G ops ms ls sts os ts i0=true) {i:Nat} {o:Oper} {x:List AV×AS×AV} (ho:os[i]?=some o) (hx:ts[i]?=some x):(quiet o.op&&reads o.op)=true→Bt ops x.1 o=true→K9 P G ms ls (i0+i) o x.1 x.2.2 sts 0=true:=by
 induction os generalizing ts i0 i with
 | nil=>simp at ho
 | cons y os ih =>
   cases ts with
   | nil=>simp at hx
   | cons t ts =>
     simp only [Mz,Bool.and_eq_true] at h
     cases i with
     | zero =>
       simp at ho hx;subst ho hx
       intro h1 h2
       have:=h.1
       rw [h1,h2] at this
       simpa using this
     | succ i =>
       have:=ih h.2 (by simpa using ho) (by simpa using hx)
       rwa [show i0+1+i=i0+(i+1) from by omega] at this
theorem Eo {o:Oper} {fr:List AV} {s s':AS} {v:AV} (hq:quiet o.op=true) (h:J P G X H (.op ops o fr s (.ret v) s')):s'=s∧((Bt ops fr o=false∧v=.sc undef)∨(Bt ops fr o=true∧Ir P G fr s o=some (.val v s))):=by
 cases h with
 | opVal hw h =>
   obtain ⟨v',e⟩:=JA hq h
   injection e with e1 e2
   subst e2
   exact ⟨rfl,.inr ⟨hw,h⟩⟩
 | opSkip hw=>exact ⟨rfl,.inl ⟨hw,rfl⟩⟩
 | opCall hw h hc =>
   obtain ⟨v',e⟩:=JA hq h
   cases e
 | opWeak hq2=>rw [hq] at hq2;cases hq2
 | opApp _ ho hcl=>simp [quiet,ho,hcl] at hq
theorem OW {ms ls:List Nat} {i id:Nat} {cs:List AV} {ss:List AS} {k0:Nat} (h:Nr ms ls i id cs ss k0=true) {k:Nat} {s:AS} (hs:ss[k]?=some s) (hw:TU ms ls i (k0+k)=true):s.get id=some (.cells cs):=by
 induction ss generalizing k0 k with
 | nil=>simp at hs
 | cons x ss ih =>
   simp only [Nr,Bool.and_eq_true] at h
   cases k with
   | zero =>
     simp at hs;subst hs
     rw [Nat.add_zero] at hw
     have h1:=h.1
     rw [hw] at h1
     simp only [Bool.not_true,Bool.false_or] at h1
     split at h1
     · rename_i ds hu
       rw [hu,HF h1]
     · cases h1
   | succ k=>exact ih h.2 (by simpa using hs) (by rwa [show k0+1+k=k0+(k+1) from by omega])
theorem Oy {ms ls:List Nat} {sts:List AS} {os:List Oper} {ts:List (List AV×AS×AV)} {i0 q:Nat} (h:Jc P ops ms ls sts os ts i0 q=true) {i:Nat} {o:Oper} {e:TypeId} {x:List AV×AS×AV} (ho:os[i]?=some o) (hx:ts[i]?=some x) (he:o.op=.alloc e) (hw:Bt ops x.1 o=true):∃ z,Ev P e=some z∧Nr ms ls (i0+i) (q+Rh os i) (cellsOf z) sts 0=true:=by
 induction os generalizing ts i0 i q with
 | nil=>simp at ho
 | cons y os ih =>
   cases ts with
   | nil=>simp at hx
   | cons t ts =>
     cases i with
     | zero =>
       simp at ho hx;subst ho hx
       simp only [Jc,he,hw,Bool.not_true,Bool.false_or,Bool.and_eq_true] at h
       have h1:=h.1
       split at h1
       · rename_i z hz;exact ⟨z,hz,h1⟩
       · cases h1
     | succ i =>
       simp only [Jc] at h
       split at h
       · rename_i e' he'
         rw [Bool.and_eq_true] at h
         have:=ih h.2 (by simpa using ho) (by simpa using hx)
         simp only [Rh,he',Bb]
         rwa [show i0+1+i=i0+(i+1) from by omega,Nat.add_assoc q] at this
       · rename_i hne
         have:=ih h (by simpa using ho) (by simpa using hx)
         have hna:Bb y.op=false:=by
           cases hya:Bb y.op with
           | false=>rfl
           | true=>obtain ⟨e',he'⟩:=EI hya;exact absurd he' (hne e')
         simp only [Rh,hna,Nat.zero_add]
         rwa [show i0+1+i=i0+(i+1) from by omega] at this
theorem TS {l:List Oper} {r:List AT} (h:XB P l=some r):r.length=Rh l l.length:=by
 induction l generalizing r with
 | nil=>simp [XB] at h;subst h;rfl
 | cons o l ih =>
   simp only [XB] at h
   split at h
   · rename_i e he
     split at h
     · rename_i z r' hz hr
       cases h
       simp only [List.length_cons,Rh,he,Bb,ih hr];omega
     · cases h
   · rename_i hne
     have hna:Bb o.op=false:=by
       cases hya:Bb o.op with
       | false=>rfl
       | true=>obtain ⟨e',he'⟩:=EI hya;exact absurd he' (hne e')
     simp only [List.length_cons,Rh,hna,ih h];omega
theorem GF {o:Oper} {e:TypeId} (h:o.op=.alloc e):quiet o.op=false:=by rw [h];rfl
theorem Zk {id:Nat} {fr fr':List AV} {s s':AS} {r:List AT} {t:List (List AV×AS×AV)} (hord:GM ops=true) (hr:XB P ops.toList=some r) (h:HV P G X H ops s.nx ops.toList fr (s.hold r) t fr' s') (hst:MD P G ops t s' s.nx r=true):J P G X H (.code (.region id ops true) fr s .normal fr' s'):=by
 have hlen:t.length=ops.size:=by rw [h.len,Array.length_toList]
 have hst0:Pj P G ops t s'=true:=by
   unfold MD at hst
   split at hst
   · assumption
   · cases hst
 have hst1:JC P ops t s' s.nx r=true:=by
   unfold MD at hst
   split at hst
   · exact hst
   · cases hst
 obtain ⟨h0,hat⟩:=h.at
 have hdst:∀ i o,ops[i]?=some o→BI ops i=o.dst:=fun i o ho=>by unfold BI;rw [ho];rfl
 obtain ⟨hfin,hfrs⟩:=h.Nf (BI ops) (Ee t) fr 0 rfl (fun i o ho=>by rw [Nat.zero_add];exact hdst i o (by rw [← Array.getElem?_toList];exact ho)) (fun i=>.inl (by rw [Nat.zero_add]))
 rw [Nat.zero_add,Array.length_toList] at hfin
 have hall:∀ i o,ops[i]?=some o→Bb o.op=false→J P G X H (.op ops o (Ff fr (BI ops) (Ee t) (fun _=>true) i) (Cp t s' i) (.ret (Ee t i)) (Cp t s' (i+1))):=by
   intro i o ho hna
   obtain ⟨fi,h1,h2⟩:=hat i o (Bd ho)
   have:=hfrs i _ h1
   simp only [Nat.zero_add] at this
   rcases h2 with ⟨_,h2⟩ | ⟨h2,_⟩
   · rw [← this]
     exact h2
   · rw [hna] at h2;cases h2
 have hallA:∀ i o,ops[i]?=some o→Bb o.op=true→Cp t s' (i+1)=Cp t s' i∧Ee t i=FJ ops (Ff fr (BI ops) (Ee t) (fun _=>true) i) o (s.nx+rk ops i):=by
   intro i o ho hya
   obtain ⟨fi,h1,h2⟩:=hat i o (Bd ho)
   have:=hfrs i _ h1
   simp only [Nat.zero_add] at this
   rcases h2 with ⟨h2,_⟩ | ⟨_,h2⟩
   · rw [hya] at h2;cases h2
   · rw [← this]
     exact h2
 have hna:∀ o:Oper,quiet o.op=true→Bb o.op=false:=by
   intro o hq
   cases hya:Bb o.op with
   | false=>rfl
   | true=>obtain ⟨e,he⟩:=EI hya;rw [GF he] at hq;cases hq
 have hnl:∀ o:Oper,calm o.op=false→Bb o.op=false:=by
   intro o hq
   cases hya:Bb o.op with
   | false=>rfl
   | true=>unfold calm at hq;rw [hya] at hq;cases hq
 have hsn:Cp t s' ops.size=s':=by
   unfold Cp
   rw [List.getElem?_eq_none (by omega)]
 have hsk:∀ k,k≤ops.size→(t.map (fun x=>x.2.1)++[s'])[k]?=some (Cp t s' k):=by
   intro k hk
   unfold Cp
   by_cases hkt:k < t.length
   · rw [List.getElem?_append_left (by simpa using hkt),List.getElem?_map,List.getElem?_eq_getElem hkt];rfl
   · have:k=t.length:=by omega
     subst this
     rw [List.getElem?_append_right (by simp)]
     simp
 have hloud:∀ l,l∈EP ops.toList 0→LG ops l:=by
   intro l hl
   obtain ⟨j,o',e,h5,h6⟩:=KK hl
   rw [Nat.zero_add] at e
   subst e
   exact ⟨o',by rw [← Array.getElem?_toList];exact h5,h6⟩
 have hquiet:∀ i o,ops[i]?=some o→calm o.op=true→Cp t s' (i+1)=Cp t s' i:=by
   intro i o ho hq
   rcases Kg hq with hq | ⟨e,he⟩
   · exact (Eo hq (hall i o ho (hna o hq))).1
   · exact (hallA i o ho (by rw [he];rfl)).1
 have key:=J.draw (P:=P) (G:=G) (X:=X) (H:=H) (id:=id) (f0:=fr) (s0:=s) r (Ee t) (Cp t s') h0 hord (fun i o ho hl=>hall i o ho (hnl o hl)) (fun i o ho hq=>by
   obtain ⟨h1,h2⟩:=Eo hq (hall i o ho (hna o hq))
   refine ⟨h1,?_⟩
   rcases h2 with h2 | ⟨hw,h2⟩
   · exact .inl h2
   · refine .inr ⟨hw,fun k hk hwin=>?_⟩
     cases hr:reads o.op with
     | false=>exact IJ hq hr h2 _
     | true =>
       unfold Pj at hst0
       split at hst0
       · rename_i hls
         have hno:∀ m,¬ LG ops m:=by
           rintro m ⟨y,hy,hyq⟩
           have:=Qf (i:=0) (Bd hy) hyq
           rw [hls] at this;cases this
         have hi:=(Array.getElem?_eq_some_iff.1 ho).1
         have e1:Cp t s' 0=Cp t s' k:=M5 hquiet k (Nat.zero_le _) hk (fun m _ _=>hno m)
         have e2:Cp t s' 0=Cp t s' i:=M5 hquiet i (Nat.zero_le _) (by omega) (fun m _ _=>hno m)
         rw [← e1,e2]
         exact h2
       · obtain ⟨fi,hti,_⟩:=hat i o (Bd ho)
         have hfi:=hfrs i _ hti
         simp only [Nat.zero_add] at hfi
         have hs2:=Sw hst0 (Bd ho) hti (by rw [hq,hr];rfl) (by rw [hfi];exact hw)
         rw [Nat.zero_add] at hs2
         obtain ⟨s2,hs3⟩:=RW hs2 (hsk k hk) (by
           rw [Nat.zero_add]
           exact Pl hloud hwin)
         obtain ⟨v',e⟩:=JA hq hs3
         injection e with _ e2
         subst e2
         rw [← hfi]
         exact hs3) (fun i o e ho he=>by
   have hya:Bb o.op=true:=by rw [he];rfl
   obtain ⟨h1,h2⟩:=hallA i o ho hya
   refine ⟨h1,?_⟩
   have hrk:rk ops i < r.length:=by
     rw [TS hr]
     exact Pz (Bd ho) hya (by rw [Array.length_toList];exact (Array.getElem?_eq_some_iff.1 ho).1)
   cases hw:Bt ops (Ff fr (BI ops) (Ee t) (fun _=>true) i) o with
   | false=>unfold FJ at h2;rw [hw] at h2;exact .inl ⟨rfl,h2⟩
   | true =>
     unfold FJ at h2;rw [hw] at h2
     obtain ⟨fi,hti,_⟩:=hat i o (Bd ho)
     have hfi:=hfrs i _ hti
     simp only [Nat.zero_add] at hfi
     have hal:Jc P ops (E5 ops.toList []) (EP ops.toList 0) (t.map (·.2.1)++[s']) ops.toList t 0 s.nx=true:=by
       unfold JC at hst1
       split at hst1
       · simp at hrk
       · exact hst1
     obtain ⟨z,hz,hbx⟩:=Oy hal (Bd ho) hti he (by rw [hfi];exact hw)
     rw [Nat.zero_add] at hbx
     exact .inr ⟨rfl,z,hz,hrk,h2,fun k hk hwin=>OW hbx (hsk k hk) (by rw [Nat.zero_add];exact Pl hloud hwin)⟩)
 rw [← hfin,hsn] at key
 exact key
end
end AI
namespace AI
open Go Go.RowKit
def p9:Int→Bool
 | .ofNat m=>Nat.ble m 9223372036854775807
 | .negSucc m=>Nat.ble m 9223372036854775807
def I2 (k:IntKind) (n:Int):Int:=match k with
 | .i64=>(match p9 n with | true=>n | false=>IntKind.i64.wrap n)
 | k=>k.wrap n
theorem dY {n:Int} (h:p9 n=true):IntKind.i64.wrap n=n:=by
 refine IntWalk.i64_in n ?_
 cases n with
 | ofNat m =>
   have:=Nat.le_of_ble_eq_true h
   have e:Int.ofNat m=(m:Int):=rfl
   rw [e]
   have h2:(m:Int)≤9223372036854775807:=Int.ofNat_le.2 this
   have h3:(0:Int)≤m:=Int.natCast_nonneg m
   omega
 | negSucc m =>
   have:=Nat.le_of_ble_eq_true h
   rw [Int.negSucc_eq]
   constructor
   · have e:(-9223372036854775808:Int)=-(9223372036854775807+1):=rfl
     rw [e]
     have h2:(m:Int)≤9223372036854775807:=Int.ofNat_le.2 this
     omega
   · have h2:(0:Int)≤m:=Int.natCast_nonneg m
     omega
theorem MC (k:IntKind) (n:Int):I2 k n=k.wrap n:=by
 cases k<;>try rfl
 simp only [I2]
 cases h:p9 n with
 | true=>exact (dY h).symm
 | false=>rfl
def VW:Int→Int→Int
 | .ofNat a,.ofNat b=>.ofNat (Nat.add a b)
 | a,b=>a+b
theorem PK (a b:Int):VW a b=a+b:=by cases a<;>cases b<;>rfl
def kL (a b:Nat):Int:=match Nat.ble b a with
 | true=>.ofNat (Nat.sub a b)
 | false=>(a:Int) - (b:Int)
def Zx:Int→Int→Int
 | .ofNat a,.ofNat b=>kL a b
 | a,b=>a - b
theorem S8 (a b:Int):Zx a b=a - b:=by
 cases a<;>cases b<;>try rfl
 rename_i a b
 simp only [Zx,kL]
 cases h:Nat.ble b a with
 | true =>
   have:=Nat.le_of_ble_eq_true h
   show Int.ofNat (a - b)=(a:Int) - (b:Int)
   exact Int.ofNat_sub this
 | false=>rfl
def CN:Int→Int→Bool
 | .ofNat a,.ofNat b=>Nat.beq a b
 | .negSucc a,.negSucc b=>Nat.beq a b
 | _,_=>false
theorem IK (a b:Int):CN a b=(a == b):=by
 cases a<;>cases b<;>simp only [CN]
 · rename_i a b
   rw [Bool.eq_iff_iff,beq_iff_eq,Int.ofNat.injEq]
   exact ⟨fun h=>Nat.eq_of_beq_eq_true h,fun h=>by subst h;exact Nat.beq_refl a⟩
 · rw [Bool.eq_iff_iff,beq_iff_eq];exact ⟨fun h=>by simp at h,fun h=>by cases h⟩
 · rw [Bool.eq_iff_iff,beq_iff_eq];exact ⟨fun h=>by simp at h,fun h=>by cases h⟩
 · rename_i a b
   rw [Bool.eq_iff_iff,beq_iff_eq,Int.negSucc.injEq]
   exact ⟨fun h=>Nat.eq_of_beq_eq_true h,fun h=>by subst h;exact Nat.beq_refl a⟩
def OB:Int→Int→Bool
 | .ofNat a,.ofNat b=>Nat.ble a b
 | a,b=>decide (a≤b)
theorem Vb (a b:Int):OB a b=decide (a≤b):=by
 cases a<;>cases b<;>try rfl
 rename_i a b
 simp only [OB]
 rw [Bool.eq_iff_iff,decide_eq_true_iff]
 show _↔(a:Int)≤(b:Int)
 rw [Int.ofNat_le]
 exact ⟨Nat.le_of_ble_eq_true,Nat.ble_eq_true_of_le⟩
def Fu:Int→Int→Bool
 | .ofNat a,.ofNat b=>Nat.ble (Nat.succ a) b
 | a,b=>decide (a < b)
theorem IG (a b:Int):Fu a b=decide (a < b):=by
 cases a<;>cases b<;>try rfl
 rename_i a b
 simp only [Fu]
 rw [Bool.eq_iff_iff,decide_eq_true_iff]
 show _↔(a:Int) < (b:Int)
 rw [Int.ofNat_lt]
 exact ⟨Nat.le_of_ble_eq_true,Nat.ble_eq_true_of_le⟩
def sameKind:IntKind→IntKind→Bool
 | .i64,.i64=>true
 | .u8,.u8=>true
 | _,_=>false
theorem LS {a b:IntKind} (h:sameKind a b=true):a=b:=by cases a<;>cases b<;>first | rfl | cases h
def Yw (k:IntKind) (a b:Int):BinOp→Option Value
 | .add=>some (.int k (I2 k (VW a b)))
 | .sub=>some (.int k (I2 k (Zx a b)))
 | .mul=>some (.int k (I2 k (a*b)))
 | .eql=>some (.bool (CN a b))
 | .neq=>some (.bool (!CN a b))
 | .lss=>some (.bool (Fu a b))
 | .leq=>some (.bool (OB a b))
 | .gtr=>some (.bool (Fu b a))
 | .geq=>some (.bool (OB b a))
 | _=>none
theorem Yd {P:Program} {op:BinOp} {k:IntKind} {a b:Int} {t:TypeId} {xo yo:Operand} {v:Value} (h:Yw k a b op=some v):pv P (do eqGuard op t xo yo (.int k a) (.int k b);binOp op t (.int k a) (.int k b))=some v∧scalar v=true:=by
 cases op<;>simp only [Yw,Option.some.injEq,reduceCtorEq] at h<;>subst h<;>refine ⟨?_,rfl⟩<;>simp [eqGuard,binOp,Op.intArith,Op.intCmp,pv,MC,PK,S8,IK,IG,Vb,bne,Bind.bind,Sem.bind,Pure.pure]
def Cu:List UInt8→List UInt8→Bool
 | [],[]=>true
 | a::l,b::m=>(match Nat.beq a.toNat b.toNat with
   | true=>Cu l m
   | false=>false)
 | _,_=>false
theorem MO (l m:List UInt8):Cu l m=(l == m):=by
 induction l generalizing m with
 | nil=>cases m<;>rfl
 | cons a l ih =>
   cases m with
   | nil=>rfl
   | cons b m =>
     simp only [Cu]
     cases h:Nat.beq a.toNat b.toNat with
     | true =>
       have:a=b:=UInt8.toNat_inj.1 (Nat.eq_of_beq_eq_true h)
       subst this
       simp only [ih]
       simp
     | false =>
       have:a≠b:=fun e=>by subst e;have:=Nat.ne_of_beq_eq_false h;exact this rfl
       simp [this]
def gA (x y:ByteArray):BinOp→Option Value
 | .eql=>some (.bool (Cu x.data.toList y.data.toList))
 | .neq=>some (.bool (!Cu x.data.toList y.data.toList))
 | op=>UH op x y
theorem Z0 (x y:ByteArray) (op:BinOp):gA x y op=UH op x y:=by cases op<;>simp only [gA,UH,MO]
def WR (v:Option Value):Option AV:=match v with
 | some v=>(match scalar v with | true=>some (.sc v) | false=>none)
 | none=>none
theorem Vu (v:Option Value):WR v=v.bind Pd:=by
 cases v with
 | none=>rfl
 | some v=>simp only [WR,Option.bind_some,Pd];cases scalar v<;>rfl
def PB (P:Program) (op:BinOp) (t:TypeId) (xo yo:Operand) (x y:Value):Option AV :=
 match x with
 | .int k a=>(match y with
   | .int k' b=>(match sameKind k k' with
     | true=>(match Yw k a b op with
       | some v=>some (.sc v)
       | none=>Hx P op t xo yo (.sc (.int k a)) (.sc (.int k' b)))
     | false=>Hx P op t xo yo (.sc (.int k a)) (.sc (.int k' b)))
   | y=>Hx P op t xo yo (.sc (.int k a)) (.sc y))
 | .string a=>(match y with
   | .string b=>WR (gA a b op)
   | y=>Hx P op t xo yo (.sc (.string a)) (.sc y))
 | x=>Hx P op t xo yo (.sc x) (.sc y)
def No (P:Program) (op:BinOp) (t:TypeId) (xo yo:Operand) (a b:AV):Option AV :=
 match a with
 | .sc x=>(match b with
   | .sc y=>PB P op t xo yo x y
   | b=>Hx P op t xo yo (.sc x) b)
 | a=>Hx P op t xo yo a b
theorem Nj (P:Program) (op:BinOp) (t:TypeId) (xo yo:Operand) (a b:AV):No P op t xo yo a b=Hx P op t xo yo a b:=by
 unfold No
 cases a with
 | sc x =>
   cases b with
   | sc y =>
     simp only [PB]
     cases x with
     | int k a =>
       cases y with
       | int k' b =>
         simp only
         cases hk:sameKind k k' with
         | false=>rfl
         | true =>
           have:=LS hk
           subst this
           simp only
           cases hf:Yw k a b op with
           | none=>rfl
           | some v =>
             obtain ⟨h1,h2⟩:=Yd (P:=P) (t:=t) (xo:=xo) (yo:=yo) hf
             simp [Hx,K7,LL,h1,Pd,h2]
       | _=>rfl
     | string a =>
       cases y with
       | string b=>simp only [Vu,Z0];rfl
       | _=>rfl
     | _=>rfl
   | _=>rfl
 | _=>rfl
def Xt:List UInt8→Nat→Option UInt8
 | [],_=>none
 | a::_,0=>some a
 | _::l,n+1=>Xt l n
theorem Y1 (l:List UInt8) (n:Nat):Xt l n=l[n]?:=by
 induction l generalizing n with
 | nil=>simp [Xt]
 | cons a l ih=>cases n<;>simp [Xt,ih]
def oD:Option UInt8→Option AV
 | some b=>some (.sc (.int .u8 (.ofNat b.toNat)))
 | none=>none
def Mk (P:Program) (t:TypeId) (x ix:AV):Option AV :=
 match x with
 | .sc (.string s)=>(match P.underlying t with
   | some .string=>(match IW ix with
     | some i=>oD (Xt s.data.toList i)
     | none=>none)
   | _=>F5 P t (.sc (.string s)) ix)
 | x=>F5 P t x ix
theorem Sl (P:Program) (t:TypeId) (x ix:AV):Mk P t x ix=F5 P t x ix:=by
 unfold Mk
 cases x with
 | sc v =>
   cases v with
   | string s =>
     simp only
     split
     · rename_i hu
       unfold F5
       rw [hu]
       cases IW ix with
       | none=>rfl
       | some i =>
         simp only [Y1]
         cases s.data.toList[i]?<;>rfl
     · rfl
   | _=>rfl
 | _=>rfl
end AI
namespace AI
open Go Go.RowKit
def nth:List AV→Nat→AV
 | [],_=>.sc undef
 | a::_,0=>a
 | _::l,n+1=>nth l n
theorem WW (l:List AV) (n:Nat):nth l n=l.getD n (.sc undef):=by
 induction l generalizing n with
 | nil=>simp [nth]
 | cons a l ih=>cases n<;>simp [nth,ih]
def uS:Option (List AV)→Option AV
 | some cs=>some (.el cs)
 | none=>none
def AH (G:AY) (fr:List AV):Operand→Option AV
 | .tmp t=>some (nth fr t)
 | .const v=>LI v
 | .global g=>uS (G g)
 | .func f=>some (.fn (.func f) [] [])
theorem Bx (G:AY) (fr:List AV) (x:Operand):AH G fr x=A4 G fr x:=by
 cases x with
 | tmp t=>simp only [AH,A4,WW]
 | const v=>rfl
 | global g=>simp only [AH,A4];cases G g<;>rfl
 | func f=>rfl
def GA (s:AS):Option AV→Option AR
 | some v=>some (.val v s)
 | none=>none
theorem IE (s:AS) (o:Option AV):GA s o=o.map (fun v=>.val v s):=by cases o<;>rfl
def QV:Option AS→Option AR
 | some s=>some (.val (.sc undef) s)
 | none=>none
theorem ZL (o:Option AS):QV o=o.map (fun s=>.val (.sc undef) s):=by cases o<;>rfl
def Uq:Option (AV×AS)→Option AR
 | some r=>some (.val r.1 r.2)
 | none=>none
theorem Tb (o:Option (AV×AS)):Uq o=o.map (fun r=>.val r.1 r.2):=by cases o<;>rfl
def Pf {α β:Type} (o:Option α) (f:α→Option β):Option β:=match o with
 | some a=>f a
 | none=>none
theorem P3 {α β:Type} (o:Option α) (f:α→Option β):Pf o f=o.bind f:=by cases o<;>rfl
def two {β:Type} (a b:Option AV) (f:AV→AV→Option β):Option β:=match a with
 | some x=>(match b with
   | some y=>f x y
   | none=>none)
 | none=>none
def three {β:Type} (a b d:Option AV) (f:AV→AV→AV→Option β):Option β:=match a with
 | some x=>(match b with
   | some y=>(match d with
     | some z=>f x y z
     | none=>none)
   | none=>none)
 | none=>none
def aO (x y:Option AV):Option AV→Option AV
 | some (.sc (.bool t))=>(match t with | true=>x | false=>y)
 | _=>none
def VF (s:AS):Option AV→Option AR
 | some z=>some (.val (.ptr s.nx 0) (s.new (.cells (cellsOf z))))
 | none=>none
def Tf (s:AS):Option AV→Option AR
 | some z=>(match I6 z with | true=>none | false=>some (.val (.ptr s.nx 0) (s.new (.cells (cellsOf z)))))
 | none=>none
def R6 (s:AS):Option AV→Option AR
 | some v=>(match notNil v with | true=>some (.val v s) | false=>none)
 | none=>none
def Rz (t:TypeId) (s:AS) (v:Option AV):Option TypeDesc→Option AR
 | some d=>(match v with
   | some v=>(match isIface d with | true=>none | false=>some (.val (.ifc t v) s))
   | none=>none)
 | none=>none
def func1 (f:Fn) (s:AS) (b:Option (List AV)):Option (List AV)→Option AR
 | some a=>(match b with
   | some b=>some (.val (.fn f a b) s)
   | none=>none)
 | none=>none
def Vi (P:Program) (s:AS) (t:TypeId) (l h m:Option (Option AV)):Option AV→Option AR
 | some a=>(match l with
   | some l=>(match h with
     | some h=>(match m with
       | some m=>GA s (Eh P t a l h m)
       | none=>none)
     | none=>none)
   | none=>none)
 | none=>none
def mU:Option AV→Option AR
 | some (.ifc t v)=>some (.pan (.ifc t v))
 | _=>none
def pH (P:Program) (as:Option (List AV)):Option AV→Option AR
 | some (.fn (.func g) first caps)=>(match as with
   | some as=>(match Je P g with | true=>some (.ent g (first++as++caps)) | false=>none)
   | none=>none)
 | _=>none
def o0 (P:Program) (G:AY) (fr:List AV) (s:AS):List Operand→List TypeId→Option AR
 | [x],[t]=>GA s (Pf (AH G fr x) (L6 P s t))
 | _,_=>none
def lY (P:Program) (G:AY) (fr:List AV) (s:AS):List Operand→List TypeId→Option AR
 | [x,y],[t,tx]=>Uq (two (AH G fr x) (AH G fr y) (GY P s t tx))
 | _,_=>none
def aV (P:Program) (s:AS) (f:List Value→Sem Value):Option (List Value)→Option AR
 | some vs=>GA s (L0 P (f vs))
 | none=>none
def SN (P:Program) (s:AS) (f:Value→Sem Value):Option Value→Option AR
 | some v=>GA s (L0 P (f v))
 | none=>none
def I8 (P:Program) (G:AY) (fr:List AV) (s:AS) (o:Oper) (cl:Call):Builtin→Option AR
 | .len=>o0 P G fr s cl.args.toList cl.argTypes.toList
 | .append=>lY P G fr s cl.args.toList cl.argTypes.toList
 | .max=>aV P s (fun vs=>Builtin.max_ cl.argTypes o.type vs.toArray) (Pf (Oa G fr cl.args.toList) HN)
 | .min=>aV P s (fun vs=>Builtin.min_ cl.argTypes o.type vs.toArray) (Pf (Oa G fr cl.args.toList) HN)
 | _=>none
def P4 (P:Program) (G:AY) (fr:List AV) (s:AS) (o:Oper) (cl:Call):Option AR :=
 match cl.callee with
 | .builtin b=>I8 P G fr s o cl b
 | .value f=>pH P (Oa G fr cl.args.toList) (AH G fr f)
 | _=>none
def Rc (s:AS):Option Operand→Option AR
 | none=>some (.val (.mp s.nx) (s.new (.map [] 0)))
 | some _=>none
def J1 (P:Program) (G:AY) (fr:List AV) (s:AS) (o:Oper):Option AR :=
 match o.op with
 | .move x=>GA s (AH G fr x)
 | .assign x=>GA s (AH G fr x)
 | .pick c a b=>GA s (aO (AH G fr a) (AH G fr b) (AH G fr c))
 | .alloc e=>VF s (Ev P e)
 | .box _ x=>Tf s (AH G fr x)
 | .build t ps=>GA s (Pf (Gc G fr ps.toList) (Nc P t))
 | .buildSlice t n ps=>GA s (Pf (Gc G fr ps.toList) (Gn P t n))
 | .load t a=>GA s (Pf (AH G fr a) (E7 P s t))
 | .store t a x=>QV (two (AH G fr a) (AH G fr x) (F3 P s t))
 | .nilCheck x=>R6 s (AH G fr x)
 | .binOp op t x y _=>GA s (two (AH G fr x) (AH G fr y) (No P op t x y))
 | .unOp op _ x=>SN P s (Op.unary op) (Pf (AH G fr x) It)
 | .convert src dst x=>SN P s (convert src dst) (Pf (AH G fr x) It)
 | .makeInterface t x=>Rz t s (AH G fr x) (P.underlying t)
 | .makeFunc f first caps=>func1 f s (Oa G fr caps.toList) (Oa G fr first.toList)
 | .makeMap _ r=>Rc s r
 | .makeSlice t l c=>Uq (two (AH G fr l) (AH G fr c) (Ek P s t))
 | .slice t x lo hi mx=>Vi P s t (P5 G fr lo) (P5 G fr hi) (P5 G fr mx) (AH G fr x)
 | .fieldAddr t x k=>GA s (Pf (AH G fr x) fun a=>IZ P t a k)
 | .field t x k=>GA s (Pf (AH G fr x) fun a=>NR P t a k)
 | .indexAddr t x i=>GA s (two (AH G fr x) (AH G fr i) (BV P t))
 | .index t x i=>GA s (two (AH G fr x) (AH G fr i) (Mk P t))
 | .lookup t x k ok=>GA s (two (AH G fr x) (AH G fr k) fun a b=>DQ P s t a b ok)
 | .mapUpdate t m k x=>QV (three (AH G fr m) (AH G fr k) (AH G fr x) (ER P s t))
 | .insert t m k x=>QV (three (AH G fr m) (AH G fr k) (AH G fr x) (ER P s t))
 | .mapEntry t m k=>Uq (two (AH G fr m) (AH G fr k) (Ip P s t))
 | .entryStore _ m st x=>QV (three (AH G fr m) (AH G fr st) (AH G fr x) (Gr s))
 | .extract x k=>GA s (Pf (AH G fr x) fun a=>I5 a k)
 | .call cl=>P4 P G fr s o cl
 | .panic x=>mU (AH G fr x)
 | _=>none
theorem TY (P:Program) (G:AY) (fr:List AV) (s:AS) (o:Oper) (cl:Call):P4 P G fr s o cl=JY P G fr s o cl:=by
 unfold P4 JY
 cases hc:cl.callee with
 | value f =>
   simp only [Bx]
   cases A4 G fr f with
   | none=>rfl
   | some v =>
     cases v with
     | fn g a b =>
       cases g with
       | func g =>
         cases Oa G fr cl.args.toList with
         | none=>rfl
         | some as =>
           simp only [pH]
           cases Je P g<;>rfl
       | _=>rfl
     | _=>rfl
 | invoke r m=>rfl
 | builtin b =>
   cases b<;>try rfl
   · simp only [I8]
     cases hx:cl.args.toList with
     | nil=>rfl
     | cons x xs =>
       cases xs with
       | nil=>rfl
       | cons y ys =>
         cases ys with
         | cons z zs=>rfl
         | nil =>
           cases ht:cl.argTypes.toList with
           | nil=>rfl
           | cons t ts =>
             cases ts with
             | nil=>rfl
             | cons u us =>
               cases us with
               | cons v vs=>rfl
               | nil =>
                 simp only [lY,Bx]
                 cases A4 G fr x<;>cases A4 G fr y<;>first | rfl | exact Tb _
   · simp only [I8]
     cases hx:cl.args.toList with
     | nil=>rfl
     | cons x xs =>
       cases xs with
       | cons y ys=>rfl
       | nil =>
         cases ht:cl.argTypes.toList with
         | nil=>rfl
         | cons t ts =>
           cases ts with
           | cons u us=>rfl
           | nil=>simp only [o0,Bx,P3];exact IE _ _
   · simp only [I8,P3]
     cases (Oa G fr cl.args.toList).bind HN with
     | none=>rfl
     | some vs=>exact IE _ _
   · simp only [I8,P3]
     cases (Oa G fr cl.args.toList).bind HN with
     | none=>rfl
     | some vs=>exact IE _ _
theorem Ga (P:Program) (G:AY) (fr:List AV) (s:AS) (o:Oper):J1 P G fr s o=Ir P G fr s o:=by
 unfold J1 Ir
 cases ho:o.op<;>simp only [Bx,IE,ZL,Tb,P3,TY]
 case pick c a b =>
   cases A4 G fr c with
   | none=>rfl
   | some v =>
     cases v with
     | sc u=>cases u<;>first | rfl | (rename_i t;cases t<;>rfl)
     | _=>rfl
 case alloc e=>cases Ev P e<;>rfl
 case box e x =>
   cases A4 G fr x with
   | none=>rfl
   | some v=>cases v<;>rfl
 case store t a x=>cases A4 G fr a<;>cases A4 G fr x<;>rfl
 case nilCheck x =>
   cases A4 G fr x with
   | none=>rfl
   | some v=>simp only [R6];cases notNil v<;>rfl
 case binOp op t x y z=>cases A4 G fr x<;>cases A4 G fr y<;>first | rfl | (simp only [two,Nj])
 case unOp op t x=>cases (A4 G fr x).bind It with
   | none=>rfl
   | some v=>exact IE _ _
 case convert a b x=>cases (A4 G fr x).bind It with
   | none=>rfl
   | some v=>exact IE _ _
 case makeInterface t x =>
   cases A4 G fr x with
   | none=>cases P.underlying t<;>rfl
   | some v =>
     cases P.underlying t with
     | none=>rfl
     | some d=>simp only [Rz];cases isIface d<;>rfl
 case makeFunc f a b=>cases Oa G fr a.toList<;>cases Oa G fr b.toList<;>rfl
 case makeMap t r=>cases r<;>rfl
 case makeSlice t l c=>cases A4 G fr l<;>cases A4 G fr c<;>rfl
 case slice t x lo hi mx =>
   cases A4 G fr x<;>cases P5 G fr lo<;>cases P5 G fr hi<;>cases P5 G fr mx<;>first | rfl | exact IE _ _
 case indexAddr t x i=>cases A4 G fr x<;>cases A4 G fr i<;>rfl
 case index t x i=>cases A4 G fr x<;>cases A4 G fr i<;>first | rfl | (simp only [two,Sl])
 case lookup t x k ok=>cases A4 G fr x<;>cases A4 G fr k<;>rfl
 case mapUpdate t m k x=>cases A4 G fr m<;>cases A4 G fr k<;>cases A4 G fr x<;>rfl
 case insert t m k x=>cases A4 G fr m<;>cases A4 G fr k<;>cases A4 G fr x<;>rfl
 case mapEntry t m k=>cases A4 G fr m<;>cases A4 G fr k<;>rfl
 case entryStore t m k x=>cases A4 G fr m<;>cases A4 G fr k<;>cases A4 G fr x<;>rfl
 case panic x =>
   cases A4 G fr x with
   | none=>rfl
   | some v=>cases v<;>rfl
end AI
namespace AI
open Go Go.RowKit
abbrev Rec:=Tk→Option Rs
def Uz (r:Rec) (y:Code):Option Rs→Option Rs
 | some (.code e fr s)=>(match e with
   | .normal=>r (.code y fr s)
   | e=>some (.code e fr s))
 | _=>none
def Tm (r:Rec) (x y:Code) (fr:List AV) (s:AS):Option AV→Option Rs
 | some (.sc (.bool t))=>(match t with
   | true=>r (.code x fr s)
   | false=>r (.code y fr s))
 | _=>none
def Sb (id:Nat):Option Rs→Option Rs
 | some (.code e fr s)=>some (.code (DR id e) fr s)
 | _=>none
def Qb:Option Rs→Option Rs
 | some (.code e fr s)=>some (.code e fr s)
 | _=>none
def aY (P:Program) (G:AY) (ops:Array Oper) (q:Nat) (rs:List AT):Option Rs→Option Rs
 | some (.tr t fr s)=>(match MD P G ops t s q rs with
   | true=>some (.code .normal fr s)
   | false=>none)
 | _=>none
def bJ (P:Program) (G:AY) (r:Rec) (ops:Array Oper) (fr:List AV) (s:AS):Option (List AT)→Option Rs
 | some rs=>aY P G ops s.nx rs (r (.draw ops ops.toList fr (s.hold rs) s.nx))
 | none=>none
def bK (P:Program) (G:AY) (r:Rec) (ops:Array Oper) (fr:List AV) (s:AS):Bool→Option Rs
 | true=>bJ P G r ops fr s (XB P ops.toList)
 | false=>none
def Mw (P:Program) (G:AY) (r:Rec) (ops:Array Oper) (fr:List AV) (s:AS):Bool→Option Rs
 | false=>Qb (r (.ops ops ops.toList fr s))
 | true=>bK P G r ops fr s (GM ops)
def EN (P:Program) (G:AY) (r:Rec) (fr:List AV) (s:AS):Code→Option Rs
 | .skip=>some (.code .normal fr s)
 | .exit id=>some (.code (.exit id) fr s)
 | .ret=>some (.code .ret fr s)
 | .seq x y=>Uz r y (r (.code x fr s))
 | .cond q x y=>Tm r x y fr s (AH G fr q)
 | .block id c=>Sb id (r (.code c fr s))
 | .loop c=>Qb (r (.loop c fr s))
 | .region _ ops d=>Mw P G r ops fr s d
 | _=>none
def Ol (r:Rec) (c:Code):Option Rs→Option Rs
 | some (.code e fr s)=>(match e with
   | .normal=>r (.loop c fr s)
   | e=>some (.code e fr s))
 | _=>none
def rF (r:Rec) (ops:Array Oper) (dst:Option Tmp) (l:List Oper) (fr:List AV):Option Rs→Option Rs
 | some (.call c s)=>(match c with
   | .ret v=>r (.ops ops l (GD fr dst v) s)
   | .pan v=>some (.code (.pan v) fr s))
 | _=>none
def YT (r:Rec) (ops:Array Oper) (fr:List AV) (s:AS):List Oper→Option Rs
 | []=>some (.code .normal fr s)
 | o::l=>rF r ops o.dst l fr (r (.op ops o fr s))
def pU (fr:List AV) (s:AS) (v:AV):Option Rs→Option Rs
 | some (.tr t fr1 s2)=>some (.tr ((fr,s,v)::t) fr1 s2)
 | _=>none
def Vk (r:Rec) (ops:Array Oper) (dst:Option Tmp) (l:List Oper) (fr:List AV) (s:AS) (q:Nat):Option Rs→Option Rs
 | some (.call (.ret v) s1)=>pU fr s v (r (.draw ops l (GD fr dst v) s1 q))
 | _=>none
def Wg (r:Rec) (ops:Array Oper) (o:Oper) (l:List Oper) (fr:List AV) (s:AS) (q:Nat) (v:AV):Option Rs:=pU fr s v (r (.draw ops l (GD fr o.dst v) s (q+1)))
def Rq (r:Rec) (ops:Array Oper) (o:Oper) (l:List Oper) (fr:List AV) (s:AS) (q:Nat):Bool→Option Rs
 | true=>Wg r ops o l fr s q (FJ ops fr o q)
 | false=>Vk r ops o.dst l fr s q (r (.op ops o fr s))
def Kx (r:Rec) (ops:Array Oper) (fr:List AV) (s:AS) (q:Nat):List Oper→Option Rs
 | []=>some (.tr [] fr s)
 | o::l=>Rq r ops o l fr s q (Bb o.op)
def aB:Option Rs→Option Rs
 | some (.call c s)=>some (.call c s)
 | _=>none
def nV (r:Rec) (s:AS):Option AR→Option Rs
 | some (.val v s1)=>some (.call (.ret v) s1)
 | some (.pan v)=>some (.call (.pan v) s)
 | some (.ent f args)=>aB (r (.call f args s))
 | none=>none
def MG (ops:Array Oper) (fr:List AV):Option (Nat×Bool)→Bool
 | none=>true
 | some p=>(match (ops[p.1]?).bind (·.dst) with
   | some d=>(match nth fr d with
     | .sc (.bool b)=>b == p.2
     | _=>false)
   | none=>false)
theorem UF (ops:Array Oper) (fr:List AV) (o:Oper):MG ops fr o.guard=Bt ops fr o:=by
 unfold MG Bt
 cases o.guard with
 | none=>rfl
 | some p =>
   obtain ⟨j,want⟩:=p
   simp only
   cases (ops[j]?).bind (·.dst) with
   | none=>rfl
   | some d =>
     simp only [WW,List.getD_eq_getElem?_getD]
     cases fr[d]? with
     | none=>rfl
     | some v =>
       cases v with
       | sc u=>cases u<;>rfl
       | _=>rfl
def jJ (P:Program) (G:AY) (r:Rec) (fr:List AV) (s:AS) (o:Oper):Bool→Option Rs
 | true=>nV r s (J1 P G fr s o)
 | false=>some (.call (.ret (.sc undef)) s)
def cF (k:CR→Option CR):Option Rs→Option Rs
 | some (.call c s)=>(match k c with
   | some c1=>some (.call c1 s)
   | none=>none)
 | _=>none
def Yk (s:AS) (n:Nat):Option AV→Option Rs
 | some v=>some (.call (.ret v) (fin v s n))
 | none=>none
def QJ (P:Program) (fn:Func) (n:Nat):Option Rs→Option Rs
 | some (.code e fr s)=>(match e with
   | .normal=>Yk s n (D4 P s fn fr)
   | .ret=>Yk s n (D4 P s fn fr)
   | .pan v=>some (.call (.pan v) (s.cut n))
   | .exit _=>none)
 | _=>none
def aT (P:Program) (r:Rec) (fn:Func) (args:List AV) (s:AS):Option Code→Option Rs
 | some c=>QJ P fn s.nx (r (.code c (args++List.replicate (fn.ntmps - args.length) (.sc undef)) s))
 | none=>none
def RK (P:Program) (r:Rec) (args:List AV) (s:AS):Option Func→Option Rs
 | some fn=>aT P r fn args s fn.body
 | none=>none
def Wu (P:Program) (r:Rec) (f:FuncId) (args:List AV) (s:AS):Option (FuncId×List AV×(CR→Option CR))→Option Rs
 | some (g,gargs,k)=>cF k (r (.call g gargs s))
 | none=>RK P r args s P.funcs[f]?
def Zo (P:Program) (H:Ii) (r:Rec) (f:FuncId) (args:List AV) (s:AS):Option (CR×AS)→Option Rs
 | some (c,s1)=>some (.call c s1)
 | none=>Wu P r f args s (H f args)
def step (P:Program) (G:AY) (X:L1) (H:Ii) (r:Rec):Tk→Option Rs
 | .code c fr s=>EN P G r fr s c
 | .loop c fr s=>Ol r c (r (.code c fr s))
 | .ops ops l fr s=>YT r ops fr s l
 | .draw ops l fr s q=>Kx r ops fr s q l
 | .op ops o fr s=>jJ P G r fr s o (MG ops fr o.guard)
 | .call f args s=>Zo P H r f args s (X f args s)
end AI
namespace AI
open Go Go.RowKit
noncomputable def fG (l:List AV):Nat→AV:=List.rec (motive:=fun _=>Nat→AV) (fun _=>.sc undef) (fun a _ ih n=>Nat.rec (motive:=fun _=>AV) a (fun k _=>ih k) n) l
theorem Zv (l:List AV) (n:Nat):fG l n=nth l n:=by
 induction l generalizing n with
 | nil=>rfl
 | cons a l ih=>cases n with
   | zero=>rfl
   | succ n=>exact ih n
noncomputable def cL (v:AV) (l:List AV):Nat→List AV:=List.rec (motive:=fun _=>Nat→List AV) (fun _=>[]) (fun a t ih n=>Nat.rec (motive:=fun _=>List AV) (v::t) (fun k _=>a::ih k) n) l
theorem Zy (v:AV) (l:List AV) (n:Nat):cL v l n=l.set n v:=by
 induction l generalizing n with
 | nil=>rfl
 | cons a l ih=>cases n with
   | zero=>rfl
   | succ n=>show a::cL v l n=_;rw [ih];rfl
noncomputable def aR (fr:List AV) (dst:Option Tmp) (v:AV):List AV:=Option.rec (motive:=fun _=>List AV) fr (fun d=>cL v fr d) dst
theorem VK (fr:List AV) (dst:Option Tmp) (v:AV):aR fr dst v=GD fr dst v:=by cases dst with
 | none=>rfl
 | some d=>exact Zy v fr d
abbrev Sm:=Program→AY→List AV→AS→Oper→Option AR
noncomputable def eW (t:Tmp) (_:AY) (fr:List AV):Option AV:=some (fG fr t)
def ZN (v:Value) (_:AY) (_:List AV):Option AV:=LI v
def hZ (g:Nat) (G:AY) (_:List AV):Option AV:=uS (G g)
def rK (f:FuncId) (_:AY) (_:List AV):Option AV:=some (.fn (.func f) [] [])
noncomputable def Xx (x:Operand):AY→List AV→Option AV:=Operand.rec (motive:=fun _=>AY→List AV→Option AV) eW ZN hZ rK x
theorem fD (x:Operand) (G:AY) (fr:List AV):Xx x G fr=AH G fr x:=by
 cases x with
 | tmp t=>show some (fG fr t)=some (nth fr t);rw [Zv]
 | const v=>rfl
 | global g=>rfl
 | func f=>rfl
noncomputable def N5 {α β:Type} (o:Option α) (f:α→Option β):Option β:=Option.rec (motive:=fun _=>Option β) none f o
theorem ZD {α β:Type} (o:Option α) (f:α→Option β):N5 o f=Pf o f:=by cases o<;>rfl
def lM (s:AS) (v:AV):Option AR:=some (.val v s)
noncomputable def Sa (s:AS) (o:Option AV):Option AR:=N5 o (lM s)
theorem Yx (s:AS) (o:Option AV):Sa s o=GA s o:=by cases o<;>rfl
noncomputable def Py (x:Operand):Sm:=fun _ G fr s _=>Sa s (Xx x G fr)
def YA (c a b:Operand):Sm:=fun _ G fr s _=>GA s (aO (AH G fr a) (AH G fr b) (AH G fr c))
def Vo (e:TypeId):Sm:=fun P _ _ s _=>VF s (Ev P e)
def hP (_:TypeId) (x:Operand):Sm:=fun _ G fr s _=>Tf s (AH G fr x)
def VX (t:TypeId) (ps:Array (Nat×Operand)):Sm:=fun P G fr s _=>GA s (Pf (Gc G fr ps.toList) (Nc P t))
def Oe (t:TypeId) (n:Nat) (ps:Array (Nat×Operand)):Sm:=fun P G fr s _=>GA s (Pf (Gc G fr ps.toList) (Gn P t n))
noncomputable def Tv (t:TypeId) (a:Operand):Sm:=fun P G fr s _=>Sa s (N5 (Xx a G fr) (E7 P s t))
def Xb (t:TypeId) (a x:Operand):Sm:=fun P G fr s _=>QV (two (AH G fr a) (AH G fr x) (F3 P s t))
def dN (x:Operand):Sm:=fun _ G fr s _=>R6 s (AH G fr x)
noncomputable def WI (op:BinOp) (t:TypeId) (x y:Operand) (_:TypeId):Sm:=fun P G fr s _=>Sa s (N5 (Xx x G fr) (fun a=>N5 (Xx y G fr) (fun b=>No P op t x y a b)))
def nM (op:UnOp) (_:TypeId) (x:Operand):Sm:=fun P G fr s _=>SN P s (Op.unary op) (Pf (AH G fr x) It)
def ZR (src dst:TypeId) (x:Operand):Sm:=fun P G fr s _=>SN P s (convert src dst) (Pf (AH G fr x) It)
def VR (t:TypeId) (x:Operand):Sm:=fun P G fr s _=>Rz t s (AH G fr x) (P.underlying t)
def XL (f:Fn) (first caps:Array Operand):Sm:=fun _ G fr s _=>func1 f s (Oa G fr caps.toList) (Oa G fr first.toList)
def iF (_:TypeId) (r:Option Operand):Sm:=fun _ _ _ s _=>Rc s r
def Yl (t:TypeId) (l c:Operand):Sm:=fun P G fr s _=>Uq (two (AH G fr l) (AH G fr c) (Ek P s t))
def Va (t:TypeId) (x:Operand) (lo hi mx:Option Operand):Sm:=fun P G fr s _=>Vi P s t (P5 G fr lo) (P5 G fr hi) (P5 G fr mx) (AH G fr x)
noncomputable def OQ (t:TypeId) (x:Operand) (k:Nat):Sm:=fun P G fr s _=>Sa s (N5 (Xx x G fr) fun a=>IZ P t a k)
def U8 (t:TypeId) (x:Operand) (k:Nat):Sm:=fun P G fr s _=>GA s (Pf (AH G fr x) fun a=>NR P t a k)
noncomputable def OE (t:TypeId) (x i:Operand):Sm:=fun P G fr s _=>Sa s (N5 (Xx x G fr) (fun a=>N5 (Xx i G fr) (fun b=>BV P t a b)))
noncomputable def Qo (t:TypeId) (x i:Operand):Sm:=fun P G fr s _=>Sa s (N5 (Xx x G fr) (fun a=>N5 (Xx i G fr) (fun b=>Mk P t a b)))
def U4 (t:TypeId) (x k:Operand) (ok:Bool):Sm:=fun P G fr s _=>GA s (two (AH G fr x) (AH G fr k) fun a b=>DQ P s t a b ok)
def W6 (t:TypeId) (m k x:Operand):Sm:=fun P G fr s _=>QV (three (AH G fr m) (AH G fr k) (AH G fr x) (ER P s t))
def WV (t:TypeId) (m k:Operand):Sm:=fun P G fr s _=>Uq (two (AH G fr m) (AH G fr k) (Ip P s t))
def T9 (_:TypeId) (m st x:Operand):Sm:=fun _ G fr s _=>QV (three (AH G fr m) (AH G fr st) (AH G fr x) (Gr s))
def Sg (x:Operand) (k:Nat):Sm:=fun _ G fr s _=>GA s (Pf (AH G fr x) fun a=>I5 a k)
def Y7 (cl:Call):Sm:=fun P G fr s o=>P4 P G fr s o cl
def Vt (x:Operand):Sm:=fun _ G fr _ _=>mU (AH G fr x)
def m5:Sm:=fun _ _ _ _ _=>none
noncomputable def VP (op:Op):Sm:=match op with
 | .move x=>Py x
 | .assign x=>Py x
 | .pick c a b=>YA c a b
 | .alloc e=>Vo e
 | .box e x=>hP e x
 | .build t ps=>VX t ps
 | .buildSlice t n ps=>Oe t n ps
 | .load t a=>Tv t a
 | .store t a x=>Xb t a x
 | .nilCheck x=>dN x
 | .binOp op t x y z=>WI op t x y z
 | .unOp op t x=>nM op t x
 | .convert a b x=>ZR a b x
 | .makeInterface t x=>VR t x
 | .makeFunc f a b=>XL f a b
 | .makeMap t r=>iF t r
 | .makeSlice t l c=>Yl t l c
 | .slice t x lo hi mx=>Va t x lo hi mx
 | .fieldAddr t x k=>OQ t x k
 | .field t x k=>U8 t x k
 | .indexAddr t x i=>OE t x i
 | .index t x i=>Qo t x i
 | .lookup t x k ok=>U4 t x k ok
 | .mapUpdate t m k x=>W6 t m k x
 | .insert t m k x=>W6 t m k x
 | .mapEntry t m k=>WV t m k
 | .entryStore t m st x=>T9 t m st x
 | .extract x k=>Sg x k
 | .call cl=>Y7 cl
 | .panic x=>Vt x
 | _=>m5
theorem Xl (P:Program) (G:AY) (fr:List AV) (s:AS) (o:Oper):VP o.op P G fr s o=J1 P G fr s o:=by
 unfold VP J1
 cases o.op<;>try rfl
 all_goals simp only [Py,Tv,WI,OQ,OE,Qo,fD,Yx,ZD]
 all_goals first
   | done
   | (rename_i a b c d e;cases AH G fr c<;>cases AH G fr d<;>rfl)
   | (rename_i a b c;cases AH G fr b<;>cases AH G fr c<;>rfl)
noncomputable def ML (ops:Array Oper) (fr:List AV) (g:Option (Nat×Bool)):Bool:=Option.rec (motive:=fun _=>Bool) true (fun p=>MG ops fr (some p)) g
theorem T6 (ops:Array Oper) (fr:List AV) (g:Option (Nat×Bool)):ML ops fr g=MG ops fr g:=by cases g<;>rfl
noncomputable def VJ (r:Rec) (ops:Array Oper) (dst:Option Tmp) (l:List Oper) (fr:List AV):Option Rs→Option Rs
 | some (.call c s)=>(match c with
   | .ret v=>r (.ops ops l (aR fr dst v) s)
   | .pan v=>some (.code (.pan v) fr s))
 | _=>none
noncomputable def KH (P:Program) (G:AY) (r:Rec) (fr:List AV) (s:AS) (o:Oper) (b:Bool):Option Rs:=Bool.rec (motive:=fun _=>Option Rs) (some (.call (.ret (.sc undef)) s)) (nV r s (VP o.op P G fr s o)) b
noncomputable def M9 (P:Program) (G:AY) (r:Rec) (ops:Array Oper) (fr:List AV) (s:AS) (l:List Oper):Option Rs:=List.rec (motive:=fun _=>Option Rs) (some (.code .normal fr s)) (fun o l _=>VJ r ops o.dst l fr (KH P G r fr s o (ML ops fr o.guard))) l
abbrev Ss:=Program→AY→Rec→List AV→AS→Option Rs
def dK:Ss:=fun _ _ _ fr s=>some (.code .normal fr s)
def hX (id:Nat):Ss:=fun _ _ _ fr s=>some (.code (.exit id) fr s)
def mI:Ss:=fun _ _ _ fr s=>some (.code .ret fr s)
def oR (x y:Code):Ss:=fun _ _ r fr s=>Uz r y (r (.code x fr s))
def dG (q:Operand) (x y:Code):Ss:=fun _ G r fr s=>Tm r x y fr s (AH G fr q)
def Zp (id:Nat) (c:Code):Ss:=fun _ _ r fr s=>Sb id (r (.code c fr s))
def fK (c:Code):Ss:=fun _ _ r fr s=>Qb (r (.loop c fr s))
def Vr (_:Nat) (ops:Array Oper) (d:Bool):Ss:=fun P G r fr s=>Mw P G r ops fr s d
def sF:Ss:=fun _ _ _ _ _=>none
def SR (c:Code):Ss:=match c with
 | .skip=>dK
 | .exit id=>hX id
 | .ret=>mI
 | .seq x y=>oR x y
 | .cond q x y=>dG q x y
 | .block id c=>Zp id c
 | .loop c=>fK c
 | .region id ops d=>Vr id ops d
 | _=>sF
theorem RV (P:Program) (G:AY) (r:Rec) (fr:List AV) (s:AS) (c:Code):SR c P G r fr s=EN P G r fr s c:=by cases c<;>rfl
noncomputable def NU (P:Program) (G:AY) (X:L1) (H:Ii) (r:Rec):Tk→Option Rs
 | .code c fr s=>SR c P G r fr s
 | .loop c fr s=>Ol r c (r (.code c fr s))
 | .ops ops l fr s=>M9 P G r ops fr s l
 | .draw ops l fr s q=>Kx r ops fr s q l
 | .op ops o fr s=>KH P G r fr s o (ML ops fr o.guard)
 | .call f args s=>Zo P H r f args s (X f args s)
noncomputable def bY (P:Program) (G:AY) (X:L1) (H:Ii) (n:Nat):Rec:=Nat.rec (motive:=fun _=>Rec) (fun _=>none) (fun _ ih=>NU P G X H ih) n
end AI
namespace AI
open Go Go.RowKit
section
variable {P:Program} {G:AY} {X:L1} {H:Ii} {r:Rec}
theorem bS (hr:∀ tk rs,r tk=some rs→Rt P G (XP X) H tk rs) {ops:Array Oper} {o:Oper} {fr:List AV} {s:AS} {rs:Rs} (h:KH P G r fr s o (ML ops fr o.guard)=some rs):Rt P G (XP X) H (.op ops o fr s) rs:=by
 rw [T6,UF] at h
 unfold KH at h
 cases hw:Bt ops fr o with
 | false=>rw [hw] at h;simp only at h;cases h;exact J.opSkip hw
 | true =>
   rw [hw] at h
   simp only at h
   rw [Xl,Ga] at h
   cases ha:Ir P G fr s o with
   | none=>rw [ha] at h;cases h
   | some a =>
     rw [ha] at h
     cases a with
     | val v s1=>simp only [nV] at h;cases h;exact J.opVal hw ha
     | pan v=>simp only [nV] at h;cases h;exact J.opPan hw ha
     | ent f args =>
       simp only [nV] at h
       cases hc:r (.call f args s) with
       | none=>rw [hc] at h;cases h
       | some q =>
         rw [hc] at h
         cases q with
         | call c s1=>simp only [aB] at h;cases h;exact J.opCall hw ha (hr _ _ hc)
         | _=>cases h
theorem Wq (hr:∀ tk rs,r tk=some rs→Rt P G (XP X) H tk rs) (tk:Tk) (rs:Rs) (h:NU P G X H r tk=some rs):Rt P G (XP X) H tk rs:=by
 cases tk with
 | code c fr s =>
   simp only [NU,RV] at h
   cases c with
   | skip=>simp only [EN] at h;cases h;exact J.skip
   | exit id=>simp only [EN] at h;cases h;exact J.exit
   | ret=>simp only [EN] at h;cases h;exact J.ret
   | seq x y =>
     simp only [EN] at h
     cases h1:r (.code x fr s) with
     | none=>rw [h1] at h;cases h
     | some q =>
       rw [h1] at h
       have i1:=hr _ _ h1
       cases q with
       | code e fr1 s1 =>
         cases e with
         | normal =>
           simp only [Uz] at h
           have i2:=hr _ _ h
           cases rs with
           | code e fr' s'=>exact J.seq i1 i2
           | call r s'=>exact i2.elim
           | tr t fr' s'=>exact i2.elim
         | exit id=>simp only [Uz] at h;cases h;exact J.seqX i1 (by simp)
         | ret=>simp only [Uz] at h;cases h;exact J.seqX i1 (by simp)
         | pan v=>simp only [Uz] at h;cases h;exact J.seqX i1 (by simp)
       | _=>cases h
   | cond q x y =>
     simp only [EN,Bx] at h
     cases hq:A4 G fr q with
     | none=>rw [hq] at h;cases h
     | some v =>
       rw [hq] at h
       cases v with
       | sc u =>
         cases u with
         | bool t =>
           cases t with
           | true =>
             simp only [Tm] at h
             have i2:=hr _ _ h
             cases rs with
             | code e fr' s'=>exact J.cond hq i2
             | call r s'=>exact i2.elim
             | tr t fr' s'=>exact i2.elim
           | false =>
             simp only [Tm] at h
             have i2:=hr _ _ h
             cases rs with
             | code e fr' s'=>exact J.cond hq i2
             | call r s'=>exact i2.elim
             | tr t fr' s'=>exact i2.elim
         | _=>cases h
       | _=>cases h
   | block id c =>
     simp only [EN] at h
     cases h1:r (.code c fr s) with
     | none=>rw [h1] at h;cases h
     | some q =>
       rw [h1] at h
       cases q with
       | code e fr1 s1=>simp only [Sb] at h;cases h;exact J.block (hr _ _ h1)
       | _=>cases h
   | loop c =>
     simp only [EN] at h
     cases h1:r (.loop c fr s) with
     | none=>rw [h1] at h;cases h
     | some q =>
       rw [h1] at h
       cases q with
       | code e fr1 s1=>simp only [Qb] at h;cases h;exact J.loop (hr _ _ h1)
       | _=>cases h
   | region id ops d =>
     simp only [EN] at h
     cases d with
     | false =>
       simp only [Mw] at h
       cases h1:r (.ops ops ops.toList fr s) with
       | none=>rw [h1] at h;cases h
       | some q =>
         rw [h1] at h
         cases q with
         | code e fr1 s1 =>
           simp only [Qb] at h;cases h
           have:=hr _ _ h1 0 (by simp)
           refine J.region ?_
           rw [Array.length_toList] at this
           rw [List.range_eq_range']
           exact this
         | _=>cases h
     | true =>
       simp only [Mw] at h
       cases hord:GM ops with
       | false=>rw [hord] at h;cases h
       | true =>
         rw [hord] at h
         simp only [bK] at h
         cases hrs:XB P ops.toList with
         | none=>rw [hrs] at h;cases h
         | some r0 =>
           rw [hrs] at h
           simp only [bJ] at h
           cases h1:r (.draw ops ops.toList fr (s.hold r0) s.nx) with
           | none=>rw [h1] at h;cases h
           | some q =>
             rw [h1] at h
             cases q with
             | tr t fr1 s1 =>
               simp only [aY] at h
               cases hst:MD P G ops t s1 s.nx r0 with
               | false=>rw [hst] at h;cases h
               | true=>rw [hst] at h;simp only at h;cases h;exact Zk hord hrs (hr _ _ h1) hst
             | _=>cases h
   | _=>simp only [EN] at h;cases h
 | loop c fr s =>
   simp only [NU] at h
   cases h1:r (.code c fr s) with
   | none=>rw [h1] at h;cases h
   | some q =>
     rw [h1] at h
     have i1:=hr _ _ h1
     cases q with
     | code e fr1 s1 =>
       cases e with
       | normal =>
         simp only [Ol] at h
         have i2:=hr _ _ h
         cases rs with
         | code e fr' s'=>exact J.loopN i1 i2
         | call r s'=>exact i2.elim
         | tr t fr' s'=>exact i2.elim
       | exit id=>simp only [Ol] at h;cases h;exact J.loopX i1 (by simp)
       | ret=>simp only [Ol] at h;cases h;exact J.loopX i1 (by simp)
       | pan v=>simp only [Ol] at h;cases h;exact J.loopX i1 (by simp)
     | _=>cases h
 | ops ops l fr s =>
   simp only [NU] at h
   cases l with
   | nil=>simp only [M9] at h;cases h;intro k _;exact J.opsNil
   | cons o l =>
     simp only [M9] at h
     cases h1:KH P G r fr s o (ML ops fr o.guard) with
     | none=>rw [h1] at h;cases h
     | some q =>
       rw [h1] at h
       have i1:=bS hr h1
       cases q with
       | call c s1 =>
         cases c with
         | ret v =>
           simp only [VJ,VK] at h
           have i2:=hr _ _ h
           cases rs with
           | code e fr' s' =>
             intro k hk
             obtain ⟨hk1,hk2⟩:ops.toList[k]?=some o∧l=ops.toList.drop (k+1):=by
               constructor
               · have:=congrArg (fun x=>x[0]?) hk
                 simpa using this.symm
               · have:=congrArg List.tail hk
                 rw [List.tail_drop] at this
                 exact this
             rw [List.length_cons,List.range'_succ]
             exact J.opsCons (by rw [← Array.getElem?_toList];exact hk1) i1 (i2 (k+1) hk2)
           | call r s'=>exact i2.elim
           | tr t fr' s'=>exact i2.elim
         | pan v =>
           simp only [VJ] at h
           cases h
           intro k hk
           have hk1:ops.toList[k]?=some o:=by
             have:=congrArg (fun x=>x[0]?) hk
             simpa using this.symm
           rw [List.length_cons,List.range'_succ]
           exact J.opsPan (by rw [← Array.getElem?_toList];exact hk1) i1
       | _=>cases h
 | draw ops l fr s q0 =>
   simp only [NU] at h
   cases l with
   | nil=>simp only [Kx] at h;cases h;exact HV.nil
   | cons o l =>
     simp only [Kx] at h
     cases ha:Bb o.op with
     | true =>
       rw [ha] at h
       simp only [Rq,Wg] at h
       cases h2:r (.draw ops l (GD fr o.dst (FJ ops fr o q0)) s (q0+1)) with
       | none=>rw [h2] at h;cases h
       | some q =>
         rw [h2] at h
         cases q with
         | tr t fr1 s2=>simp only [pU] at h;cases h;exact HV.alloc ha (hr _ _ h2)
         | _=>cases h
     | false =>
       rw [ha] at h
       simp only [Rq] at h
       cases h1:r (.op ops o fr s) with
       | none=>rw [h1] at h;cases h
       | some q =>
         rw [h1] at h
         cases q with
         | call c s1 =>
           cases c with
           | ret v =>
             simp only [Vk] at h
             cases h2:r (.draw ops l (GD fr o.dst v) s1 q0) with
             | none=>rw [h2] at h;cases h
             | some q =>
               rw [h2] at h
               cases q with
               | tr t fr1 s2=>simp only [pU] at h;cases h;exact HV.cons ha (hr _ _ h1) (hr _ _ h2)
               | _=>cases h
           | pan v=>cases h
         | _=>cases h
 | op ops o fr s=>exact bS hr h
 | call f args s =>
   simp only [NU] at h
   cases hx:X f args s with
   | some q=>rw [hx] at h;obtain ⟨c,s1⟩:=q;simp only [Zo] at h;cases h;exact J.ext hx
   | none =>
     rw [hx] at h
     simp only [Zo] at h
     cases hh:H f args with
     | some q =>
       obtain ⟨g,gargs,k⟩:=q
       rw [hh] at h
       simp only [Wu] at h
       cases h1:r (.call g gargs s) with
       | none=>rw [h1] at h;cases h
       | some q =>
         rw [h1] at h
         cases q with
         | call c s1 =>
           simp only [cF] at h
           cases hk:k c with
           | none=>rw [hk] at h;cases h
           | some c1=>rw [hk] at h;simp only at h;cases h;exact J.hook hh (hr _ _ h1) hk
         | _=>cases h
     | none =>
       rw [hh] at h
       simp only [Wu] at h
       cases hf:P.funcs[f]? with
       | none=>rw [hf] at h;cases h
       | some fn =>
         rw [hf] at h
         simp only [RK] at h
         cases hb:fn.body with
         | none=>rw [hb] at h;cases h
         | some c =>
           rw [hb] at h
           simp only [aT] at h
           cases h1:r (.code c (args++List.replicate (fn.ntmps - args.length) (.sc undef)) s) with
           | none=>rw [h1] at h;cases h
           | some q =>
             rw [h1] at h
             have i1:=hr _ _ h1
             cases q with
             | code e fr1 s1 =>
               cases e with
               | normal =>
                 simp only [QJ] at h
                 cases ha:D4 P s1 fn fr1 with
                 | none=>rw [ha] at h;cases h
                 | some v=>rw [ha] at h;simp only [Yk] at h;cases h;exact J.body hf hb i1 (.inl rfl) ha (Xv _ _ _)
               | ret =>
                 simp only [QJ] at h
                 cases ha:D4 P s1 fn fr1 with
                 | none=>rw [ha] at h;cases h
                 | some v=>rw [ha] at h;simp only [Yk] at h;cases h;exact J.body hf hb i1 (.inr rfl) ha (Xv _ _ _)
               | pan v=>simp only [QJ] at h;cases h;exact J.bodyP hf hb i1
               | exit id=>simp only [QJ] at h;cases h
             | _=>cases h
theorem eJ (n:Nat) (tk:Tk) (rs:Rs) (h:bY P G X H n tk=some rs):Rt P G (XP X) H tk rs:=by
 induction n generalizing tk rs with
 | zero=>cases h
 | succ n ih=>exact Wq ih tk rs h
end
mutual
def plain:AV→Bool
 | .sc _=>true
 | .agg cs=>Bc cs
 | .Bh cs=>Bc cs
 | .sl o _ cs=>(match o with | .row _ _=>false | _=>true)&&Bc cs
 | .ifc _ v=>plain v
 | .el cs=>Bc cs
 | .fn _ a b=>Bc a&&Bc b
 | .any=>true
 | _=>false
def Bc:List AV→Bool
 | []=>true
 | a::l=>plain a&&Bc l
end
mutual
def HW:AV→AV
 | .agg cs=>.agg (KL cs)
 | .Bh cs=>.Bh (KL cs)
 | .sl o n cs=>.sl (match o with | .row _ _=>.lost | o=>o) n (KL cs)
 | .ifc t v=>.ifc t (HW v)
 | .el cs=>.el (KL cs)
 | a=>a
def KL:List AV→List AV
 | []=>[]
 | a::l=>HW a::KL l
end
mutual
def Jw:AV→Bool
 | .sc _=>true
 | .agg cs=>EG cs
 | .Bh cs=>EG cs
 | .sl _ _ cs=>EG cs
 | .ifc _ v=>Jw v
 | .el cs=>EG cs
 | .any=>true
 | _=>false
def EG:List AV→Bool
 | []=>true
 | a::l=>Jw a&&EG l
end
section
variable {c c':Cx} {w w':World}
mutual
theorem Rp.plain (hv:∀ g i v,Gz c w g i v→Gz c' w' g i v):∀ {a:AV} {v:Value},AI.plain a=true→Rp c w a v→Rp c' w' a v:=by
 intro a v hp h
 cases h with
 | sc h1=>exact .sc h1
 | agg h1=>exact .agg (BS.plain hv hp h1)
 | Bh h1=>exact .Bh (BS.plain hv hp h1)
 | @sl0 own A cap h1 =>
   simp only [AI.plain,Bool.and_eq_true] at hp
   cases own with
   | full=>exact .sl0 h1
   | nil=>exact .sl0 h1
   | nn=>exact .sl0 h1
   | lost=>exact .sl0 h1
   | row r sz=>cases hp.1
 | @sl1 own n cap g o cs hn h1 ho =>
   simp only [AI.plain,Bool.and_eq_true] at hp
   refine .sl1 hn (A2.plain hv hp.2 h1) ?_
   cases own with
   | full=>exact ho
   | nil=>exact ho
   | nn=>exact ho
   | lost=>trivial
   | row r sz=>cases hp.1
 | msl hn h1=>cases hp
 | el h1=>exact .el (A2.plain hv hp h1)
 | ptr h1=>cases hp
 | fn h1 h2 =>
   simp only [AI.plain,Bool.and_eq_true] at hp
   exact .fn (BS.plain hv hp.1 h1) (BS.plain hv hp.2 h2)
 | ifc h1=>exact .ifc (Rp.plain hv hp h1)
 | mp h1=>cases hp
 | any h1=>exact .any h1
theorem BS.plain (hv:∀ g i v,Gz c w g i v→Gz c' w' g i v):∀ {a:List AV} {v:List Value},AI.Bc a=true→BS c w a v→BS c' w' a v:=by
 intro a v hp h
 cases h with
 | nil=>exact .nil
 | cons h1 t =>
   simp only [AI.Bc,Bool.and_eq_true] at hp
   exact .cons (Rp.plain hv hp.1 h1) (BS.plain hv hp.2 t)
theorem A2.plain (hv:∀ g i v,Gz c w g i v→Gz c' w' g i v):∀ {a:List AV} {g o:Nat},AI.Bc a=true→A2 c w g o a→A2 c' w' g o a:=by
 intro a g o hp h
 cases h with
 | nil=>exact .nil
 | cons hvv h1 t =>
   simp only [AI.Bc,Bool.and_eq_true] at hp
   exact .cons (hv _ _ _ hvv) (Rp.plain hv hp.1 h1) (A2.plain hv hp.2 t)
end
mutual
theorem Rp.HW (hv:∀ g i v,Gz c w g i v→Gz c' w' g i v):∀ {a:AV} {v:Value},Jw a=true→Rp c w a v→Rp c' w' (AI.HW a) v:=by
 intro a v hp h
 cases h with
 | sc h1=>exact .sc h1
 | agg h1=>exact .agg (BS.HW hv hp h1)
 | Bh h1=>exact .Bh (BS.HW hv hp h1)
 | @sl0 own A cap h1 =>
   cases own with
   | full=>exact .sl0 h1
   | nil=>exact .sl0 h1
   | nn=>exact .sl0 h1
   | lost=>exact .sl0 h1
   | row r sz=>exact .sl0 trivial
 | @sl1 own n cap g o cs hn h1 ho =>
   have h2:=A2.HW hv hp h1
   refine .sl1 hn h2 ?_
   cases own with
   | full=>exact ho
   | nil=>exact ho
   | nn=>exact ho
   | lost=>trivial
   | row r sz=>trivial
 | msl hn h1=>cases hp
 | el h1=>exact .el (A2.HW hv hp h1)
 | ptr h1=>cases hp
 | fn h1 h2=>cases hp
 | ifc h1=>exact .ifc (Rp.HW hv hp h1)
 | mp h1=>cases hp
 | any h1=>exact .any h1
theorem BS.HW (hv:∀ g i v,Gz c w g i v→Gz c' w' g i v):∀ {a:List AV} {v:List Value},EG a=true→BS c w a v→BS c' w' (AI.KL a) v:=by
 intro a v hp h
 cases h with
 | nil=>exact .nil
 | cons h1 t =>
   simp only [AI.EG,Bool.and_eq_true] at hp
   exact .cons (Rp.HW hv hp.1 h1) (BS.HW hv hp.2 t)
theorem A2.HW (hv:∀ g i v,Gz c w g i v→Gz c' w' g i v):∀ {a:List AV} {g o:Nat},EG a=true→A2 c w g o a→A2 c' w' g o (AI.KL a):=by
 intro a g o hp h
 cases h with
 | nil=>exact .nil
 | cons hvv h1 t =>
   simp only [AI.EG,Bool.and_eq_true] at hp
   exact .cons (hv _ _ _ hvv) (Rp.HW hv hp.1 h1) (A2.HW hv hp.2 t)
end
end
def s0:AS:=⟨[],0,[],0⟩
theorem QY {P:Program} {G:AY} (hG:∀ g cs,G g=some cs→Bc cs=true) {f:FuncId} {args:List AV} {v:AV} {s1:AS} (h:Sound P G (.call f args s0 (.ret v) s1)) (hp:Bc args=true) (hb:Jw v=true) (s:AS):Sound P G (.call f args s (.ret (HW v)) s):=by
 intro cx w vs hs hargs
 have hvis:∀ g i x,Gz cx w g i x→Gz ⟨w.heap.size,[],[],cx.N3⟩ w g i x:=by
   intro g i x hx
   refine ⟨hx.1,fun hsh=>?_,hx.2.2⟩
   rcases hsh with hsh | ⟨r,n,cap,sz,hr,_⟩ | hsh
   · cases hsh
   · simp at hr
   · exact hx.2.1 hsh
 have hst:St G ⟨w.heap.size,[],[],cx.N3⟩ w s0 :=
   ⟨rfl,trivial,(fun i j g h1=>by simp at h1),(fun g hg=>by cases hg),(fun id g b h1=>by simp at h1),rfl,(fun r g n cap sz hr=>by simp at hr),(fun r n hr=>by cases hr),(fun g hg=>by cases hg),(fun g i hb=>hs.Li hb),(fun r r' g n cap sz n' cap' sz' hr=>by simp at hr),(fun g cs hg=>A2.plain hvis (hG g cs hg) (hs.glob g cs hg)),Nat.le_refl _⟩
 refine (h _ w vs hst (BS.plain hvis hp hargs)).mono ?_
 rintro e w' ⟨c',hx,_,u,rfl,hu⟩
 have hbel:=hx.below
 obtain ⟨x2,st2⟩:=hs.same (w':=w') ⟨hbel.os,hbel.tape,hbel.output,hbel.size,fun k hk _=>hbel.block k hk⟩
 refine ⟨cx,x2,st2,u,rfl,Rp.HW (fun g i x hv=>⟨hv.1,fun hsh=>hv.2.1 (.inr (.inr ?_)),hv.2.2⟩) hb hu⟩
 rw [hx.bad]
 exact hsh
theorem QP {P:Program} {G:AY} (hG:∀ g cs,G g=some cs→Bc cs=true) {f:FuncId} {args cs cs':List AV} {v:AV} {s1:AS} (h:Sound P G (.call f (.ptr 0 0::args) ⟨[(0,.cells cs)],1,[],0⟩ (.ret v) s1)) (hs1:s1.get 0=some (.cells cs')) (hp:Bc args=true) (hcs:Bc cs=true) (hb:Jw v=true) (hb':EG cs'=true) (s:AS) (id:Nat) (hid:s.get id=some (.cells cs)) :
   Sound P G (.call f (.ptr id 0::args) s (.ret (HW v)) (s.put id (.cells (KL cs')))):=by
 intro cx w vs hs hargs
 cases hargs with
 | @cons _ pv _ avs hptr hrest =>
   cases hptr with
   | @ptr _ _ g hphi =>
     have hgm:some g∈cx.BK:=List.mem_of_getElem? hphi
     have hvis:∀ k i x,Gz cx w k i x→Gz ⟨0,[some g],[],fun k i=>k≠g∧cx.N3 k i⟩ w k i x:=by
       intro k i x hx
       refine ⟨hx.1,fun hsh=>?_,hx.2.2⟩
       rcases hsh with hsh | ⟨r,n,cap,sz,hr,_⟩ | hsh
       · have:k=g:=by simpa using hsh
         subst this
         exact hx.2.1 (.inl hgm)
       · simp at hr
       · exact hx.2.1 hsh.2
     obtain ⟨us,ext,T,hw,hur⟩:=G9 hs hphi hid
     have hst:St G ⟨0,[some g],[],fun k i=>k≠g∧cx.N3 k i⟩ w ⟨[(0,.cells cs)],1,[],0⟩:=by
       refine ⟨rfl,⟨by simp,trivial⟩,(fun i j g' h1 h2=>by have e1:=(List.getElem?_eq_some_iff.1 h1).1;have e2:=(List.getElem?_eq_some_iff.1 h2).1;simp at e1 e2;omega),(fun g hg=>Nat.zero_le _),(fun id' g' b h1 h2=>?_),rfl,(fun r g n cap sz hr=>by simp at hr),(fun r n hr=>by cases hr),(fun g' hg=>?_),(fun k i hb=>hs.Li hb.2),(fun r r' g n cap sz n' cap' sz' hr=>by simp at hr),(fun g cs hg=>A2.plain hvis (hG g cs hg) (hs.glob g cs hg)),Nat.zero_le _⟩
       · simp only [AS.get,look] at h2
         split at h2
         · rename_i hb'
           cases h2
           have:=(beq_true hb').symm
           subst this
           simp at h1
           subst h1
           exact ⟨_,hw,.cellsX ext (BS.plain hvis hcs hur)⟩
         · cases h2
       · have:g'=g:=by simpa using hg
         subst this
         exact hs.FX hgm
     refine (h _ w _ hst (.cons (.ptr rfl) (BS.plain hvis hp hrest))).mono ?_
     rintro e w' ⟨c',hx,hst',u,rfl,hu⟩
     have hphi':c'.BK[0]?=some (some g):=hx.get (c:=⟨0,[some g],[],fun k i=>k≠g∧cx.N3 k i⟩) rfl
     obtain ⟨us',ext',T',hw',hur'⟩:=G9 hst' hphi' hs1
     have hvis':∀ k i x,Gz c' w' k i x→Gz cx w' k i x:=by
       intro k i x hv
       refine ⟨hv.1,fun hsh=>?_,hv.2.2⟩
       by_cases hk:k=g
       · subst hk;exact hv.2.1 (.inl (List.mem_of_getElem? hphi'))
       · refine hv.2.1 (.inr (.inr ?_))
         rw [hx.bad]
         exact ⟨hk,hsh⟩
     have hbel:=hx.below
     have hchg:Qw w w' (fun x=>x=g):=⟨hbel.os,hbel.tape,hbel.output,hbel.size,fun k hk hne=>hx.keep k hk (by simpa using hne) (fun r n cap sz=>by simp)⟩
     obtain ⟨x2,st2⟩:=hs.sL hphi hchg hw' (Dx.cellsX ext' (BS.HW hvis' hb' hur'))
     exact ⟨cx,x2,st2,u,rfl,Rp.HW hvis' hb hu⟩
end AI
namespace AI
open Go Go.RowKit
mutual
def under (n m:Nat):AV→Bool
 | .sc _=>true
 | .agg cs=>Cr n m cs
 | .Bh cs=>Cr n m cs
 | .sl o _ cs=>(match o with | .row r _=>decide (r < m) | _=>true)&&Cr n m cs
 | .msl id _ _=>decide (id < n)
 | .el cs=>Cr n m cs
 | .ptr id _=>decide (id < n)
 | .fn _ a b=>Cr n m a&&Cr n m b
 | .ifc _ v=>under n m v
 | .mp id=>decide (id < n)
 | .any=>true
def Cr (n m:Nat):List AV→Bool
 | []=>true
 | a::l=>under n m a&&Cr n m l
end
mutual
theorem Bg (n m:Nat):∀ {a:AV},plain a=true→under n m a=true
 | .sc _,_=>rfl
 | .agg cs,h=>by simp only [plain] at h;simp only [under];exact Aj n m h
 | .Bh cs,h=>by simp only [plain] at h;simp only [under];exact Aj n m h
 | .sl o k cs,h=>by
   simp only [plain,Bool.and_eq_true] at h
   simp only [under,Bool.and_eq_true]
   refine ⟨?_,Aj n m h.2⟩
   cases o with
   | row r sz=>cases h.1
   | _=>rfl
 | .msl _ _ _,h=>by cases h
 | .el cs,h=>by simp only [plain] at h;simp only [under];exact Aj n m h
 | .ptr _ _,h=>by cases h
 | .fn _ a b,h=>by
   simp only [plain,Bool.and_eq_true] at h
   simp only [under,Bool.and_eq_true]
   exact ⟨Aj n m h.1,Aj n m h.2⟩
 | .ifc _ v,h=>by simp only [plain] at h;simp only [under];exact Bg n m h
 | .mp _,h=>by cases h
 | .any,_=>rfl
theorem Aj (n m:Nat):∀ {l:List AV},Bc l=true→Cr n m l=true
 | [],_=>rfl
 | a::l,h=>by
   simp only [Bc,Bool.and_eq_true] at h
   simp only [Cr,Bool.and_eq_true]
   exact ⟨Bg n m h.1,Aj n m h.2⟩
end
def Cx.upto (c:Cx) (n m:Nat):Cx:=⟨c.base,c.BK.take n,c.rows.take m,c.bad⟩
theorem CL {α:Type} {l:List α} {n i:Nat} {x:α} (h:(l.take n)[i]?=some x):l[i]?=some x∧i < n:=by
 rw [List.getElem?_take] at h
 split at h
 · rename_i hi;exact ⟨h,hi⟩
 · cases h
theorem IL {α:Type} {l:List α} {n i:Nat} {x:α} (h:l[i]?=some x) (hi:i < n):(l.take n)[i]?=some x:=by
 rw [List.getElem?_take,if_pos hi];exact h
section
variable {c:Cx} {w:World} {n m:Nat}
theorem V5 {g i:Nat} (h:(c.upto n m).N3 g i):c.N3 g i:=by
 rcases h with h | ⟨r,n,cap,sz,hr,h⟩ | h
 · exact .inl (List.mem_of_mem_take h)
 · exact .inr (.inl ⟨r,n,cap,sz,(CL hr).1,h⟩)
 · exact .inr (.inr h)
theorem Kr {g i:Nat} {v:Value} (h:Gz c w g i v):Gz (c.upto n m) w g i v:=⟨h.1,fun hs=>h.2.1 (V5 hs),h.2.2⟩
mutual
theorem Rp.upto:∀ {a:AV} {v:Value},under n m a=true→Rp c w a v→Rp (c.upto n m) w a v:=by
 intro a v hp h
 cases h with
 | sc h1=>exact .sc h1
 | agg h1=>exact .agg (BS.upto hp h1)
 | Bh h1=>exact .Bh (BS.upto hp h1)
 | @sl0 own A cap h1 =>
   simp only [AI.under,Bool.and_eq_true] at hp
   cases own with
   | full=>exact .sl0 h1
   | nil=>exact .sl0 h1
   | nn=>exact .sl0 h1
   | lost=>exact .sl0 trivial
   | row r sz =>
     have hr:r < m:=of_decide_eq_true hp.1
     refine .sl0 ⟨h1.1,?_⟩
     have:=h1.2
     simp only [Cx.upto,List.length_take]
     omega
 | @sl1 own k cap g o cs hn h1 ho =>
   simp only [AI.under,Bool.and_eq_true] at hp
   refine .sl1 hn (A2.upto hp.2 h1) ?_
   cases own with
   | full=>exact ho
   | nil=>exact ho
   | nn=>exact ho
   | lost=>trivial
   | row r sz =>
     have hr:r < m:=of_decide_eq_true hp.1
     refine ⟨ho.1,ho.2.1,?_,fun e=>ho.2.2.2.1 (CL e).1,fun g' n' c' s' e=>ho.2.2.2.2 g' n' c' s' (CL e).1⟩
     have:=ho.2.2.1
     simp only [Cx.upto,List.length_take]
     omega
 | msl hn h1=>exact .msl hn (IL h1 (of_decide_eq_true hp))
 | el h1=>exact .el (A2.upto hp h1)
 | ptr h1=>exact .ptr (IL h1 (of_decide_eq_true hp))
 | fn h1 h2 =>
   simp only [AI.under,Bool.and_eq_true] at hp
   exact .fn (BS.upto hp.1 h1) (BS.upto hp.2 h2)
 | ifc h1=>exact .ifc (Rp.upto hp h1)
 | mp h1=>exact .mp (IL h1 (of_decide_eq_true hp))
 | any h1=>exact .any h1
theorem BS.upto:∀ {a:List AV} {v:List Value},Cr n m a=true→BS c w a v→BS (c.upto n m) w a v:=by
 intro a v hp h
 cases h with
 | nil=>exact .nil
 | cons h1 t =>
   simp only [AI.Cr,Bool.and_eq_true] at hp
   exact .cons (Rp.upto hp.1 h1) (BS.upto hp.2 t)
theorem A2.upto:∀ {a:List AV} {g o:Nat},Cr n m a=true→A2 c w g o a→A2 (c.upto n m) w g o a:=by
 intro a g o hp h
 cases h with
 | nil=>exact .nil
 | cons hvv h1 t =>
   simp only [AI.Cr,Bool.and_eq_true] at hp
   exact .cons (Kr hvv) (Rp.upto hp.1 h1) (A2.upto hp.2 t)
end
end
def Kz:AV→Bool
 | .sc v=>Mn v
 | _=>true
theorem JZ {c:Cx} {w:World} {a:AV} {v:Value} (h:Rp c w a v) (hd:Kz a=true):Mn v=true:=by
 cases h<;>first | rfl | exact hd | assumption | (cases hd;done)
def Si:AV→AV
 | .sl _ n cs=>.sl .lost n cs
 | a=>a
inductive Fg (n m:Nat):List AV→List AV→Prop where
 | nil:Fg n m [] []
 | keep {a:AV} {l k:List AV} (h:under n m a=true) (t:Fg n m l k):Fg n m (a::l) (a::k)
 | drop {a:AV} {l k:List AV} (h:Kz a=true) (t:Fg n m l k):Fg n m (a::l) (.any::k)
 | lost {o:Own} {j:Nat} {cs l k:List AV} (h:Cr n m cs=true) (t:Fg n m l k):Fg n m (.sl o j cs::l) (.sl .lost j cs::k)
theorem Fg.ok {n m:Nat} {l k:List AV} (h:Fg n m l k) {c:Cx} {w:World} {vs:List Value} (hr:BS c w l vs):BS (c.upto n m) w k vs:=by
 induction h generalizing vs with
 | nil=>cases hr;exact .nil
 | keep h _ ih=>cases hr with | cons h1 t=>exact .cons (h1.upto h) (ih t)
 | drop h _ ih=>cases hr with | cons h1 t=>exact .cons (.any (JZ h1 h)) (ih t)
 | @lost o j cs l k h _ ih =>
   cases hr with
   | cons h1 t =>
     refine .cons ?_ (ih t)
     cases h1 with
     | sl0 _=>exact .sl0 trivial
     | sl1 hn hc ho=>exact .sl1 hn (hc.upto h) trivial
def Kt (n m:Nat):List (Value×AV×Nat)→Bool
 | []=>true
 | e::l=>under n m e.2.1&&Kt n m l
def PQ (n m:Nat):AT→Bool
 | .cells cs=>Cr n m cs
 | .map es _=>Kt n m es
theorem Fj.upto {c:Cx} {w:World} {n m:Nat}:∀ {es:List (Value×AV×Nat)} {fs:List MapEntry},Kt n m es=true→Fj c w es fs→Fj (c.upto n m) w es fs:=by
 intro es
 induction es with
 | nil=>intro fs _ h;cases h;exact .nil
 | cons e es ih =>
   intro fs hu h
   obtain ⟨x,a,b⟩:=e
   simp only [Kt,Bool.and_eq_true] at hu
   cases h with | cons h1 t=>exact .cons (h1.upto hu.1) (ih hu.2 t)
theorem Dx.upto {c:Cx} {w:World} {n m:Nat} {b:AT} {o:Obj} (hb:PQ n m b=true) (h:Dx c w b o):Dx (c.upto n m) w b o:=by
 cases h with
 | cellsX ext h1=>exact .cellsX ext (h1.upto hb)
 | map h1=>exact .map (h1.upto hb)
def Fits (n m:Nat) (a b:AV):Prop:=∀ (c:Cx) (w:World) (v:Value),Rp c w a v→Rp (c.upto n m) w b v
def EY (n m:Nat) (a b:List AV):Prop:=∀ (c:Cx) (w:World) (v:List Value),BS c w a v→BS (c.upto n m) w b v
def JT (n m:Nat) (a b:List AV):Prop:=∀ (c:Cx) (w:World) (g o:Nat),A2 c w g o a→A2 (c.upto n m) w g o b
def Ih (n m:Nat) (a b:AT):Prop:=∀ (c:Cx) (w:World) (o:Obj),Dx c w a o→Dx (c.upto n m) w b o
theorem Fits.under {n m:Nat} {a:AV} (h:AI.under n m a=true):Fits n m a a:=fun _ _ _ hr=>hr.upto h
theorem EY.under {n m:Nat} {a:List AV} (h:AI.Cr n m a=true):EY n m a a:=fun _ _ _ hr=>hr.upto h
theorem JT.under {n m:Nat} {a:List AV} (h:AI.Cr n m a=true):JT n m a a:=fun _ _ _ _ hr=>hr.upto h
theorem Ih.under {n m:Nat} {b:AT} (h:PQ n m b=true):Ih n m b b:=fun _ _ _ hr=>hr.upto h
theorem Fits.plain {n m:Nat} {a:AV} (h:AI.plain a=true):Fits n m a a:=.under (Bg n m h)
theorem EY.plain {n m:Nat} {a:List AV} (h:Bc a=true):EY n m a a:=.under (Aj n m h)
theorem JT.plain {n m:Nat} {a:List AV} (h:Bc a=true):JT n m a a:=.under (Aj n m h)
theorem Fits.sc {n m:Nat} {v:Value}:Fits n m (.sc v) (.sc v):=.under rfl
theorem Fits.drop {n m:Nat} {a:AV} (h:Kz a=true):Fits n m a .any:=fun _ _ _ hr=>.any (JZ hr h)
theorem Fits.agg {n m:Nat} {a b:List AV} (h:EY n m a b):Fits n m (.agg a) (.agg b):=fun _ _ _ hr=>by cases hr with | agg h1=>exact .agg (h _ _ _ h1)
theorem Fits.Bh {n m:Nat} {a b:List AV} (h:EY n m a b):Fits n m (.Bh a) (.Bh b):=fun _ _ _ hr=>by cases hr with | Bh h1=>exact .Bh (h _ _ _ h1)
theorem Fits.lost {n m:Nat} {o:Own} {k:Nat} {a b:List AV} (h:JT n m a b) (e:a=[]→b=[]):Fits n m (.sl o k a) (.sl .lost k b):=fun _ _ _ hr=>by
 cases hr with
 | sl0 _=>rw [e rfl];exact .sl0 trivial
 | sl1 hn hc ho=>exact .sl1 hn (h _ _ _ _ hc) trivial
theorem EY.nil {n m:Nat}:EY n m [] []:=fun _ _ _ hr=>by cases hr;exact .nil
theorem EY.cons {n m:Nat} {a b:AV} {l k:List AV} (h:Fits n m a b) (t:EY n m l k):EY n m (a::l) (b::k):=fun _ _ _ hr=>by cases hr with | cons h1 t1=>exact .cons (h _ _ _ h1) (t _ _ _ t1)
theorem JT.nil {n m:Nat}:JT n m [] []:=fun _ _ _ _ hr=>by cases hr;exact .nil
theorem JT.cons {n m:Nat} {a b:AV} {l k:List AV} (h:Fits n m a b) (t:JT n m l k):JT n m (a::l) (b::k):=fun _ _ _ _ hr=>by cases hr with | cons hv h1 t1=>exact .cons (Kr hv) (h _ _ _ h1) (t _ _ _ _ t1)
theorem Ih.cells {n m:Nat} {a b:List AV} (h:EY n m a b):Ih n m (.cells a) (.cells b):=fun _ _ _ hr=>by cases hr with | cellsX ext h1=>exact .cellsX ext (h _ _ _ h1)
theorem ZG {G:AY} (hG:∀ g cs,G g=some cs→Bc cs=true) {s s' s2:AS} {fr' fr2:List AV} (hn:s2.nx=s.nx) (hr:s2.nr=s.nr)
   (hd:ED s2.h s2.nx) (hbox:∀ id b,look id s2.h=some b→∃ b',look id s'.h=some b'∧Ih s.nx s.nr b' b) (hF:∀ r n,Cn r s2.F=some n→Cn r s'.F=some n∧r < s.nr)
   (hf:EY s.nx s.nr fr' fr2) (cx:Cx) (w:World) (c':Cx) (w':World) (vs:List Value) (hx:Ext cx w c' w') (hs:St G cx w s) (hs':St G c' w' s') (hfr:BS c' w' fr' vs) :
   ∃ c2,Ext cx w c2 w'∧St G c2 w' s2∧BS c2 w' fr2 vs:=by
 have hphi:c'.BK.take s.nx=cx.BK:=by
   obtain ⟨t,ht⟩:=hx.BK
   rw [← ht,hs.len,List.take_left]
 have hrl:(c'.rows.take s.nr).length=cx.rows.length:=by
   have:=hx.rlen
   rw [List.length_take,hs.rlen];omega
 refine ⟨c'.upto s.nx s.nr,⟨?_,?_,fun r x hr' h=>?_,fun g i v hv=>Kr (hx.vis g i v hv),hx.below,hx.base,hx.bad,fun g hg=>hx.pnew g (List.mem_of_mem_take hg),fun r g n cap sz h=>hx.rnew r g n cap sz (CL h).1,hx.keep⟩,?_,hf _ _ _ hfr⟩
 · show cx.BK <+: c'.BK.take s.nx
   rw [hphi]
   exact List.prefix_refl _
 · show cx.rows.length≤(c'.rows.take s.nr).length
   omega
 · exact hx.rows r x hr' (CL h).1
 · refine ⟨?_,hd,fun i j g h1 h2=>hs'.nodup i j g (CL h1).1 (CL h2).1,fun g hg=>hs'.low g (List.mem_of_mem_take hg),fun id g b h1 h2=>?_,?_,fun r g n cap sz h=>?_,fun r n h=>?_,fun g hg=>hs'.plow g (List.mem_of_mem_take hg),hs'.blow,fun r r' g n cap sz n' cap' sz' h h'=>hs'.rdist r r' g n cap sz n' cap' sz' (CL h).1 (CL h').1,fun g cs hg=>(hs'.glob g cs hg).upto (Aj _ _ (hG g cs hg)),hs'.bsz⟩
   · show s2.nx=(c'.BK.take s.nx).length
     rw [hphi,hn,hs.len]
   · obtain ⟨b',h3,h4⟩:=hbox id b h2
     obtain ⟨o,ho,hb⟩:=hs'.box id g b' (CL h1).1 h3
     exact ⟨o,ho,h4 _ _ _ hb⟩
   · show s2.nr=(c'.rows.take s.nr).length
     rw [hrl,hr,hs.rlen]
   · obtain ⟨a1,a2,a3,a4⟩:=hs'.row r g n cap sz (CL h).1
     exact ⟨a1,a2,fun hm=>a3 (List.mem_of_mem_take hm),a4⟩
   · obtain ⟨h1,h2⟩:=hF r n h
     rcases hs'.rfree r n h1 with ⟨h3,h4⟩ | ⟨g,cap,sz,h3⟩
     · exact .inl ⟨IL h3 h2,h4⟩
     · exact .inr ⟨g,cap,sz,IL h3 h2⟩
end AI
