/- Part of a proof: see the last text. -/
import Derived.Test.YtnijkdknnmgoeaaGreatCxd
import Derived.LoopN
set_option linter.unusedVariables false
set_option linter.unusedSimpArgs false
namespace AI
open Go Go.RowKit
inductive AX where
 | normal
 | exit (id:Nat)
 | ret
 | pan (v:AV)
inductive CR where
 | ret (v:AV)
 | pan (v:AV)
def BU (ops:Array Oper) (fr:List AV) (o:Oper):Bool:=match o.guard with
 | none=>true
 | some (j,want)=>match (ops[j]?).bind (·.dst) with
   | some d=>match fr[d]? with
     | some (.sc (.bool b))=>b == want
     | _=>false
   | none=>false
def EH (id:Nat):AX→AX
 | .exit id'=>if id'=id then .normal else .exit id'
 | e=>e
def PB (P:Program) (s:AS) (fr:List AV):ResultVar→Option AV
 | .tmp t=>some (fr.getD t (.sc undef))
 | .cell t ty=>Ie P s ty (fr.getD t (.sc undef))
def Mp (P:Program) (s:AS) (fr:List AV):List ResultVar→Option (List AV)
 | []=>some []
 | r::rs=>match PB P s fr r,Mp P s fr rs with
   | some a,some as=>some (a::as)
   | _,_=>none
def Gl (P:Program) (s:AS) (fn:Func) (fr:List AV):Option AV:=match Mp P s fr fn.results.toList with
 | some [a]=>some a
 | some as=>some (.Bd as)
 | none=>none
inductive Jd where
 | code (c:Code) (fr:List AV) (s:AS) (e:AX) (fr':List AV) (s':AS)
 | loop (c:Code) (fr:List AV) (s:AS) (e:AX) (fr':List AV) (s':AS)
 | ops (ops:Array Oper) (l:List Nat) (fr:List AV) (s:AS) (e:AX) (fr':List AV) (s':AS)
 | op (ops:Array Oper) (o:Oper) (fr:List AV) (s:AS) (r:CR) (s':AS)
 | call (f:FuncId) (args:List AV) (s:AS) (r:CR) (s':AS)
def Ci (ops:Array Oper) (i:Nat):Option Tmp:=(ops[i]?).bind (·.dst)
def QE (ops:Array Oper) (i:Nat):Prop:=∃ o,ops[i]?=some o∧calm o.op=false
def Win (ops:Array Oper) (i k:Nat):Prop:=(∀ l,QE ops l→Qs (Io ops.toList []) i l=true→l < k)∧(∀ l,QE ops l→Qs (Io ops.toList []) l i=true→k≤l)
abbrev OY:=FuncId→List AV→AS→CR→AS→Prop
abbrev Mn:=FuncId→List AV→Option (FuncId×List AV×(CR→Option CR))
def acV (P:Program) (G:A8) (t tx:TypeId) (a b:AV) (s:AS) (v:AV) (s':AS):Prop:=∀ (c:Cx) (w:World) (va vb:Value) (ty:TypeId),St G c w s→Rp c w a va→Rp c w b vb →
 ∃ u w' c',(Builtin.append_ #[t,tx] ty #[va,vb]).run P w=.ok u w'∧Ext c w c' w'∧St G c' w' s'∧Rp c' w' v u
inductive J (P:Program) (G:A8) (X:OY) (H:Mn):Jd→Prop where
 | skip {fr:List AV} {s:AS}:J P G X H (.code .skip fr s .normal fr s)
 | exit {id:Nat} {fr:List AV} {s:AS}:J P G X H (.code (.exit id) fr s (.exit id) fr s)
 | ret {fr:List AV} {s:AS}:J P G X H (.code .ret fr s .ret fr s)
 | seq {x y:Code} {fr fr1 fr':List AV} {s s1 s':AS} {e:AX} (h1:J P G X H (.code x fr s .normal fr1 s1)) (h2:J P G X H (.code y fr1 s1 e fr' s')):J P G X H (.code (.seq x y) fr s e fr' s')
 | seqX {x y:Code} {fr fr':List AV} {s s':AS} {e:AX} (h1:J P G X H (.code x fr s e fr' s')) (he:e≠.normal):J P G X H (.code (.seq x y) fr s e fr' s')
 | cond {q:Operand} {x y:Code} {t:Bool} {fr fr':List AV} {s s':AS} {e:AX} (hq:Be G fr q=some (.sc (.bool t))) (h:J P G X H (.code (if t then x else y) fr s e fr' s')):J P G X H (.code (.cond q x y) fr s e fr' s')
 | block {id:Nat} {c:Code} {fr fr':List AV} {s s':AS} {e:AX} (h:J P G X H (.code c fr s e fr' s')):J P G X H (.code (.block id c) fr s (EH id e) fr' s')
 | loop {c:Code} {fr fr':List AV} {s s':AS} {e:AX} (h:J P G X H (.loop c fr s e fr' s')):J P G X H (.code (.loop c) fr s e fr' s')
 | loopN {c:Code} {fr fr1 fr':List AV} {s s1 s':AS} {e:AX} (h1:J P G X H (.code c fr s .normal fr1 s1)) (h2:J P G X H (.loop c fr1 s1 e fr' s')):J P G X H (.loop c fr s e fr' s')
 | loopX {c:Code} {fr fr':List AV} {s s':AS} {e:AX} (h1:J P G X H (.code c fr s e fr' s')) (he:e≠.normal):J P G X H (.loop c fr s e fr' s')
 | region {id:Nat} {ops:Array Oper} {fr fr':List AV} {s s':AS} {e:AX} (h:J P G X H (.ops ops (List.range ops.size) fr s e fr' s')):J P G X H (.code (.region id ops false) fr s e fr' s')
 | opsNil {ops:Array Oper} {fr:List AV} {s:AS}:J P G X H (.ops ops [] fr s .normal fr s)
 | opsCons {ops:Array Oper} {i:Nat} {l:List Nat} {o:Oper} {v:AV} {fr fr':List AV} {s s1 s':AS} {e:AX} (ho:ops[i]?=some o) (h:J P G X H (.op ops o fr s (.ret v) s1)) (t:J P G X H (.ops ops l (Kl fr o.dst v) s1 e fr' s')):J P G X H (.ops ops (i::l) fr s e fr' s')
 | opsPan {ops:Array Oper} {i:Nat} {l:List Nat} {o:Oper} {v:AV} {fr:List AV} {s s1:AS} (ho:ops[i]?=some o) (h:J P G X H (.op ops o fr s (.pan v) s1)):J P G X H (.ops ops (i::l) fr s (.pan v) fr s1)
 | opVal {ops:Array Oper} {o:Oper} {fr:List AV} {s s':AS} {v:AV} (hw:BU ops fr o=true) (h:Mw P G fr s o=some (.val v s')):J P G X H (.op ops o fr s (.ret v) s')
 | opWeak {ops:Array Oper} {o:Oper} {fr:List AV} {s s':AS} {v v2:AV} (hq:quiet o.op=false) (h:J P G X H (.op ops o fr s (.ret v) s')) (hv:∀ cx w u,Rp cx w v u→Rp cx w v2 u):J P G X H (.op ops o fr s (.ret v2) s')
 | opWeakS {ops:Array Oper} {o:Oper} {fr:List AV} {s s1 s2:AS} {v:AV} (hq:quiet o.op=false) (h:J P G X H (.op ops o fr s (.ret v) s1)) (hs:∀ cx w,St G cx w s1→St G cx w s2):J P G X H (.op ops o fr s (.ret v) s2)
 | opApp {ops:Array Oper} {o:Oper} {fr:List AV} {s s':AS} {cl:Call} {x y:Operand} {t tx:TypeId} {a b v:AV} (hw:BU ops fr o=true) (ho:o.op=.call cl) (hcl:cl.callee=.builtin .append) (hx:cl.args.toList=[x,y]) (ht:cl.argTypes.toList=[t,tx]) (ha:Be G fr x=some a) (hb:Be G fr y=some b) (h:acV P G t tx a b s v s'):J P G X H (.op ops o fr s (.ret v) s')
 | opSkip {ops:Array Oper} {o:Oper} {fr:List AV} {s:AS} (hw:BU ops fr o=false):J P G X H (.op ops o fr s (.ret (.sc undef)) s)
 | opCall {ops:Array Oper} {o:Oper} {fr:List AV} {s s':AS} {f:FuncId} {args:List AV} {r:CR} (hw:BU ops fr o=true) (h:Mw P G fr s o=some (.ent f args)) (hc:J P G X H (.call f args s r s')):J P G X H (.op ops o fr s r s')
 | opPan {ops:Array Oper} {o:Oper} {fr:List AV} {s:AS} {v:AV} (hw:BU ops fr o=true) (h:Mw P G fr s o=some (.pan v)):J P G X H (.op ops o fr s (.pan v) s)
 | draw {id:Nat} {ops:Array Oper} {f0:List AV} {s0:AS} (rs:List A5) (vals:Nat→AV) (sts:Nat→AS) (h0:sts 0=s0.hold rs) (hord:Kw ops=true)
     (hl:∀ i o,ops[i]?=some o→calm o.op=false→J P G X H (.op ops o (Iv f0 (Ci ops) vals (fun _=>true) i) (sts i) (.ret (vals i)) (sts (i+1))))
     (hq:∀ i o,ops[i]?=some o→quiet o.op=true→sts (i+1)=sts i∧((BU ops (Iv f0 (Ci ops) vals (fun _=>true) i) o=false∧vals i=.sc undef)∨(BU ops (Iv f0 (Ci ops) vals (fun _=>true) i) o=true∧∀ k,k≤ops.size→Win ops i k→Mw P G (Iv f0 (Ci ops) vals (fun _=>true) i) (sts k) o=some (.val (vals i) (sts k)))))
     (ha:∀ i o e,ops[i]?=some o→o.op=.alloc e→sts (i+1)=sts i∧((BU ops (Iv f0 (Ci ops) vals (fun _=>true) i) o=false∧vals i=.sc undef)∨(BU ops (Iv f0 (Ci ops) vals (fun _=>true) i) o=true∧∃ z,Hb P e=some z∧rk ops i < rs.length∧vals i=.ptr (s0.nx+rk ops i) 0∧∀ k,k≤ops.size→Win ops i k→(sts k).get (s0.nx+rk ops i)=some (.cells (cellsOf z))))) :
     J P G X H (.code (.region id ops true) f0 s0 .normal (Iv f0 (Ci ops) vals (fun _=>true) ops.size) (sts ops.size))
 | body {f:FuncId} {fn:Func} {c:Code} {args fr':List AV} {s s' s2:AS} {e:AX} {v:AV} (hf:P.funcs[f]?=some fn) (hb:fn.body=some c) (h:J P G X H (.code c (args++List.replicate (fn.ntmps - args.length) (.sc undef)) s e fr' s')) (he:e=.normal∨e=.ret) (hr:Gl P s' fn fr'=some v) (hk:s2=s'.cut s.nx∨s2=s'):J P G X H (.call f args s (.ret v) s2)
 | Kq {f:FuncId} {fn:Func} {c:Code} {args fr':List AV} {s s':AS} {v:AV} (hf:P.funcs[f]?=some fn) (hb:fn.body=some c) (h:J P G X H (.code c (args++List.replicate (fn.ntmps - args.length) (.sc undef)) s (.pan v) fr' s')):J P G X H (.call f args s (.pan v) (s'.cut s.nx))
 | ext {f:FuncId} {args:List AV} {s s':AS} {r:CR} (h:X f args s r s'):J P G X H (.call f args s r s')
 | weak {c:Code} {fr fr2 fr':List AV} {s s2 s':AS} {e:AX} (hw:∀ cx w vs,St G cx w s→Cz cx w fr vs→∃ cx2,Ext cx w cx2 w∧St G cx2 w s2∧Cz cx2 w fr2 vs) (h:J P G X H (.code c fr2 s2 e fr' s')):J P G X H (.code c fr s e fr' s')
 | weakL {c:Code} {fr fr2 fr':List AV} {s s2 s':AS} {e:AX} (hw:∀ cx w vs,St G cx w s→Cz cx w fr vs→∃ cx2,Ext cx w cx2 w∧St G cx2 w s2∧Cz cx2 w fr2 vs) (h:J P G X H (.loop c fr2 s2 e fr' s')):J P G X H (.loop c fr s e fr' s')
 | scope {c:Code} {fr fr2 fr':List AV} {s s2 s':AS} {e:AX} (h:J P G X H (.code c fr s e fr' s')) (he:∀ v,e≠.pan v) (hs:∀ cx w c' w' vs,Ext cx w c' w'→St G cx w s→St G c' w' s'→Cz c' w' fr' vs→∃ c2,Ext cx w c2 w'∧St G c2 w' s2∧Cz c2 w' fr2 vs):J P G X H (.code c fr s e fr2 s2)
 | hook {f g:FuncId} {args gargs:List AV} {k:CR→Option CR} {s s':AS} {r r':CR} (hh:H f args=some (g,gargs,k)) (h:J P G X H (.call g gargs s r s')) (hk:k r=some r'):J P G X H (.call f args s r' s')
def adZ (G:A8) (c:Cx) (w:World) (r:CR) (s':AS) (e:Ending) (w':World):Prop :=
 ∃ c',Ext c w c' w'∧St G c' w' s'∧match r with
   | .ret v=>∃ u,e=.returned u∧Rp c' w' v u
   | .pan v=>∃ u,e=.panicked [{ v:=u,recovered:=false }]∧Rp c' w' v u
def Qe (G:A8) (c:Cx) (w:World) (e:AX) (fr':List AV) (s':AS) (e':Exit) (a':Act) (w':World):Prop :=
 ∃ c',Ext c w c' w'∧St G c' w' s'∧a'.defers=[]∧match e with
   | .normal=>e'=.normal∧Cz c' w' fr' a'.tmps.toList
   | .exit id=>e'=.exit id∧Cz c' w' fr' a'.tmps.toList
   | .ret=>e'=.ret∧Cz c' w' fr' a'.tmps.toList
   | .pan v=>∃ u,e'=.panic [{ v:=u,recovered:=false }]∧Rp c' w' v u
theorem Qe.ext {G:A8} {c c1:Cx} {w w1:World} {e:AX} {fr':List AV} {s':AS} {e':Exit} {a':Act} {w':World} (x:Ext c w c1 w1) (h:Qe G c1 w1 e fr' s' e' a' w'):Qe G c w e fr' s' e' a' w':=by
 obtain ⟨c',h1,h2⟩:=h
 exact ⟨c',x.trans h1,h2⟩
def Nw (P:Program) (ops:Array Oper) (o:Oper) (K:Act→World→Prop) (Q:Exit→Act→World→Prop) (a:Act) (w:World):Prop :=
 if Region.wanted o (yielded ops a.tmps) then o.wp P a w K Q else K (a.put o.dst undef) w
def Sound (P:Program) (G:A8):Jd→Prop
 | .code c fr s e fr' s'=>∀ (cx:Cx) (w:World) (a:Act) (Q:Exit→Act→World→Prop),St G cx w s→Cz cx w fr a.tmps.toList→a.defers=[]→(∀ e' a' w',Qe G cx w e fr' s' e' a' w'→Q e' a' w')→c.wp P Q a w
 | .loop c fr s e fr' s'=>∃ n,∀ (cx:Cx) (w:World) (a:Act) (Q:Exit→Act→World→Prop),St G cx w s→Cz cx w fr a.tmps.toList→a.defers=[]→(∀ e' a' w',Qe G cx w e fr' s' e' a' w'→Q e' a' w')→Code.rounds P c Q n a w
 | .ops ops l fr s e fr' s'=>∀ (cx:Cx) (w:World) (a:Act) (Q:Exit→Act→World→Prop),St G cx w s→Cz cx w fr a.tmps.toList→a.defers=[]→(∀ e' a' w',Qe G cx w e fr' s' e' a' w'→Q e' a' w')→wpOps P ops Q l a w
 | .op ops o fr s r s'=>∀ (cx:Cx) (w:World) (a:Act) (K:Act→World→Prop) (Q:Exit→Act→World→Prop),St G cx w s→(∀ x∈o.op.operands,Vl G cx w fr a.eval x)→BU ops fr o=Region.wanted o (yielded ops a.tmps) →
     (match r with
       | .ret v=>∀ u w' c',Ext cx w c' w'→St G c' w' s'→Rp c' w' v u→K (a.put o.dst u) w'
       | .pan v=>∀ u w' c',Ext cx w c' w'→St G c' w' s'→Rp c' w' v u→Q (.panic [{ v:=u,recovered:=false }]) a w')→Nw P ops o K Q a w
 | .call f args s r s'=>∀ (cx:Cx) (w:World) (vs:List Value),St G cx w s→Cz cx w args vs→Calls P f vs.toArray w (adZ G cx w r s')
theorem O8 {ops:Array Oper} {fr:List AV} {o:Oper} {c:Cx} {w:World} {tmps:Array Value} (h:∀ j want,o.guard=some (j,want)→∀ d,(ops[j]?).bind (·.dst)=some d→∃ M,Cz c w M tmps.toList∧M[d]?=fr[d]?):BU ops fr o=Region.wanted o (yielded ops tmps):=by
 unfold BU Region.wanted
 cases hg:o.guard with
 | none=>rfl
 | some p =>
   obtain ⟨j,want⟩:=p
   simp only
   unfold yielded
   cases hd:(ops[j]?).bind (·.dst) with
   | none=>simp
   | some d =>
     obtain ⟨M,hM,he⟩:=h j want hg d hd
     simp only [Option.bind_some]
     rw [← he]
     cases hm:M[d]? with
     | none =>
       have hl:=hM.len
       have h1:=List.getElem?_eq_none_iff.1 hm
       have h2:tmps[d]?=none:=Array.getElem?_eq_none (by rw [← Array.length_toList];omega)
       simp [h2]
     | some b =>
       obtain ⟨u,hu,hr⟩:=hM.get hm
       rw [Array.getElem?_toList] at hu
       rw [hu]
       cases hr with
       | sc hs=>cases u<;>simp
       | any hs=>cases u<;>first | (simp [RM] at hs;done) | simp
       | _=>simp
def pD (tmps:Array Value):ResultVar→Sem Value
 | .tmp t=>pure (tmps.getD t undef)
 | .cell a t=>do loadVar t (← asAddr (tmps.getD a undef))
theorem Ya (fn:Func) (tmps:Array Value):results fn tmps=(do
 let vs ← fn.results.mapM (pD tmps)
 pure (if h:vs.size=1 then vs[0] else .tuple vs)):=by
 unfold results
 congr 2
theorem Xv {P:Program} {G:A8} {c:Cx} {w:World} {s:AS} {fr:List AV} {tmps:Array Value} (hs:St G c w s) (hf:Cz c w fr tmps.toList) {r:ResultVar} {v:AV} (h:PB P s fr r=some v) :
   ∃ u,(pD tmps r).run P w=.ok u w∧Rp c w v u:=by
 have ht:∀ t,Rp c w (fr.getD t (.sc undef)) (tmps.getD t undef):=fun t=>KX (G:=G) (s:=s) (a:=⟨tmps,[]⟩) (x:=.tmp t) hs hf rfl
 cases r with
 | tmp t=>simp only [PB,Option.some.injEq] at h;subst h;exact ⟨_,rfl,ht t⟩
 | cell t ty =>
   obtain ⟨u,h1,h2⟩:=WG hs h (ht t)
   refine ⟨u,?_,h2⟩
   have hr:=ht t
   simp only [Instr.loadAt,Sem.run_bind] at h1
   simp only [pD,Sem.run_bind]
   generalize tmps.getD t undef=x at hr h1
   simp only [PB] at h
   unfold Ie at h
   split at h
   · rename_i heq;rw [heq] at hr;cases hr;simpa [asAddr,Instr.sureAddr] using h1
   · rename_i heq;rw [heq] at hr;cases hr;simpa [asAddr,Instr.sureAddr] using h1
   · cases h
theorem WN {P:Program} {G:A8} {c:Cx} {w:World} {s:AS} {fr:List AV} {tmps:Array Value} (hs:St G c w s) (hf:Cz c w fr tmps.toList) (rs:List ResultVar) {vs:List AV} (h:Mp P s fr rs=some vs) :
   ∃ us,(rs.mapM (pD tmps)).run P w=.ok us w∧Cz c w vs us:=by
 induction rs generalizing vs with
 | nil=>simp [Mp] at h;subst h;exact ⟨[],rfl,.nil⟩
 | cons r rs ih =>
   simp only [Mp] at h
   split at h
   · rename_i a as h1 h2
     cases h
     obtain ⟨u,hu,hr⟩:=Xv hs hf h1
     obtain ⟨us,hus,hrs⟩:=ih h2
     refine ⟨u::us,?_,.cons hr hrs⟩
     rw [List.mapM_cons]
     simp only [Sem.run_bind,hu,Result.andThen_ok,hus,Sem.run_pure]
   · cases h
theorem Rj {P:Program} {G:A8} {c:Cx} {w:World} {s:AS} {fr:List AV} {tmps:Array Value} {fn:Func} {v:AV} (hs:St G c w s) (hf:Cz c w fr tmps.toList) (h:Gl P s fn fr=some v):∃ u,(results fn tmps).run P w=.ok u w∧Rp c w v u:=by
 unfold Gl at h
 cases hl:Mp P s fr fn.results.toList with
 | none=>rw [hl] at h;cases h
 | some as =>
   rw [hl] at h
   obtain ⟨us,hus,hrs⟩:=WN hs hf _ hl
   have hlen:=hrs.len
   have hrun:(results fn tmps).run P w=.ok (if h:us.toArray.size=1 then us.toArray[0] else .tuple us.toArray) w:=by
     rw [Ya,Array.mapM_eq_mapM_toList]
     simp only [Sem.run_bind,Sem.run_map,hus,Result.andThen_ok,Sem.run_pure]
   rw [hrun]
   split at h
   · rename_i a heq
     cases heq;cases h
     cases hrs with
     | cons h1 t=>cases t;exact ⟨_,rfl,h1⟩
   · rename_i as' hne heq
     cases heq;cases h
     have:¬ us.toArray.size=1:=by
       intro h1
       simp at h1
       obtain ⟨a,ha⟩:=List.length_eq_one_iff.1 (hlen.symm.trans h1)
       exact hne a ha
     rw [dif_neg this]
     exact ⟨_,rfl,.Bd hrs⟩
   · rename_i heq;cases heq
end AI
namespace AI
open Go Go.RowKit
def Kv (L:Nat→Bool):Nat→Nat
 | 0=>0
 | n+1=>Kv L n+if L n then 0 else 1
theorem fP {L:Nat→Bool}:∀ (n:Nat),Kv L n=0→∀ i,i < n→L i=true:=by
 intro n
 induction n with
 | zero=>intro _ i hi;omega
 | succ n ih =>
   intro h i hi
   simp only [Kv] at h
   by_cases hn:i=n
   · subst hn
     by_cases hL:L i=true
     · exact hL
     · simp [hL] at h
   · exact ih (by omega) i (by omega)
theorem pN {L M:Nat→Bool} {i:Nat} (h0:L i=false) (h1:M i=true) (hne:∀ j,j≠i→M j=L j):∀ (n:Nat),(i < n→Kv L n=Kv M n+1)∧(n≤i→Kv L n=Kv M n):=by
 intro n
 induction n with
 | zero=>exact ⟨fun h=>by omega,fun _=>rfl⟩
 | succ n ih =>
   refine ⟨fun h=>?_,fun h=>?_⟩
   · simp only [Kv]
     by_cases hn:n=i
     · subst hn
       rw [ih.2 (Nat.le_refl _),h0,h1];simp
     · rw [ih.1 (by omega),hne n hn];omega
   · simp only [Kv]
     rw [ih.2 (by omega),hne n (by omega)]
theorem SJ {ops:Array Oper} {sts:Nat→AS} (hq:∀ i o,ops[i]?=some o→calm o.op=true→sts (i+1)=sts i) {x:Nat}:∀ (y:Nat),x≤y→y≤ops.size→(∀ m,x≤m→m < y→¬ QE ops m)→sts x=sts y:=by
 intro y
 induction y with
 | zero=>intro h _ _;have:x=0:=by omega
         subst this;rfl
 | succ y ih =>
   intro h hn hl
   by_cases e:x=y+1
   · subst e;rfl
   · rw [ih (by omega) (by omega) (fun m h1 h2=>hl m h1 (by omega))]
     have ho:ops[y]?=some (ops[y]'(by omega)):=Array.getElem?_eq_getElem (by omega)
     have hy:=hl y (by omega) (by omega)
     refine (hq y _ ho ?_).symm
     cases hqq:calm (ops[y]'(by omega)).op with
     | true=>rfl
     | false=>exact absurd ⟨_,ho,hqq⟩ hy
theorem mem_ready {ops:Array Oper} {L:Array Bool} (hsz:L.size=ops.size) {i:Nat} (h:i∈Region.ready .any ops L):∃ o,ops[i]?=some o∧L.getD i false=false∧oC (fun j=>L.getD j false) o∧i < ops.size:=by
 unfold Region.ready at h
 rw [List.mem_filter,List.mem_range,Bool.and_eq_true] at h
 obtain ⟨h1,h2,h3⟩:=h
 have ho:ops[i]?=some (ops[i]'h1):=Array.getElem?_eq_getElem h1
 refine ⟨_,ho,?_,fun e he hb=>?_,h1⟩
 · have:i < L.size:=by omega
   simpa [this] using h2
 · rw [ho] at h3
   simp only [Option.map_some,Option.getD_some] at h3
   rw [Array.all_eq_true_iff_forall_mem] at h3
   have:=h3 e he
   rw [hb] at this
   simpa using this
theorem eO {ops:Array Oper} {L:Array Bool} (hsz:L.size=ops.size) {i:Nat} {o:Oper} (ho:ops[i]?=some o) (hL:L.getD i false=false) (hm:oC (fun j=>L.getD j false) o):i∈Region.ready .any ops L:=by
 have h1:=(Array.getElem?_eq_some_iff.1 ho).1
 unfold Region.ready
 rw [List.mem_filter,List.mem_range,Bool.and_eq_true]
 refine ⟨h1,?_,?_⟩
 · have:i < L.size:=by omega
   simpa [this] using hL
 · rw [ho]
   simp only [Option.map_some,Option.getD_some]
   rw [Array.all_eq_true_iff_forall_mem]
   intro e he
   by_cases hb:Region.binds .any e=true
   · have:=hm e he hb
     rw [hb]
     simpa using this
   · simp [hb]
section
variable {P:Program} {G:A8} {ops:Array Oper} {f0:List AV} {vals:Nat→AV} {sts:Nat→AS}
structure Inv (G:A8) (ops:Array Oper) (f0:List AV) (vals:Nat→AV) (sts:Nat→AS) (cx0:Cx) (w0:World) (nh:Nat) (L:Array Bool) (a:Act) (w:World):Prop where
 size:L.size=ops.size
 closed:MM ops.toList (fun j=>L.getD j false)
 st:∃ c k,k≤ops.size∧(∀ l,QE ops l→(L.getD l false=true↔l < k))∧Ext cx0 w0 c w∧St G c w (sts k)∧Cz c w (Iv f0 (Ci ops) vals (fun j=>L.getD j false) ops.size) a.tmps.toList ∧
   ∀ j y,ops[j]?=some y→Bs y.op=true→L.getD j false=false→rk ops j < nh→c.Cl[cx0.Cl.length+rk ops j]?=some none
 defers:a.defers=[]
theorem looks {x y:Oper} {t:Nat} (hx:x.dst=some t) (hy:t∈y.looksAt ops):Ms ops x y=true:=by
 simp [Ms,hx,hy]
theorem zS {x y:Oper} {t:Nat} (hx:t∈x.looksAt ops) (hy:y.dst=some t):Ms ops x y=true:=by
 simp [Ms,hx,hy]
theorem acY {x y:Oper} {t:Nat} (hx:x.dst=some t) (hy:y.dst=some t):Ms ops x y=true:=by
 simp [Ms,hx,hy]
theorem Zk {x y:Oper} (hx:calm x.op=false) (hy:calm y.op=false):Ms ops x y=true:=by
 simp [Ms,hx,hy]
theorem Bv {i:Nat} {o:Oper} (h:ops[i]?=some o):ops.toList[i]?=some o:=by rw [Array.getElem?_toList];exact h
theorem QL {L:Nat→Bool} (hord:Kw ops=true) (hc:MM ops.toList L) {i j:Nat} {x y:Oper} (hx:ops[i]?=some x) (hy:ops[j]?=some y) (hm:oC L y) (hlt:i < j) (hcl:Ms ops x y=true):L i=true :=
 We hc (Bv hy) hm (UQ hord hx hy hlt hcl)
theorem MH {L:Nat→Bool} (hord:Kw ops=true) (hc:MM ops.toList L) {i j:Nat} {x y:Oper} (hx:ops[i]?=some x) (hy:ops[j]?=some y) (hL:L i=false) (hlt:i < j) (hcl:Ms ops x y=true):L j=false:=by
 cases h:L j with
 | false=>rfl
 | true =>
   have:=We hc (Bv hy) (hc j y (Bv hy) h) (UQ hord hx hy hlt hcl)
   rw [hL] at this;cases this
theorem XQ {i t:Nat} (h:Ci ops i=some t):∃ o,ops[i]?=some o∧o.dst=some t:=by
 unfold Ci at h
 cases ho:ops[i]? with
 | none=>rw [ho] at h;cases h
 | some o=>rw [ho] at h;exact ⟨o,rfl,by simpa using h⟩
theorem UW {L:Nat→Bool} (hord:Kw ops=true) (hc:MM ops.toList L) {i:Nat} {o:Oper} (ho:ops[i]?=some o) (hL:L i=false) (hm:oC L o) {t:Nat} (ht:t∈o.looksAt ops) :
   (Iv f0 (Ci ops) vals L ops.size)[t]?=(Iv f0 (Ci ops) vals (fun _=>true) i)[t]?:=by
 have hi:=(Array.getElem?_eq_some_iff.1 ho).1
 rw [Zj (j:=i) ops.size (by omega)]
 · refine R8 i (fun j hj hd=>?_)
   obtain ⟨x,hx,hxd⟩:=XQ hd
   exact QL hord hc hx ho hm hj (looks hxd ht)
 · intro j hj _ hd
   by_cases e:j=i
   · subst e;exact hL
   · obtain ⟨y,hy,hyd⟩:=XQ hd
     exact MH hord hc ho hy hL (by omega) (zS ht hyd)
theorem qU {L M:Nat→Bool} (hord:Kw ops=true) (hc:MM ops.toList L) {i:Nat} {o:Oper} (ho:ops[i]?=some o) (hL:L i=false) (hM:M i=true) (hne:∀ j,j≠i→M j=L j) :
   Iv f0 (Ci ops) vals M ops.size=Kl (Iv f0 (Ci ops) vals L ops.size) o.dst (vals i):=by
 have hi:=(Array.getElem?_eq_some_iff.1 ho).1
 have hdi:Ci ops i=o.dst:=by unfold Ci;rw [ho];rfl
 apply List.ext_getElem?
 intro t
 by_cases hd:o.dst=some t
 · rw [Zj (j:=i+1) ops.size (by omega)]
   · simp only [Iv,hM,if_true,hdi,hd]
     rw [LC,LC,RE,RE]
   · intro j hj _ hdj
     obtain ⟨y,hy,hyd⟩:=XQ hdj
     rw [hne j (by omega)]
     exact MH hord hc ho hy hL (by omega) (acY hd hyd)
 · rw [NG hd]
   refine R8 ops.size (fun j _ hdj=>hne j (fun e=>hd ?_))
   rw [← hdi,← e];exact hdj
theorem Ext.zK {c:Cx} {w:World} {c':Cx} {w':World} (h:Ext c w c' w') {id:Nat} {y:Option Nat} (e:c.Cl[id]?=some y):c'.Cl[id]?=some y:=by
 obtain ⟨t,ht⟩:=h.Cl
 rw [← ht,List.getElem?_append_left (List.getElem?_eq_some_iff.1 e).1]
 exact e
theorem eN {nh:Nat} (hord:Kw ops=true)
   (hl:∀ i o,ops[i]?=some o→calm o.op=false→Sound P G (.op ops o (Iv f0 (Ci ops) vals (fun _=>true) i) (sts i) (.ret (vals i)) (sts (i+1))))
   (hq:∀ i o,ops[i]?=some o→quiet o.op=true→sts (i+1)=sts i∧((BU ops (Iv f0 (Ci ops) vals (fun _=>true) i) o=false∧vals i=.sc undef)∨(BU ops (Iv f0 (Ci ops) vals (fun _=>true) i) o=true∧∀ k,k≤ops.size→Win ops i k→Mw P G (Iv f0 (Ci ops) vals (fun _=>true) i) (sts k) o=some (.val (vals i) (sts k)))))
   (cx0:Cx) (w0:World)
   (ha:∀ i o e,ops[i]?=some o→o.op=.alloc e→sts (i+1)=sts i∧((BU ops (Iv f0 (Ci ops) vals (fun _=>true) i) o=false∧vals i=.sc undef)∨(BU ops (Iv f0 (Ci ops) vals (fun _=>true) i) o=true∧∃ z,Hb P e=some z∧rk ops i < nh∧vals i=.ptr (cx0.Cl.length+rk ops i) 0∧∀ k,k≤ops.size→Win ops i k→(sts k).get (cx0.Cl.length+rk ops i)=some (.cells (cellsOf z)))))
   (Q:Exit→Act→World→Prop) (hQ:∀ e' a' w',Qe G cx0 w0 .normal (Iv f0 (Ci ops) vals (fun _=>true) ops.size) (sts ops.size) e' a' w'→Q e' a' w') :
   ∀ (fuel:Nat) (L:Array Bool) (a:Act) (w:World),Inv G ops f0 vals sts cx0 w0 nh L a w→Kv (fun j=>L.getD j false) ops.size=fuel→wpAny P .any ops Q fuel L a w:=by
 have hqs:∀ i o,ops[i]?=some o→calm o.op=true→sts (i+1)=sts i:=fun i o h1 h2=>by
   rcases OV h2 with h2 | ⟨e,h2⟩
   · exact (hq i o h1 h2).1
   · exact (ha i o e h1 h2).1
 have fin:∀ (L:Array Bool) (a:Act) (w:World),Inv G ops f0 vals sts cx0 w0 nh L a w→(∀ i,i < ops.size→L.getD i false=true)→Q .normal a w:=by
   intro L a w hI hall
   obtain ⟨c,k,hk,hlk,hx,hst,hfr,_⟩:=hI.st
   have hsts:sts k=sts ops.size:=SJ hqs ops.size hk (Nat.le_refl _) (fun m h1 h2 hm=>by have:=(hlk m hm).1 (hall m h2);omega)
   rw [hsts] at hst
   refine hQ _ _ _ ⟨c,hx,hst,hI.defers,rfl,?_⟩
   have:Iv f0 (Ci ops) vals (fun j=>L.getD j false) ops.size=Iv f0 (Ci ops) vals (fun _=>true) ops.size:=by
     apply List.ext_getElem?
     intro t
     exact R8 ops.size (fun i hi _=>hall i hi)
   rw [← this];exact hfr
 intro fuel
 induction fuel with
 | zero =>
   intro L a w hI hc
   have hall:=fP ops.size hc
   refine ⟨?_,fin L a w hI hall⟩
   apply List.eq_nil_iff_forall_not_mem.2
   intro i hi
   obtain ⟨o,ho,h1,_,hlt⟩:=mem_ready hI.size hi
   have:=hall i hlt
   rw [h1] at this;cases this
 | succ fuel ih =>
   intro L a w hI hcnt
   refine ⟨fun hnil=>fin L a w hI (fun i=>?_),fun i hi=>?_⟩
   · induction i using Nat.strongRecOn with
     | _ i ihi =>
       intro hlt
       cases hLi:L.getD i false with
       | true=>rfl
       | false =>
         exfalso
         have ho:ops[i]?=some (ops[i]'hlt):=Array.getElem?_eq_getElem hlt
         have:=eO hI.size ho hLi (fun e he hb=>by
           have h1:=eH hord ho he hb
           exact ihi e.on h1 (by omega))
         rw [hnil] at this;cases this
   · obtain ⟨o,ho,hLi,hmet,hlt⟩:=mem_ready hI.size hi
     obtain ⟨c,k,hk,hlk,hx,hst,hfr,hholes⟩:=hI.st
     have hMi:(L.setIfInBounds i true).getD i false=true:=by
       have:i < L.size:=by rw [hI.size];exact hlt
       simp [this]
     have hMn:∀ j,j≠i→(L.setIfInBounds i true).getD j false=L.getD j false:=by
       intro j hj
       simp only [Array.getD_eq_getD_getElem?]
       rw [Array.getElem?_setIfInBounds_ne (fun e=>hj e.symm)]
     have hle:∀ j,L.getD j false=true→(L.setIfInBounds i true).getD j false=true:=by
       intro j hj
       by_cases e:j=i
       · subst e;exact hMi
       · rw [hMn j e];exact hj
     have hclosed':MM ops.toList (fun j=>(L.setIfInBounds i true).getD j false):=by
       intro j y hy hj e he hb
       by_cases ej:j=i
       · subst ej
         rw [Bv ho] at hy;cases hy
         exact hle _ (hmet e he hb)
       · have hj2:L.getD j false=true:=by rw [← hMn j ej];exact hj
         exact hle _ (hI.closed j y hy hj2 e he hb)
     have hcnt':Kv (fun j=>(L.setIfInBounds i true).getD j false) ops.size=fuel:=by
       have:=(pN (L:=fun j=>L.getD j false) (M:=fun j=>(L.setIfInBounds i true).getD j false) hLi hMi hMn ops.size).1 hlt
       omega
     have hput:=qU (f0:=f0) (vals:=vals) (L:=fun j=>L.getD j false) (M:=fun j=>(L.setIfInBounds i true).getD j false) hord hI.closed ho hLi hMi hMn
     have stepM:∀ (k':Nat) (u:Value) (w':World) (c':Cx),k'≤ops.size→(∀ l,QE ops l→((L.setIfInBounds i true).getD l false=true↔l < k'))→Ext cx0 w0 c' w'→Mon c w c' w' →
         (∀ j y,ops[j]?=some y→Bs y.op=true→(L.setIfInBounds i true).getD j false=false→rk ops j < nh→c'.Cl[cx0.Cl.length+rk ops j]?=some none)→St G c' w' (sts k')→Rp c' w' (vals i) u→wpAny P .any ops Q fuel (L.setIfInBounds i true) (a.put o.dst u) w':=by
       intro k' u w' c' hk' hlk' hx' hm' hh' hst' hu
       refine ih _ _ _ ⟨by simp [hI.size],hclosed',⟨c',k',hk',hlk',hx',hst',?_,hh'⟩,by cases o.dst<;>exact hI.defers⟩ hcnt'
       rw [hput]
       exact ZW (hfr.E8 hm') hu
     have step:∀ (k':Nat) (u:Value) (w':World) (c':Cx),k'≤ops.size→(∀ l,QE ops l→((L.setIfInBounds i true).getD l false=true↔l < k'))→Ext c w c' w'→St G c' w' (sts k')→Rp c' w' (vals i) u→wpAny P .any ops Q fuel (L.setIfInBounds i true) (a.put o.dst u) w':=by
       intro k' u w' c' hk' hlk' hx' hst' hu
       refine stepM k' u w' c' hk' hlk' (hx.trans hx') hx'.vW (fun j y hy hya hj hjn=>?_) hst' hu
       have hji:j≠i:=fun e=>by subst e;rw [hMi] at hj;cases hj
       rw [hMn j hji] at hj
       exact hx'.zK (hholes j y hy hya hj hjn)
     have hsees:∀ x∈o.op.operands,Vl G c w (Iv f0 (Ci ops) vals (fun _=>true) i) a.eval x:=by
       intro x hxo v hv
       cases x with
       | tmp t =>
         have hlook:t∈o.looksAt ops:=by
           unfold Oper.looksAt
           rw [List.mem_append]
           left
           rw [List.mem_filterMap]
           exact ⟨.tmp t,Array.mem_toList_iff.2 hxo,rfl⟩
         have he:=UW (f0:=f0) (vals:=vals) hord hI.closed ho hLi hmet hlook
         have:Be G (Iv f0 (Ci ops) vals (fun j=>L.getD j false) ops.size) (.tmp t)=some v:=by
           rw [← hv]
           simp only [Be,List.getD_eq_getElem?_getD,he]
         exact KX hst hfr this
       | const z=>exact KX (fr:=Iv f0 (Ci ops) vals (fun j=>L.getD j false) ops.size) hst hfr hv
       | global g=>exact KX (fr:=Iv f0 (Ci ops) vals (fun j=>L.getD j false) ops.size) hst hfr hv
       | func f=>exact KX (fr:=Iv f0 (Ci ops) vals (fun j=>L.getD j false) ops.size) hst hfr hv
     have hwant:BU ops (Iv f0 (Ci ops) vals (fun _=>true) i) o=Region.wanted o (yielded ops a.tmps):=by
       refine O8 (c:=c) (w:=w) (fun j want hg d hd=>⟨_,hfr,?_⟩)
       refine UW hord hI.closed ho hLi hmet ?_
       unfold Oper.looksAt
       rw [List.mem_append]
       right
       rw [hg]
       simp [hd]
     have fromOne:Nw P ops o (wpAny P .any ops Q fuel (L.setIfInBounds i true)) Q a w→wpOp P ops Q i (wpAny P .any ops Q fuel (L.setIfInBounds i true)) a w:=by
       intro h
       unfold wpOp
       rw [ho]
       unfold Nw at h
       simp only
       split
       · rename_i hw;rw [if_pos hw] at h;exact .inl h
       · rename_i hw;rw [if_neg hw] at h;exact h
     refine fromOne ?_
     cases hqo:calm o.op with
     | false =>
       have hki:sts k=sts i:=by
         rcases Nat.le_total k i with hle' | hle'
         · exact SJ hqs i hle' (by omega) (fun m h1 h2 hm=>by
             obtain ⟨y,hy,hyq⟩:=hm
             have:=QL hord hI.closed hy ho hmet h2 (Zk hyq hqo)
             have:=(hlk m ⟨y,hy,hyq⟩).1 this
             omega)
         · exact (SJ hqs k hle' hk (fun m h1 h2 hm=>by
             obtain ⟨y,hy,hyq⟩:=hm
             have hLm:=(hlk m ⟨y,hy,hyq⟩).2 h2
             by_cases e:m=i
             · subst e;rw [hLi] at hLm;cases hLm
             · have:=MH hord hI.closed ho hy hLi (by omega) (Zk hqo hyq)
               rw [this] at hLm;cases hLm)).symm
       rw [hki] at hst
       refine hl i o ho hqo c w a _ _ hst hsees hwant ?_
       intro u w' c' hx' hst' hu
       refine step (i+1) u w' c' (by omega) (fun l hl'=>?_) hx' hst' hu
       by_cases e:l=i
       · subst e;rw [hMi];simp
       · rw [hMn l e,hlk l hl']
         obtain ⟨y,hy,hyq⟩:=hl'
         constructor
         · intro hlt'
           have hLl:=(hlk l ⟨y,hy,hyq⟩).2 hlt'
           rcases Nat.lt_or_ge l i with h1 | h1
           · omega
           · have:=MH hord hI.closed ho hy hLi (by omega) (Zk hqo hyq)
             rw [this] at hLl;cases hLl
         · intro hlt'
           have:=QL hord hI.closed hy ho hmet (by omega) (Zk hyq hqo)
           exact (hlk l ⟨y,hy,hyq⟩).1 this
     | true =>
       have hlk':∀ l,QE ops l→((L.setIfInBounds i true).getD l false=true↔l < k):=by
         intro l hl'
         have hne:l≠i:=by
           intro e
           subst e
           obtain ⟨y,hy,hyq⟩:=hl'
           rw [ho] at hy;cases hy
           rw [hqo] at hyq;cases hyq
         rw [hMn l hne]
         exact hlk l hl'
       have hwin:Win ops i k:=by
         refine ⟨fun l hl' hd=>?_,fun l hl' hd=>?_⟩
         · exact (hlk l hl').1 (We hI.closed (Bv ho) hmet hd)
         · rcases Nat.lt_or_ge l k with h1 | h1
           · exfalso
             have hLl:=(hlk l hl').2 h1
             obtain ⟨y,hy,hyq⟩:=hl'
             have:=We hI.closed (Bv hy) (hI.closed l y (Bv hy) hLl) hd
             rw [hLi] at this;cases this
           · exact h1
       unfold Nw
       rcases OV hqo with hqo | ⟨e,hoe⟩
       · obtain ⟨_,hcase⟩:=hq i o ho hqo
         rcases hcase with ⟨hw,hv⟩ | ⟨hw,hv⟩
         · rw [← hwant,hw]
           simp only [Bool.false_eq_true,if_false]
           exact step k undef w c hk hlk' (Ext.refl c w) hst (by rw [hv];exact .sc rfl)
         · rw [← hwant,hw]
           simp only [if_true]
           have hfine:=V6 hst hsees (fun _=>rfl) (hv k hk hwin)
           obtain ⟨u,w',c',hr,hx',hst',hu⟩:=hfine
           unfold Oper.wp
           rcases hr with hr | ⟨hr,rfl⟩
           · rw [hr];exact step k u w' c' hk hlk' hx' hst' hu
           · rw [hr];exact step k undef w' c' hk hlk' hx' hst' hu
       · obtain ⟨_,hcase⟩:=ha i o e ho hoe
         rcases hcase with ⟨hw,hv⟩ | ⟨hw,z,hz,hrk,hv,hgets⟩
         · rw [← hwant,hw]
           simp only [Bool.false_eq_true,if_false]
           exact step k undef w c hk hlk' (Ext.refl c w) hst (by rw [hv];exact .sc rfl)
         · rw [← hwant,hw]
           simp only [if_true]
           have hia:Bs o.op=true:=by rw [hoe];rfl
           obtain ⟨u,w',c',hr,hm',hst',hu,hext,hoth⟩:=YZ (ρ:=a.eval) hst hoe hz (hholes i o ho hia hLi hrk) (hgets k hk hwin)
           unfold Oper.wp
           rw [hr]
           refine stepM k u w' c' hk hlk' (hext cx0 w0 hx (by omega)) hm' (fun j y hy hya hj hjn=>?_) hst' (by rw [hv];exact hu)
           have hji:j≠i:=fun e=>by subst e;rw [hMi] at hj;cases hj
           rw [hMn j hji] at hj
           have hne:rk ops j≠rk ops i:=fun e=>hji (aat hy ho hya hia e)
           rw [hoth _ (by omega)]
           exact hholes j y hy hya hj hjn
end
end AI
namespace AI
open Go Go.RowKit
theorem Zz {G:A8} {c:Cx} {w:World} {s:AS} {fr:List AV} {a:Act} (hs:St G c w s) (hf:Cz c w fr a.tmps.toList) (x:Operand):Vl G c w fr a.eval x:=fun _ hv=>KX hs hf hv
theorem UH {P:Program} {ops:Array Oper} {o:Oper} {i:Nat} {l:List Nat} {Q:Exit→Act→World→Prop} {a:Act} {w:World} (ho:ops[i]?=some o) (h:Nw P ops o (wpOps P ops Q l) Q a w):wpOps P ops Q (i::l) a w:=by
 unfold wpOps
 rw [ho]
 unfold Nw at h
 simp only
 split
 · rename_i hw;rw [if_pos hw] at h;exact .inl h
 · rename_i hw;rw [if_neg hw] at h;exact h
theorem Qe.Vc {G:A8} {c:Cx} {w:World} {e:AX} {fr':List AV} {s':AS} {e':Exit} {a':Act} {w':World} (h:Qe G c w e fr' s' e' a' w') (he:e≠.normal):e'≠.normal:=by
 obtain ⟨c',_,_,_,h4⟩:=h
 cases e with
 | normal=>exact absurd rfl he
 | exit id=>intro h5;rw [h4.1] at h5;cases h5
 | ret=>intro h5;rw [h4.1] at h5;cases h5
 | pan v=>obtain ⟨u,h5,_⟩:=h4;intro h6;rw [h5] at h6;cases h6
theorem Wm {K:Act→World→Prop} {Q:Exit→Act→World→Prop} {e:Exit} {a:Act} {w:World} (he:e≠.normal) (h:Q e a w):Exit.then K Q e a w:=by
 cases e<;>first | exact absurd rfl he | exact h
structure W7 (P:Program) (G:A8) (X:OY) (H:Mn):Prop where
 mixed:P.follows .mixedOrders=true
 ext:∀ f args s r s',X f args s r s'→Sound P G (.call f args s r s')
 hook:∀ f args g gargs k,H f args=some (g,gargs,k)→∀ s r s' r',Sound P G (.call g gargs s r s')→k r=some r'→Sound P G (.call f args s r' s')
theorem sound {P:Program} {G:A8} {X:OY} {H:Mn} (hg:W7 P G X H) {jd:Jd} (h:J P G X H jd):Sound P G jd:=by
 induction h with
 | weak hw _ ih=>intro cx w a Q hs hf hd hQ;obtain ⟨c2,x,h1,h2⟩:=hw cx w _ hs hf;exact ih c2 w a Q h1 h2 hd (fun e a w hp=>hQ e a w (hp.ext x))
 | weakL hw _ ih=>obtain ⟨n,ih⟩:=ih;exact ⟨n,fun cx w a Q hs hf hd hQ=>by obtain ⟨c2,x,h1,h2⟩:=hw cx w _ hs hf;exact ih c2 w a Q h1 h2 hd (fun e a w hp=>hQ e a w (hp.ext x))⟩
 | opWeak _ _ hv ih =>
   intro cx w a K Q hs hev hwa hK
   exact ih cx w a K Q hs hev hwa (fun u w' c' x st hu=>hK u w' c' x st (hv _ _ _ hu))
 | opWeakS _ _ hv ih =>
   intro cx w a K Q hs hev hwa hK
   exact ih cx w a K Q hs hev hwa (fun u w' c' x st hu=>hK u w' c' x (hv _ _ st) hu)
 | @scope c fr fr2 fr' s s2 s' e _ he hsc ih =>
   intro cx w a Q hs hf hd hQ
   refine ih cx w a Q hs hf hd ?_
   rintro e' a' w' ⟨c',hx,hs',hd',h4⟩
   cases e with
   | normal=>obtain ⟨rfl,h5⟩:=h4;obtain ⟨c2,x2,st2,f2⟩:=hsc cx w c' w' _ hx hs hs' h5;exact hQ _ _ _ ⟨c2,x2,st2,hd',rfl,f2⟩
   | exit id=>obtain ⟨rfl,h5⟩:=h4;obtain ⟨c2,x2,st2,f2⟩:=hsc cx w c' w' _ hx hs hs' h5;exact hQ _ _ _ ⟨c2,x2,st2,hd',rfl,f2⟩
   | ret=>obtain ⟨rfl,h5⟩:=h4;obtain ⟨c2,x2,st2,f2⟩:=hsc cx w c' w' _ hx hs hs' h5;exact hQ _ _ _ ⟨c2,x2,st2,hd',rfl,f2⟩
   | pan v=>exact absurd rfl (he v)
 | skip=>intro cx w a Q hs hf hd hQ;exact wp_skip (hQ _ _ _ ⟨cx,Ext.refl _ _,hs,hd,rfl,hf⟩)
 | exit=>intro cx w a Q hs hf hd hQ;exact wp_exit (hQ _ _ _ ⟨cx,Ext.refl _ _,hs,hd,rfl,hf⟩)
 | ret=>intro cx w a Q hs hf hd hQ;exact wp_ret (hQ _ _ _ ⟨cx,Ext.refl _ _,hs,hd,rfl,hf⟩)
 | seq _ _ ih1 ih2 =>
   intro cx w a Q hs hf hd hQ
   refine wp_seq (ih1 cx w a _ hs hf hd ?_)
   rintro e' a' w' ⟨c',hx,hs',hd',rfl,hf'⟩
   exact ih2 c' w' a' Q hs' hf' hd' (fun e2 a2 w2 h2=>hQ e2 a2 w2 (h2.ext hx))
 | seqX _ he ih1 =>
   intro cx w a Q hs hf hd hQ
   refine wp_seq (ih1 cx w a _ hs hf hd ?_)
   intro e' a' w' hp
   exact Wm (hp.Vc he) (hQ _ _ _ hp)
 | @cond q x y t fr fr' s s' e hq _ ih =>
   intro cx w a Q hs hf hd hQ
   have hr:=KX hs hf hq
   have hev:a.eval q=.bool t:=by
     generalize a.eval q=v at hr
     cases hr;rfl
   exact wp_cond hev (ih cx w a Q hs hf hd hQ)
 | @block id c fr fr' s s' e _ ih =>
   intro cx w a Q hs hf hd hQ
   refine wp_block (ih cx w a _ hs hf hd ?_)
   rintro e' a' w' ⟨c',hx,hs',hd',h4⟩
   cases e with
   | normal=>obtain ⟨rfl,h5⟩:=h4;exact hQ _ _ _ ⟨c',hx,hs',hd',rfl,h5⟩
   | exit id' =>
     obtain ⟨rfl,h5⟩:=h4
     show if id'=id then Q .normal a' w' else Q (.exit id') a' w'
     by_cases hid:id'=id
     · rw [if_pos hid]
       refine hQ _ _ _ ⟨c',hx,hs',hd',?_⟩
       simp only [EH,hid,if_true]
       exact ⟨trivial,h5⟩
     · rw [if_neg hid]
       refine hQ _ _ _ ⟨c',hx,hs',hd',?_⟩
       simp only [EH,hid,if_false]
       exact ⟨trivial,h5⟩
   | ret=>obtain ⟨rfl,h5⟩:=h4;exact hQ _ _ _ ⟨c',hx,hs',hd',rfl,h5⟩
   | pan v=>obtain ⟨u,rfl,h5⟩:=h4;exact hQ _ _ _ ⟨c',hx,hs',hd',u,rfl,h5⟩
 | loop _ ih =>
   intro cx w a Q hs hf hd hQ
   obtain ⟨n,hn⟩:=ih
   exact wp_loop_rounds n (hn cx w a Q hs hf hd hQ)
 | loopN _ _ ih1 ih2 =>
   obtain ⟨n,hn⟩:=ih2
   refine ⟨n+1,?_⟩
   intro cx w a Q hs hf hd hQ
   rw [rounds_succ]
   refine ih1 cx w a _ hs hf hd ?_
   rintro e' a' w' ⟨c',hx,hs',hd',rfl,hf'⟩
   exact hn c' w' a' Q hs' hf' hd' (fun e2 a2 w2 h2=>hQ e2 a2 w2 (h2.ext hx))
 | loopX _ he ih1 =>
   refine ⟨1,?_⟩
   intro cx w a Q hs hf hd hQ
   rw [rounds_succ]
   refine ih1 cx w a _ hs hf hd ?_
   intro e' a' w' hp
   exact Wm (hp.Vc he) (hQ _ _ _ hp)
 | region _ ih =>
   intro cx w a Q hs hf hd hQ
   exact wp_region (ih cx w a Q hs hf hd hQ)
 | opsNil=>intro cx w a Q hs hf hd hQ;exact hQ _ _ _ ⟨cx,Ext.refl _ _,hs,hd,rfl,hf⟩
 | @opsCons ops i l o v fr fr' s s1 s' e ho _ _ ih1 ih2 =>
   intro cx w a Q hs hf hd hQ
   refine UH ho (ih1 cx w a _ _ hs (fun x _=>Zz hs hf x) (O8 (c:=cx) (w:=w) (fun _ _ _ _ _=>⟨fr,hf,rfl⟩)) ?_)
   intro u w' c' hx hs' hu
   exact ih2 c' w' (a.put o.dst u) Q hs' (ZW (hf.mono hx) hu) (by cases o.dst<;>exact hd) (fun e2 a2 w2 h2=>hQ e2 a2 w2 (h2.ext hx))
 | @opsPan ops i l o v fr s s1 ho _ ih1 =>
   intro cx w a Q hs hf hd hQ
   refine UH ho (ih1 cx w a _ _ hs (fun x _=>Zz hs hf x) (O8 (c:=cx) (w:=w) (fun _ _ _ _ _=>⟨fr,hf,rfl⟩)) ?_)
   intro u w' c' hx hs' hu
   exact hQ _ _ _ ⟨c',hx,hs',hd,u,rfl,hu⟩
 | @opVal ops o fr s s' v hw h =>
   intro cx w a K Q hs hev hwa hK
   unfold Nw
   rw [← hwa,hw]
   simp only [if_true]
   obtain ⟨u,w',c',hr,hx,hs',hu⟩:=V6 hs hev (fun _=>rfl) h
   unfold Oper.wp
   rcases hr with hr | ⟨hr,rfl⟩
   · rw [hr];exact hK u w' c' hx hs' hu
   · rw [hr];exact hK undef w' c' hx hs' hu
 | @opApp ops o fr s s' cl x y t tx a b v hw ho hcl hxs hts ha hb h =>
   intro cx w ac K Q hs hev hwa hK
   unfold Nw
   rw [← hwa,hw]
   simp only [if_true]
   have e1:cl.args=#[x,y]:=by apply Array.ext';rw [hxs]
   have e2:cl.argTypes=#[t,tx]:=by apply Array.ext';rw [hts]
   have hop:∀ z∈[x,y],z∈o.op.operands:=fun z hz=>by rw [ho];simp only [Op.operands,Call.operands,e1,Array.mem_append];exact .inr (by simpa using hz)
   obtain ⟨u,w',c',hr,hx,hs',hu⟩:=h cx w _ _ o.type hs (hev x (hop x (by simp)) a ha) (hev y (hop y (by simp)) b hb)
   unfold Oper.wp
   have hr2:(execOp ac.eval o).run P w=.ok (.value u) w':=by
     simp [execOp,ho,resolve,hcl,e1,e2,invoke,builtin,hr]
   rw [hr2]
   exact hK u w' c' hx hs' hu
 | @opSkip ops o fr s hw =>
   intro cx w a K Q hs hev hwa hK
   unfold Nw
   rw [← hwa,hw]
   simp only [Bool.false_eq_true,if_false]
   exact hK undef w cx (Ext.refl _ _) hs (.sc rfl)
 | @opCall ops o fr s s' f args r hw h _ ih =>
   intro cx w a K Q hs hev hwa hK
   unfold Nw
   rw [← hwa,hw]
   simp only [if_true]
   obtain ⟨vs,hr,hargs⟩:=V6 hs hev (fun _=>rfl) h
   unfold Oper.wp
   rw [hr]
   refine (ih cx w vs hs hargs).mono ?_
   rintro e w' ⟨c',hx,hs',h4⟩
   cases r with
   | ret v=>obtain ⟨u,rfl,hu⟩:=h4;exact hK u w' c' hx hs' hu
   | pan v=>obtain ⟨u,rfl,hu⟩:=h4;exact hK u w' c' hx hs' hu
 | @opPan ops o fr s v hw h =>
   intro cx w a K Q hs hev hwa hK
   unfold Nw
   rw [← hwa,hw]
   simp only [if_true]
   obtain ⟨u,hr,hu⟩:=V6 hs hev (fun _=>rfl) h
   unfold Oper.wp
   rw [hr]
   exact hK u w cx (Ext.refl _ _) hs hu
 | @draw id ops f0 s0 rs vals sts h0 hord hl hq ha ihl =>
   intro cx w a Q hs hf hd hQ
   refine wp_region_any hg.mixed ?_
   obtain ⟨x,st⟩:=hs.same (eF w)
   obtain ⟨c2,x2,st2,hphi⟩:=st.holds rs
   rw [← h0] at st2
   rw [hs.len] at ha
   refine eN (nh:=rs.length) hord ihl hq cx w ha Q hQ ops.size _ a _ ⟨by simp,?_,⟨c2,0,Nat.zero_le _,?_,x.trans x2,st2,?_,?_⟩,hd⟩ ?_
   · intro i o ho hL
     exfalso
     simp only [Array.getD_eq_getD_getElem?,Array.getElem?_replicate] at hL
     split at hL<;>simp at hL
   · intro l _
     simp only [Array.getD_eq_getD_getElem?,Array.getElem?_replicate]
     split<;>simp
   · have:Iv f0 (Ci ops) vals (fun j=>(Array.replicate ops.size false).getD j false) ops.size=f0:=by
       have key:∀ n,Iv f0 (Ci ops) vals (fun j=>(Array.replicate ops.size false).getD j false) n=f0:=by
         intro n
         induction n with
         | zero=>rfl
         | succ n ih =>
           simp only [Iv,ih]
           rw [if_neg]
           simp only [Array.getD_eq_getD_getElem?,Array.getElem?_replicate]
           split<;>simp
       exact key _
     rw [this]
     exact hf.mono (x.trans x2)
   · intro j y _ _ _ hj
     rw [hphi,List.getElem?_append_right (by omega)]
     simp [List.getElem?_replicate]
     omega
   · have key:∀ n,Kv (fun j=>(Array.replicate ops.size false).getD j false) n=n:=by
       intro n
       induction n with
       | zero=>rfl
       | succ n ih =>
         simp only [Kv,ih]
         have:(Array.replicate ops.size false).getD n false=false:=by
           simp only [Array.getD_eq_getD_getElem?,Array.getElem?_replicate]
           split<;>simp
         simp only [this];simp
     exact key _
 | @body f fn c args fr' s s' s2 e v hf hb _ he hr hk ih =>
   intro cx w vs hs hargs
   have hl:=hargs.len
   refine calls_of_wp hf hb (ih cx w _ _ hs ?_ rfl ?_)
   · simp only [Array.toList_append,Array.toList_replicate]
     rw [List.size_toArray,hl]
     exact hargs.append (Cz.replicate (.sc rfl) _)
   · rintro e' a' w' ⟨c',hx,hs',hd',h4⟩
     have hs2:St G c' w' s2:=by
       rcases hk with rfl | rfl
       · exact hs'.cut _
       · exact hs'
     rcases he with rfl | rfl
     · obtain ⟨rfl,h5⟩:=h4
       obtain ⟨u,h6,h7⟩:=Rj hs' h5 hr
       exact ⟨hd',u,h6,c',hx,hs2,u,rfl,h7⟩
     · obtain ⟨rfl,h5⟩:=h4
       obtain ⟨u,h6,h7⟩:=Rj hs' h5 hr
       exact ⟨hd',u,h6,c',hx,hs2,u,rfl,h7⟩
 | @Kq f fn c args fr' s s' v hf hb _ ih =>
   intro cx w vs hs hargs
   have hl:=hargs.len
   refine calls_of_wp hf hb (ih cx w _ _ hs ?_ rfl ?_)
   · simp only [Array.toList_append,Array.toList_replicate]
     rw [List.size_toArray,hl]
     exact hargs.append (Cz.replicate (.sc rfl) _)
   · rintro e' a' w' ⟨c',hx,hs',hd',u,rfl,h5⟩
     exact ⟨hd',c',hx,hs'.cut _,u,rfl,h5⟩
 | ext h=>exact hg.ext _ _ _ _ _ h
 | hook hh _ hk ih=>exact hg.hook _ _ _ _ _ hh _ _ _ _ ih hk
end AI
namespace AI
open Go Go.RowKit
def m1:Value→Value→Bool
 | .int k a,.int k' b=>k == k'&&a == b
 | .bool a,.bool b=>a == b
 | .string a,.string b=>a.data.toList == b.data.toList
 | .nilIface,.nilIface=>true
 | .nilFunc,.nilFunc=>true
 | .pointer none,.pointer none=>true
 | .map none,.map none=>true
 | .tuple a,.tuple b=>a.size == 0&&b.size == 0
 | _,_=>false
theorem Zl {a b:Value} (h:m1 a b=true):a=b:=by
 unfold m1 at h
 split at h
 · simp at h;rw [h.1,h.2]
 · simp at h;rw [h]
 · simp only [beq_iff_eq] at h
   rename_i x y
   have:x=y:=ByteArray.ext (Array.ext' h)
   rw [this]
 · rfl
 · rfl
 · rfl
 · rfl
 · rename_i x y
   simp at h
   rw [h.1,h.2]
 · cases h
mutual
def OR:AV→AV→Bool
 | .sc a,.sc b=>m1 a b
 | .agg a,.agg b=>Sw a b
 | .Bd a,.Bd b=>Sw a b
 | .sl o n a,.sl p m b=>decide (o=p)&&n == m&&Sw a b
 | .msl a b c,.msl x y z=>a == x&&b == y&&c == z
 | .el a,.el b=>Sw a b
 | .ptr a b,.ptr x y=>a == x&&b == y
 | .fn f a b,.fn g x y=>decide (f=g)&&Sw a x&&Sw b y
 | .ifc t a,.ifc u b=>t == u&&OR a b
 | .mp a,.mp b=>a == b
 | _,_=>false
def Sw:List AV→List AV→Bool
 | [],[]=>true
 | a::as,b::bs=>OR a b&&Sw as bs
 | _,_=>false
end
mutual
theorem Wc:∀ {a b:AV},OR a b=true→a=b
 | .sc a,b,h=>by cases b<;>simp [OR] at h;rw [Zl h]
 | .agg a,b,h=>by cases b<;>simp [OR] at h;rw [LG h]
 | .Bd a,b,h=>by cases b<;>simp [OR] at h;rw [LG h]
 | .sl o n a,b,h=>by cases b<;>simp [OR] at h;rw [h.1.1,h.1.2,LG h.2]
 | .msl _ _ _,b,h=>by cases b<;>simp [OR] at h;rw [h.1.1,h.1.2,h.2]
 | .el a,b,h=>by cases b<;>simp [OR] at h;rw [LG h]
 | .ptr _ _,b,h=>by cases b<;>simp [OR] at h;rw [h.1,h.2]
 | .fn f a c,b,h=>by cases b<;>simp [OR] at h;rw [h.1.1,LG h.1.2,LG h.2]
 | .ifc t a,b,h=>by cases b<;>simp [OR] at h;rw [h.1,Wc h.2]
 | .mp _,b,h=>by cases b<;>simp [OR] at h;rw [h]
 | .any,b,h=>by cases b<;>simp [OR] at h
theorem LG:∀ {a b:List AV},Sw a b=true→a=b
 | [],b,h=>by cases b<;>simp [Sw] at h;rfl
 | a::as,b,h=>by cases b<;>simp [Sw] at h;rw [Wc h.1,LG h.2]
end
def reads:Op→Bool
 | .load .. | .lookup ..=>true
 | .call cl=>(match cl.callee with
   | .builtin .len=>true
   | _=>false)
 | _=>false
theorem Oa {P:Program} {G:A8} {fr:List AV} {s:AS} {o:Oper} {r:AR} (hq:quiet o.op=true) (h:Mw P G fr s o=some r):∃ v,r=.val v s:=by
 unfold Mw at h
 split at h<;>rename_i ho<;>(try (rw [ho] at hq;simp [quiet] at hq;done))
 all_goals first
   | (obtain ⟨v,_,rfl⟩:=map_some h;exact ⟨_,rfl⟩)
   | (split at h
      all_goals first
        | (obtain ⟨v,_,rfl⟩:=map_some h;exact ⟨_,rfl⟩)
        | (cases h;done)
        | (cases h;exact ⟨_,rfl⟩)
        | (split at h
           all_goals first
             | (cases h;done)
             | (cases h;exact ⟨_,rfl⟩)))
   | (obtain ⟨_,_,h2⟩:=bind_some h;obtain ⟨v,_,rfl⟩:=map_some h2;exact ⟨_,rfl⟩)
   | (rw [ho] at hq
      unfold OG at h
      split at h
      all_goals first
        | (obtain ⟨_,_,h2⟩:=bind_some h;obtain ⟨v,_,rfl⟩:=map_some h2;exact ⟨_,rfl⟩)
        | (rename_i hcl;simp [quiet,hcl] at hq;done)
        | (split at h
           all_goals first
             | (obtain ⟨v,_,rfl⟩:=map_some h;exact ⟨_,rfl⟩)
             | (cases h;done))
        | (cases h;done))
   | (cases h;done)
theorem M4 {P:Program} {G:A8} {fr:List AV} {s:AS} {o:Oper} {v:AV} {s':AS} (hq:quiet o.op=true) (hr:reads o.op=false) (h:Mw P G fr s o=some (.val v s')) (s2:AS):Mw P G fr s2 o=some (.val v s2):=by
 have e:=Oa hq h
 obtain ⟨v',e⟩:=e
 injection e with e1 e2
 subst e1 e2
 obtain ⟨dst,op,ty,pos,after,guard⟩:=o
 cases op<;>simp only [quiet,reads,Bool.false_eq_true] at hq hr<;>simp only [Mw] at h ⊢
 all_goals first
   | (obtain ⟨v',h1,h2⟩:=map_some h;injection h2 with h2;subst h2;rw [h1];rfl)
   | (obtain ⟨q,h0,h2⟩:=bind_some h;obtain ⟨v',h1,h3⟩:=map_some h2;injection h3 with h3;subst h3;rw [h0,Option.bind_some,h1];rfl)
   | (split at h
      all_goals first
        | (obtain ⟨v',h1,h2⟩:=map_some h;injection h2 with h2;subst h2;simp only [*,Option.map_some];done)
        | (cases h;done)
        | (cases h;simp only [*];done)
        | (split at h
           all_goals first
             | (cases h;done)
             | (cases h;simp [*];done)))
   | (cases hr;done)
   | (rename_i cl
      unfold OG at h ⊢
      split at h
      all_goals first
        | (rename_i hcl;simp [hcl] at hr;done)
        | (rename_i hcl;simp [hcl] at hq;done)
        | (simp only;obtain ⟨q,h0,h2⟩:=bind_some h;obtain ⟨v',h1,h3⟩:=map_some h2;injection h3 with h3;subst h3;rw [h0,Option.bind_some,h1];rfl)
        | (cases h;done))
end AI
namespace AI
open Go Go.RowKit
inductive Tk where
 | code (c:Code) (fr:List AV) (s:AS)
 | loop (c:Code) (fr:List AV) (s:AS)
 | ops (ops:Array Oper) (l:List Oper) (fr:List AV) (s:AS)
 | draw (ops:Array Oper) (l:List Oper) (fr:List AV) (s:AS) (q:Nat)
 | op (ops:Array Oper) (o:Oper) (fr:List AV) (s:AS)
 | call (f:FuncId) (args:List AV) (s:AS)
inductive Rs where
 | code (e:AX) (fr:List AV) (s:AS)
 | call (r:CR) (s:AS)
 | tr (l:List (List AV×AS×AV)) (fr:List AV) (s:AS)
abbrev Q6:=FuncId→List AV→AS→Option (CR×AS)
def HW:List Oper→Nat→List Nat
 | [],_=>[]
 | o::os,i=>if calm o.op then HW os (i+1) else i::HW os (i+1)
def bQ (ms:List Nat) (ls:List Nat) (i k:Nat):Bool:=ls.all fun l=>(!Qs ms i l||decide (l < k))&&(!Qs ms l i||decide (k≤l))
def Qf (P:Program) (G:A8) (ms ls:List Nat) (i:Nat) (o:Oper) (fr:List AV) (v:AV):List AS→Nat→Bool
 | [],_=>true
 | s::ss,k=>(!bQ ms ls i k||(match Mw P G fr s o with
     | some (.val u _)=>OR u v
     | _=>false))&&Qf P G ms ls i o fr v ss (k+1)
def RP (P:Program) (G:A8) (ops:Array Oper) (ms ls:List Nat) (sts:List AS):List Oper→List (List AV×AS×AV)→Nat→Bool
 | o::os,t::ts,i=>(!(quiet o.op&&reads o.op)||!BU ops t.1 o||Qf P G ms ls i o t.1 t.2.2 sts 0)&&RP P G ops ms ls sts os ts (i+1)
 | _,_,_=>true
def Te (ms ls:List Nat) (i id:Nat) (cs:List AV):List AS→Nat→Bool
 | [],_=>true
 | s::ss,k=>(!bQ ms ls i k||(match s.get id with
     | some (.cells ds)=>Sw ds cs
     | _=>false))&&Te ms ls i id cs ss (k+1)
def NK (P:Program) (ops:Array Oper) (ms ls:List Nat) (sts:List AS):List Oper→List (List AV×AS×AV)→Nat→Nat→Bool
 | o::os,t::ts,i,q=>(match o.op with
   | .alloc e=>(!BU ops t.1 o||(match Hb P e with
     | some z=>Te ms ls i q (cellsOf z) sts 0
     | none=>false))&&NK P ops ms ls sts os ts (i+1) (q+1)
   | _=>NK P ops ms ls sts os ts (i+1) q)
 | _,_,_,_=>true
def lN (P:Program):List Oper→Option (List A5)
 | []=>some []
 | o::l=>(match o.op with
   | .alloc e=>(match Hb P e,lN P l with
     | some z,some r=>some (.cells (cellsOf z)::r)
     | _,_=>none)
   | _=>lN P l)
def Vv (P:Program) (G:A8) (ops:Array Oper) (tr:List (List AV×AS×AV)) (sf:AS):Bool :=
 match HW ops.toList 0 with
 | []=>true
 | ls=>RP P G ops (Io ops.toList []) ls (tr.map (·.2.1)++[sf]) ops.toList tr 0
def Ob (P:Program) (ops:Array Oper) (tr:List (List AV×AS×AV)) (sf:AS) (q:Nat):List A5→Bool
 | []=>true
 | _=>NK P ops (Io ops.toList []) (HW ops.toList 0) (tr.map (·.2.1)++[sf]) ops.toList tr 0 q
def TA (P:Program) (G:A8) (ops:Array Oper) (tr:List (List AV×AS×AV)) (sf:AS) (q:Nat) (r:List A5):Bool :=
 match Vv P G ops tr sf with
 | true=>Ob P ops tr sf q r
 | false=>false
def acm:AV→Bool
 | .ptr _ _ | .msl _ _ _ | .mp _ | .fn _ _ _=>true
 | _=>false
def uQ:List AV→Bool
 | []=>false
 | a::l=>match acm a with
   | true=>true
   | false=>uQ l
def esc:AV→Bool
 | .agg l=>uQ l
 | .Bd l=>uQ l
 | a=>acm a
def fin (v:AV) (s:AS) (n:Nat):AS:=match esc v with
 | true=>s
 | false=>s.cut n
theorem fV (v:AV) (s:AS) (n:Nat):fin v s n=s.cut n∨fin v s n=s:=by
 unfold fin
 cases esc v
 · exact .inl rfl
 · exact .inr rfl
abbrev XP (X:Q6):OY:=fun f args s r s'=>X f args s=some (r,s')
def I8 (ops:Array Oper) (fr:List AV) (o:Oper) (q:Nat):AV:=match BU ops fr o with
 | true=>.ptr q 0
 | false=>.sc undef
inductive LH (P:Program) (G:A8) (X:OY) (H:Mn) (ops:Array Oper):Nat→List Oper→List AV→AS→List (List AV×AS×AV)→List AV→AS→Prop where
 | nil {q:Nat} {fr:List AV} {s:AS}:LH P G X H ops q [] fr s [] fr s
 | cons {q:Nat} {o:Oper} {l:List Oper} {fr fr':List AV} {s s1 s':AS} {v:AV} {t:List (List AV×AS×AV)} (ha:Bs o.op=false) (h:J P G X H (.op ops o fr s (.ret v) s1)) (k:LH P G X H ops q l (Kl fr o.dst v) s1 t fr' s'):LH P G X H ops q (o::l) fr s ((fr,s,v)::t) fr' s'
 | alloc {q:Nat} {o:Oper} {l:List Oper} {fr fr':List AV} {s s':AS} {t:List (List AV×AS×AV)} (ha:Bs o.op=true) (k:LH P G X H ops (q+1) l (Kl fr o.dst (I8 ops fr o q)) s t fr' s'):LH P G X H ops q (o::l) fr s ((fr,s,I8 ops fr o q)::t) fr' s'
def Rt (P:Program) (G:A8) (X:OY) (H:Mn):Tk→Rs→Prop
 | .code c fr s,.code e fr' s'=>J P G X H (.code c fr s e fr' s')
 | .loop c fr s,.code e fr' s'=>J P G X H (.loop c fr s e fr' s')
 | .ops ops l fr s,.code e fr' s'=>∀ k,l=ops.toList.drop k→J P G X H (.ops ops (List.range' k l.length) fr s e fr' s')
 | .draw ops l fr s q,.tr t fr' s'=>LH P G X H ops q l fr s t fr' s'
 | .op ops o fr s,.call r s'=>J P G X H (.op ops o fr s r s')
 | .call f args s,.call r s'=>J P G X H (.call f args s r s')
 | _,_=>False
section
variable {P:Program} {G:A8} {X:OY} {H:Mn} {ops:Array Oper}
theorem LH.len {q:Nat} {l:List Oper} {fr fr':List AV} {s s':AS} {t:List (List AV×AS×AV)} (h:LH P G X H ops q l fr s t fr' s'):t.length=l.length:=by
 induction h with
 | nil=>rfl
 | cons _ _ _ ih=>simp [ih]
 | alloc _ _ ih=>simp [ih]
def C9 (t:List (List AV×AS×AV)) (sf:AS) (i:Nat):AS:=match t[i]? with
 | some x=>x.2.1
 | none=>sf
def GL (t:List (List AV×AS×AV)) (i:Nat):AV:=match t[i]? with
 | some x=>x.2.2
 | none=>.sc undef
theorem LH.at {q:Nat} {l:List Oper} {fr fr':List AV} {s s':AS} {t:List (List AV×AS×AV)} (h:LH P G X H ops q l fr s t fr' s'):C9 t s' 0=s∧∀ i o,l[i]?=some o→∃ fi,t[i]?=some (fi,C9 t s' i,GL t i) ∧
   ((Bs o.op=false∧J P G X H (.op ops o fi (C9 t s' i) (.ret (GL t i)) (C9 t s' (i+1))))∨(Bs o.op=true∧C9 t s' (i+1)=C9 t s' i∧GL t i=I8 ops fi o (q+XJ l i))):=by
 induction h with
 | nil=>exact ⟨rfl,fun i o ho=>by simp at ho⟩
 | @cons q o l fr fr' s s1 s' v t ha h k ih =>
   refine ⟨rfl,fun i o' ho=>?_⟩
   cases i with
   | zero =>
     simp at ho;subst ho
     refine ⟨fr,rfl,.inl ⟨ha,?_⟩⟩
     have:C9 ((fr,s,v)::t) s' 1=s1:=by
       have:=ih.1
       unfold C9 at this ⊢
       simpa using this
     rw [this]
     exact h
   | succ i =>
     obtain ⟨fi,h1,h2⟩:=ih.2 i o' (by simpa using ho)
     refine ⟨fi,?_,?_⟩
     · have:((fr,s,v)::t)[i+1]?=t[i]?:=by simp
       rw [this,h1]
       simp [C9,GL]
     · simp only [XJ,ha,Nat.zero_add]
       simpa [C9,GL] using h2
 | @alloc q o l fr fr' s s' t ha k ih =>
   refine ⟨rfl,fun i o' ho=>?_⟩
   cases i with
   | zero =>
     simp at ho;subst ho
     refine ⟨fr,rfl,.inr ⟨ha,?_,?_⟩⟩
     · have:=ih.1
       unfold C9 at this ⊢
       simpa using this
     · simp [GL,XJ]
   | succ i =>
     obtain ⟨fi,h1,h2⟩:=ih.2 i o' (by simpa using ho)
     refine ⟨fi,?_,?_⟩
     · have:((fr,s,I8 ops fr o q)::t)[i+1]?=t[i]?:=by simp
       rw [this,h1]
       simp [C9,GL]
     · simp only [XJ,ha]
       rw [← Nat.add_assoc]
       simpa [C9,GL] using h2
theorem LH.S6 {q:Nat} {l:List Oper} {fr fr':List AV} {s s':AS} {t:List (List AV×AS×AV)} (h:LH P G X H ops q l fr s t fr' s') (dst:Nat→Option Tmp) (vals:Nat→AV) (f0:List AV) (k:Nat) (hfr:fr=Iv f0 dst vals (fun _=>true) k) (hd:∀ i o,l[i]?=some o→dst (k+i)=o.dst) (hv:∀ i,vals (k+i)=GL t i∨l.length≤i) :
   fr'=Iv f0 dst vals (fun _=>true) (k+l.length)∧∀ i x,t[i]?=some x→x.1=Iv f0 dst vals (fun _=>true) (k+i):=by
 have key:∀ {q:Nat} {o:Oper} {l:List Oper} {fr fr':List AV} {s:AS} {v:AV} {t:List (List AV×AS×AV)}
     (_:∀ (k:Nat),Kl fr o.dst v=Iv f0 dst vals (fun _=>true) k→(∀ i o,l[i]?=some o→dst (k+i)=o.dst)→(∀ i,vals (k+i)=GL t i∨l.length≤i)→fr'=Iv f0 dst vals (fun _=>true) (k+l.length)∧∀ i x,t[i]?=some x→x.1=Iv f0 dst vals (fun _=>true) (k+i))
     (k:Nat),fr=Iv f0 dst vals (fun _=>true) k→(∀ i o',(o::l)[i]?=some o'→dst (k+i)=o'.dst)→(∀ i,vals (k+i)=GL ((fr,s,v)::t) i∨(o::l).length≤i) →
     fr'=Iv f0 dst vals (fun _=>true) (k+(o::l).length)∧∀ i x,((fr,s,v)::t)[i]?=some x→x.1=Iv f0 dst vals (fun _=>true) (k+i):=by
   intro q o l fr fr' s v t ih k hfr hd hv
   have hd0:=hd 0 o rfl
   have hv0:vals k=v:=by
     rcases hv 0 with h0 | h0
     · simpa [GL] using h0
     · simp at h0
   have:=ih (k+1) (by simp only [Iv,if_true];rw [hfr,← hd0,hv0];rfl) (fun i o' ho'=>by have:=hd (i+1) o' (by simpa using ho');rwa [show k+1+i=k+(i+1) from by omega]) (fun i=>by
     rcases hv (i+1) with h1 | h1
     · left;rw [show k+1+i=k+(i+1) from by omega,h1];simp [GL]
     · right;simp at h1;omega)
   refine ⟨by rw [this.1];congr 1;simp;omega,fun i x hx=>?_⟩
   cases i with
   | zero=>simp at hx;subst hx;exact hfr
   | succ i =>
     have h2:=this.2 i x (by simpa using hx)
     rw [h2];congr 1;omega
 induction h generalizing k with
 | nil=>exact ⟨hfr,fun i x hx=>by simp at hx⟩
 | @cons q o l fr fr' s s1 s' v t ha h _ ih=>exact key (q:=q) (fun k h1 h2 h3=>ih k h1 h2 h3) k hfr hd hv
 | @alloc q o l fr fr' s s' t ha _ ih=>exact key (q:=q) (fun k h1 h2 h3=>ih k h1 h2 h3) k hfr hd hv
theorem XC {os:List Oper} {i l:Nat} {o:Oper} (ho:os[l]?=some o) (hq:calm o.op=false):i+l∈HW os i:=by
 induction os generalizing i l with
 | nil=>simp at ho
 | cons x os ih =>
   simp only [HW]
   cases l with
   | zero =>
     simp at ho;subst ho
     rw [hq];simp
   | succ l =>
     have:=ih (i:=i+1) (by simpa using ho)
     rw [show i+1+l=i+(l+1) from by omega] at this
     split
     · exact this
     · exact List.mem_cons_of_mem _ this
theorem VJ {i k:Nat} {ls:List Nat} (hls:∀ l,l∈ls→QE ops l) (h:Win ops i k):bQ (Io ops.toList []) ls i k=true:=by
 unfold bQ
 rw [List.all_eq_true]
 intro l hl
 have h1:=h.1 l (hls l hl)
 have h2:=h.2 l (hls l hl)
 cases hd1:Qs (Io ops.toList []) i l<;>cases hd2:Qs (Io ops.toList []) l i<;>simp_all
theorem PW {os:List Oper} {i l:Nat} (h:l∈HW os i):∃ j o,l=i+j∧os[j]?=some o∧calm o.op=false:=by
 induction os generalizing i with
 | nil=>simp [HW] at h
 | cons x os ih =>
   simp only [HW] at h
   split at h
   · obtain ⟨j,o,h1,h2,h3⟩:=ih h
     exact ⟨j+1,o,by omega,by simpa using h2,h3⟩
   · rename_i hq
     rcases List.mem_cons.1 h with h | h
     · exact ⟨0,x,by omega,rfl,by simpa using hq⟩
     · obtain ⟨j,o,h1,h2,h3⟩:=ih h
       exact ⟨j+1,o,by omega,by simpa using h2,h3⟩
theorem YF {ms ls:List Nat} {i:Nat} {o:Oper} {fr:List AV} {v:AV} {ss:List AS} {k0:Nat} (h:Qf P G ms ls i o fr v ss k0=true) {k:Nat} {s:AS} (hs:ss[k]?=some s) (hw:bQ ms ls i (k0+k)=true):∃ s',Mw P G fr s o=some (.val v s'):=by
 induction ss generalizing k0 k with
 | nil=>simp at hs
 | cons x ss ih =>
   simp only [Qf,Bool.and_eq_true] at h
   cases k with
   | zero =>
     simp at hs;subst hs
     rw [Nat.add_zero] at hw
     have h1:=h.1
     rw [hw] at h1
     simp only [Bool.not_true,Bool.false_or] at h1
     split at h1
     · rename_i u s' hu
       exact ⟨s',by rw [hu,Wc h1]⟩
     · cases h1
   | succ k=>exact ih h.2 (by simpa using hs) (by rwa [show k0+1+k=k0+(k+1) from by omega])
theorem YI {ms ls:List Nat} {sts:List AS} {os:List Oper} {ts:List (List AV×AS×AV)} {i0:Nat} (h:RP P G ops ms ls sts os ts i0=true) {i:Nat} {o:Oper} {x:List AV×AS×AV} (ho:os[i]?=some o) (hx:ts[i]?=some x):(quiet o.op&&reads o.op)=true→BU ops x.1 o=true→Qf P G ms ls (i0+i) o x.1 x.2.2 sts 0=true:=by
 induction os generalizing ts i0 i with
 | nil=>simp at ho
 | cons y os ih =>
   cases ts with
   | nil=>simp at hx
   | cons t ts =>
     simp only [RP,Bool.and_eq_true] at h
     cases i with
     | zero =>
       simp at ho hx;subst ho hx
       intro h1 h2
       have:=h.1
       rw [h1,h2] at this
       simpa using this
     | succ i =>
       have:=ih h.2 (by simpa using ho) (by simpa using hx)
       rwa [show i0+1+i=i0+(i+1) from by omega] at this
theorem GV {o:Oper} {fr:List AV} {s s':AS} {v:AV} (hq:quiet o.op=true) (h:J P G X H (.op ops o fr s (.ret v) s')):s'=s∧((BU ops fr o=false∧v=.sc undef)∨(BU ops fr o=true∧Mw P G fr s o=some (.val v s))):=by
 cases h with
 | opVal hw h =>
   obtain ⟨v',e⟩:=Oa hq h
   injection e with e1 e2
   subst e2
   exact ⟨rfl,.inr ⟨hw,h⟩⟩
 | opSkip hw=>exact ⟨rfl,.inl ⟨hw,rfl⟩⟩
 | opCall hw h hc =>
   obtain ⟨v',e⟩:=Oa hq h
   cases e
 | opWeak hq2=>rw [hq] at hq2;cases hq2
 | opWeakS hq2=>rw [hq] at hq2;cases hq2
 | opApp _ ho hcl=>simp [quiet,ho,hcl] at hq
theorem Vb {ms ls:List Nat} {i id:Nat} {cs:List AV} {ss:List AS} {k0:Nat} (h:Te ms ls i id cs ss k0=true) {k:Nat} {s:AS} (hs:ss[k]?=some s) (hw:bQ ms ls i (k0+k)=true):s.get id=some (.cells cs):=by
 induction ss generalizing k0 k with
 | nil=>simp at hs
 | cons x ss ih =>
   simp only [Te,Bool.and_eq_true] at h
   cases k with
   | zero =>
     simp at hs;subst hs
     rw [Nat.add_zero] at hw
     have h1:=h.1
     rw [hw] at h1
     simp only [Bool.not_true,Bool.false_or] at h1
     split at h1
     · rename_i ds hu
       rw [hu,LG h1]
     · cases h1
   | succ k=>exact ih h.2 (by simpa using hs) (by rwa [show k0+1+k=k0+(k+1) from by omega])
theorem UB {ms ls:List Nat} {sts:List AS} {os:List Oper} {ts:List (List AV×AS×AV)} {i0 q:Nat} (h:NK P ops ms ls sts os ts i0 q=true) {i:Nat} {o:Oper} {e:TypeId} {x:List AV×AS×AV} (ho:os[i]?=some o) (hx:ts[i]?=some x) (he:o.op=.alloc e) (hw:BU ops x.1 o=true):∃ z,Hb P e=some z∧Te ms ls (i0+i) (q+XJ os i) (cellsOf z) sts 0=true:=by
 induction os generalizing ts i0 i q with
 | nil=>simp at ho
 | cons y os ih =>
   cases ts with
   | nil=>simp at hx
   | cons t ts =>
     cases i with
     | zero =>
       simp at ho hx;subst ho hx
       simp only [NK,he,hw,Bool.not_true,Bool.false_or,Bool.and_eq_true] at h
       have h1:=h.1
       split at h1
       · rename_i z hz;exact ⟨z,hz,h1⟩
       · cases h1
     | succ i =>
       simp only [NK] at h
       split at h
       · rename_i e' he'
         rw [Bool.and_eq_true] at h
         have:=ih h.2 (by simpa using ho) (by simpa using hx)
         simp only [XJ,he',Bs]
         rwa [show i0+1+i=i0+(i+1) from by omega,Nat.add_assoc q] at this
       · rename_i hne
         have:=ih h (by simpa using ho) (by simpa using hx)
         have hna:Bs y.op=false:=by
           cases hya:Bs y.op with
           | false=>rfl
           | true=>obtain ⟨e',he'⟩:=Hg hya;exact absurd he' (hne e')
         simp only [XJ,hna,Nat.zero_add]
         rwa [show i0+1+i=i0+(i+1) from by omega] at this
theorem Zs {l:List Oper} {r:List A5} (h:lN P l=some r):r.length=XJ l l.length:=by
 induction l generalizing r with
 | nil=>simp [lN] at h;subst h;rfl
 | cons o l ih =>
   simp only [lN] at h
   split at h
   · rename_i e he
     split at h
     · rename_i z r' hz hr
       cases h
       simp only [List.length_cons,XJ,he,Bs,ih hr];omega
     · cases h
   · rename_i hne
     have hna:Bs o.op=false:=by
       cases hya:Bs o.op with
       | false=>rfl
       | true=>obtain ⟨e',he'⟩:=Hg hya;exact absurd he' (hne e')
     simp only [List.length_cons,XJ,hna,ih h];omega
theorem Kc {o:Oper} {e:TypeId} (h:o.op=.alloc e):quiet o.op=false:=by rw [h];rfl
theorem qT {id:Nat} {fr fr':List AV} {s s':AS} {r:List A5} {t:List (List AV×AS×AV)} (hord:Kw ops=true) (hr:lN P ops.toList=some r) (h:LH P G X H ops s.nx ops.toList fr (s.hold r) t fr' s') (hst:TA P G ops t s' s.nx r=true):J P G X H (.code (.region id ops true) fr s .normal fr' s'):=by
 have hlen:t.length=ops.size:=by rw [h.len,Array.length_toList]
 have hst0:Vv P G ops t s'=true:=by
   unfold TA at hst
   split at hst
   · assumption
   · cases hst
 have hst1:Ob P ops t s' s.nx r=true:=by
   unfold TA at hst
   split at hst
   · exact hst
   · cases hst
 obtain ⟨h0,hat⟩:=h.at
 have hdst:∀ i o,ops[i]?=some o→Ci ops i=o.dst:=fun i o ho=>by unfold Ci;rw [ho];rfl
 obtain ⟨hfin,hfrs⟩:=h.S6 (Ci ops) (GL t) fr 0 rfl (fun i o ho=>by rw [Nat.zero_add];exact hdst i o (by rw [← Array.getElem?_toList];exact ho)) (fun i=>.inl (by rw [Nat.zero_add]))
 rw [Nat.zero_add,Array.length_toList] at hfin
 have hall:∀ i o,ops[i]?=some o→Bs o.op=false→J P G X H (.op ops o (Iv fr (Ci ops) (GL t) (fun _=>true) i) (C9 t s' i) (.ret (GL t i)) (C9 t s' (i+1))):=by
   intro i o ho hna
   obtain ⟨fi,h1,h2⟩:=hat i o (Bv ho)
   have:=hfrs i _ h1
   simp only [Nat.zero_add] at this
   rcases h2 with ⟨_,h2⟩ | ⟨h2,_⟩
   · rw [← this]
     exact h2
   · rw [hna] at h2;cases h2
 have hallA:∀ i o,ops[i]?=some o→Bs o.op=true→C9 t s' (i+1)=C9 t s' i∧GL t i=I8 ops (Iv fr (Ci ops) (GL t) (fun _=>true) i) o (s.nx+rk ops i):=by
   intro i o ho hya
   obtain ⟨fi,h1,h2⟩:=hat i o (Bv ho)
   have:=hfrs i _ h1
   simp only [Nat.zero_add] at this
   rcases h2 with ⟨h2,_⟩ | ⟨_,h2⟩
   · rw [hya] at h2;cases h2
   · rw [← this]
     exact h2
 have hna:∀ o:Oper,quiet o.op=true→Bs o.op=false:=by
   intro o hq
   cases hya:Bs o.op with
   | false=>rfl
   | true=>obtain ⟨e,he⟩:=Hg hya;rw [Kc he] at hq;cases hq
 have hnl:∀ o:Oper,calm o.op=false→Bs o.op=false:=by
   intro o hq
   cases hya:Bs o.op with
   | false=>rfl
   | true=>unfold calm at hq;rw [hya] at hq;cases hq
 have hsn:C9 t s' ops.size=s':=by
   unfold C9
   rw [List.getElem?_eq_none (by omega)]
 have hsk:∀ k,k≤ops.size→(t.map (fun x=>x.2.1)++[s'])[k]?=some (C9 t s' k):=by
   intro k hk
   unfold C9
   by_cases hkt:k < t.length
   · rw [List.getElem?_append_left (by simpa using hkt),List.getElem?_map,List.getElem?_eq_getElem hkt];rfl
   · have:k=t.length:=by omega
     subst this
     rw [List.getElem?_append_right (by simp)]
     simp
 have hloud:∀ l,l∈HW ops.toList 0→QE ops l:=by
   intro l hl
   obtain ⟨j,o',e,h5,h6⟩:=PW hl
   rw [Nat.zero_add] at e
   subst e
   exact ⟨o',by rw [← Array.getElem?_toList];exact h5,h6⟩
 have hquiet:∀ i o,ops[i]?=some o→calm o.op=true→C9 t s' (i+1)=C9 t s' i:=by
   intro i o ho hq
   rcases OV hq with hq | ⟨e,he⟩
   · exact (GV hq (hall i o ho (hna o hq))).1
   · exact (hallA i o ho (by rw [he];rfl)).1
 have key:=J.draw (P:=P) (G:=G) (X:=X) (H:=H) (id:=id) (f0:=fr) (s0:=s) r (GL t) (C9 t s') h0 hord (fun i o ho hl=>hall i o ho (hnl o hl)) (fun i o ho hq=>by
   obtain ⟨h1,h2⟩:=GV hq (hall i o ho (hna o hq))
   refine ⟨h1,?_⟩
   rcases h2 with h2 | ⟨hw,h2⟩
   · exact .inl h2
   · refine .inr ⟨hw,fun k hk hwin=>?_⟩
     cases hr:reads o.op with
     | false=>exact M4 hq hr h2 _
     | true =>
       unfold Vv at hst0
       split at hst0
       · rename_i hls
         have hno:∀ m,¬ QE ops m:=by
           rintro m ⟨y,hy,hyq⟩
           have:=XC (i:=0) (Bv hy) hyq
           rw [hls] at this;cases this
         have hi:=(Array.getElem?_eq_some_iff.1 ho).1
         have e1:C9 t s' 0=C9 t s' k:=SJ hquiet k (Nat.zero_le _) hk (fun m _ _=>hno m)
         have e2:C9 t s' 0=C9 t s' i:=SJ hquiet i (Nat.zero_le _) (by omega) (fun m _ _=>hno m)
         rw [← e1,e2]
         exact h2
       · obtain ⟨fi,hti,_⟩:=hat i o (Bv ho)
         have hfi:=hfrs i _ hti
         simp only [Nat.zero_add] at hfi
         have hs2:=YI hst0 (Bv ho) hti (by rw [hq,hr];rfl) (by rw [hfi];exact hw)
         rw [Nat.zero_add] at hs2
         obtain ⟨s2,hs3⟩:=YF hs2 (hsk k hk) (by
           rw [Nat.zero_add]
           exact VJ hloud hwin)
         obtain ⟨v',e⟩:=Oa hq hs3
         injection e with _ e2
         subst e2
         rw [← hfi]
         exact hs3) (fun i o e ho he=>by
   have hya:Bs o.op=true:=by rw [he];rfl
   obtain ⟨h1,h2⟩:=hallA i o ho hya
   refine ⟨h1,?_⟩
   have hrk:rk ops i < r.length:=by
     rw [Zs hr]
     exact Vh (Bv ho) hya (by rw [Array.length_toList];exact (Array.getElem?_eq_some_iff.1 ho).1)
   cases hw:BU ops (Iv fr (Ci ops) (GL t) (fun _=>true) i) o with
   | false=>unfold I8 at h2;rw [hw] at h2;exact .inl ⟨rfl,h2⟩
   | true =>
     unfold I8 at h2;rw [hw] at h2
     obtain ⟨fi,hti,_⟩:=hat i o (Bv ho)
     have hfi:=hfrs i _ hti
     simp only [Nat.zero_add] at hfi
     have hal:NK P ops (Io ops.toList []) (HW ops.toList 0) (t.map (·.2.1)++[s']) ops.toList t 0 s.nx=true:=by
       unfold Ob at hst1
       split at hst1
       · simp at hrk
       · exact hst1
     obtain ⟨z,hz,hbx⟩:=UB hal (Bv ho) hti he (by rw [hfi];exact hw)
     rw [Nat.zero_add] at hbx
     exact .inr ⟨rfl,z,hz,hrk,h2,fun k hk hwin=>Vb hbx (hsk k hk) (by rw [Nat.zero_add];exact VJ hloud hwin)⟩)
 rw [← hfin,hsn] at key
 exact key
end
end AI
namespace AI
open Go Go.RowKit
def inI:Int→Bool
 | .ofNat m=>Nat.ble m 9223372036854775807
 | .negSucc m=>Nat.ble m 9223372036854775807
def Nz (k:IntKind) (n:Int):Int:=match k with
 | .i64=>(match inI n with | true=>n | false=>IntKind.i64.wrap n)
 | k=>k.wrap n
theorem vY {n:Int} (h:inI n=true):IntKind.i64.wrap n=n:=by
 refine IntWalk.i64_in n ?_
 cases n with
 | ofNat m =>
   have:=Nat.le_of_ble_eq_true h
   have e:Int.ofNat m=(m:Int):=rfl
   rw [e]
   have h2:(m:Int)≤9223372036854775807:=Int.ofNat_le.2 this
   have h3:(0:Int)≤m:=Int.natCast_nonneg m
   omega
 | negSucc m =>
   have:=Nat.le_of_ble_eq_true h
   rw [Int.negSucc_eq]
   constructor
   · have e:(-9223372036854775808:Int)=-(9223372036854775807+1):=rfl
     rw [e]
     have h2:(m:Int)≤9223372036854775807:=Int.ofNat_le.2 this
     omega
   · have h2:(0:Int)≤m:=Int.natCast_nonneg m
     omega
theorem P0 (k:IntKind) (n:Int):Nz k n=k.wrap n:=by
 cases k<;>try rfl
 simp only [Nz]
 cases h:inI n with
 | true=>exact (vY h).symm
 | false=>rfl
def fW:Int→Int→Int
 | .ofNat a,.ofNat b=>.ofNat (Nat.add a b)
 | a,b=>a+b
theorem Vy (a b:Int):fW a b=a+b:=by cases a<;>cases b<;>rfl
def acS (a b:Nat):Int:=match Nat.ble b a with
 | true=>.ofNat (Nat.sub a b)
 | false=>(a:Int) - (b:Int)
def sD:Int→Int→Int
 | .ofNat a,.ofNat b=>acS a b
 | a,b=>a - b
theorem Zd (a b:Int):sD a b=a - b:=by
 cases a<;>cases b<;>try rfl
 rename_i a b
 simp only [sD,acS]
 cases h:Nat.ble b a with
 | true =>
   have:=Nat.le_of_ble_eq_true h
   show Int.ofNat (a - b)=(a:Int) - (b:Int)
   exact Int.ofNat_sub this
 | false=>rfl
def Bp:Int→Int→Bool
 | .ofNat a,.ofNat b=>Nat.beq a b
 | .negSucc a,.negSucc b=>Nat.beq a b
 | _,_=>false
theorem MU (a b:Int):Bp a b=(a == b):=by
 cases a<;>cases b<;>simp only [Bp]
 · rename_i a b
   rw [Bool.eq_iff_iff,beq_iff_eq,Int.ofNat.injEq]
   exact ⟨fun h=>Nat.eq_of_beq_eq_true h,fun h=>by subst h;exact Nat.beq_refl a⟩
 · rw [Bool.eq_iff_iff,beq_iff_eq];exact ⟨fun h=>by simp at h,fun h=>by cases h⟩
 · rw [Bool.eq_iff_iff,beq_iff_eq];exact ⟨fun h=>by simp at h,fun h=>by cases h⟩
 · rename_i a b
   rw [Bool.eq_iff_iff,beq_iff_eq,Int.negSucc.injEq]
   exact ⟨fun h=>Nat.eq_of_beq_eq_true h,fun h=>by subst h;exact Nat.beq_refl a⟩
def Kt:Int→Int→Bool
 | .ofNat a,.ofNat b=>Nat.ble a b
 | a,b=>decide (a≤b)
theorem YK (a b:Int):Kt a b=decide (a≤b):=by
 cases a<;>cases b<;>try rfl
 rename_i a b
 simp only [Kt]
 rw [Bool.eq_iff_iff,decide_eq_true_iff]
 show _↔(a:Int)≤(b:Int)
 rw [Int.ofNat_le]
 exact ⟨Nat.le_of_ble_eq_true,Nat.ble_eq_true_of_le⟩
def DH:Int→Int→Bool
 | .ofNat a,.ofNat b=>Nat.ble (Nat.succ a) b
 | a,b=>decide (a < b)
theorem M5 (a b:Int):DH a b=decide (a < b):=by
 cases a<;>cases b<;>try rfl
 rename_i a b
 simp only [DH]
 rw [Bool.eq_iff_iff,decide_eq_true_iff]
 show _↔(a:Int) < (b:Int)
 rw [Int.ofNat_lt]
 exact ⟨Nat.le_of_ble_eq_true,Nat.ble_eq_true_of_le⟩
def sameKind:IntKind→IntKind→Bool
 | .i64,.i64=>true
 | .u8,.u8=>true
 | _,_=>false
theorem Re {a b:IntKind} (h:sameKind a b=true):a=b:=by cases a<;>cases b<;>first | rfl | cases h
def mR (k:IntKind) (a b:Int):BinOp→Option Value
 | .add=>some (.int k (Nz k (fW a b)))
 | .sub=>some (.int k (Nz k (sD a b)))
 | .mul=>some (.int k (Nz k (a*b)))
 | .eql=>some (.bool (Bp a b))
 | .neq=>some (.bool (!Bp a b))
 | .lss=>some (.bool (DH a b))
 | .leq=>some (.bool (Kt a b))
 | .gtr=>some (.bool (DH b a))
 | .geq=>some (.bool (Kt b a))
 | _=>none
theorem oS {P:Program} {op:BinOp} {k:IntKind} {a b:Int} {t:TypeId} {xo yo:Operand} {v:Value} (h:mR k a b op=some v):pv P (do eqGuard op t xo yo (.int k a) (.int k b);binOp op t (.int k a) (.int k b))=some v∧scalar v=true:=by
 cases op<;>simp only [mR,Option.some.injEq,reduceCtorEq] at h<;>subst h<;>refine ⟨?_,rfl⟩<;>simp [eqGuard,binOp,Op.intArith,Op.intCmp,pv,P0,Vy,Zd,MU,M5,YK,bne,Bind.bind,Sem.bind,Pure.pure]
def BC:List UInt8→List UInt8→Bool
 | [],[]=>true
 | a::l,b::m=>(match Nat.beq a.toNat b.toNat with
   | true=>BC l m
   | false=>false)
 | _,_=>false
theorem To (l m:List UInt8):BC l m=(l == m):=by
 induction l generalizing m with
 | nil=>cases m<;>rfl
 | cons a l ih =>
   cases m with
   | nil=>rfl
   | cons b m =>
     simp only [BC]
     cases h:Nat.beq a.toNat b.toNat with
     | true =>
       have:a=b:=UInt8.toNat_inj.1 (Nat.eq_of_beq_eq_true h)
       subst this
       simp only [ih]
       simp
     | false =>
       have:a≠b:=fun e=>by subst e;have:=Nat.ne_of_beq_eq_false h;exact this rfl
       simp [this]
def aao (x y:ByteArray):BinOp→Option Value
 | .eql=>some (.bool (BC x.data.toList y.data.toList))
 | .neq=>some (.bool (!BC x.data.toList y.data.toList))
 | op=>cP op x y
theorem pK (x y:ByteArray) (op:BinOp):aao x y op=cP op x y:=by cases op<;>simp only [aao,cP,To]
def gL (v:Option Value):Option AV:=match v with
 | some v=>(match scalar v with | true=>some (.sc v) | false=>none)
 | none=>none
theorem eV (v:Option Value):gL v=v.bind T6:=by
 cases v with
 | none=>rfl
 | some v=>simp only [gL,Option.bind_some,T6];cases scalar v<;>rfl
def V3 (P:Program) (op:BinOp) (t:TypeId) (xo yo:Operand) (x y:Value):Option AV :=
 match x with
 | .int k a=>(match y with
   | .int k' b=>(match sameKind k k' with
     | true=>(match mR k a b op with
       | some v=>some (.sc v)
       | none=>IN P op t xo yo (.sc (.int k a)) (.sc (.int k' b)))
     | false=>IN P op t xo yo (.sc (.int k a)) (.sc (.int k' b)))
   | y=>IN P op t xo yo (.sc (.int k a)) (.sc y))
 | .string a=>(match y with
   | .string b=>gL (aao a b op)
   | y=>IN P op t xo yo (.sc (.string a)) (.sc y))
 | x=>IN P op t xo yo (.sc x) (.sc y)
def Ti (P:Program) (op:BinOp) (t:TypeId) (xo yo:Operand) (a b:AV):Option AV :=
 match a with
 | .sc x=>(match b with
   | .sc y=>V3 P op t xo yo x y
   | b=>IN P op t xo yo (.sc x) b)
 | a=>IN P op t xo yo a b
theorem Jk (P:Program) (op:BinOp) (t:TypeId) (xo yo:Operand) (a b:AV):Ti P op t xo yo a b=IN P op t xo yo a b:=by
 unfold Ti
 cases a with
 | sc x =>
   cases b with
   | sc y =>
     simp only [V3]
     cases x with
     | int k a =>
       cases y with
       | int k' b =>
         simp only
         cases hk:sameKind k k' with
         | false=>rfl
         | true =>
           have:=Re hk
           subst this
           simp only
           cases hf:mR k a b op with
           | none=>rfl
           | some v =>
             obtain ⟨h1,h2⟩:=oS (P:=P) (t:=t) (xo:=xo) (yo:=yo) hf
             simp [IN,ON,PM,h1,T6,h2]
       | _=>rfl
     | string a =>
       cases y with
       | string b=>simp only [eV,pK];rfl
       | _=>rfl
     | _=>rfl
   | _=>rfl
 | _=>rfl
def hR:List UInt8→Nat→Option UInt8
 | [],_=>none
 | a::_,0=>some a
 | _::l,n+1=>hR l n
theorem lT (l:List UInt8) (n:Nat):hR l n=l[n]?:=by
 induction l generalizing n with
 | nil=>simp [hR]
 | cons a l ih=>cases n<;>simp [hR,ih]
def adi:Option UInt8→Option AV
 | some b=>some (.sc (.int .u8 (.ofNat b.toNat)))
 | none=>none
def RD (P:Program) (t:TypeId) (x ix:AV):Option AV :=
 match x with
 | .sc (.string s)=>(match P.underlying t with
   | some .string=>(match Np ix with
     | some i=>adi (hR s.data.toList i)
     | none=>none)
   | _=>JG P t (.sc (.string s)) ix)
 | x=>JG P t x ix
theorem X4 (P:Program) (t:TypeId) (x ix:AV):RD P t x ix=JG P t x ix:=by
 unfold RD
 cases x with
 | sc v =>
   cases v with
   | string s =>
     simp only
     split
     · rename_i hu
       unfold JG
       rw [hu]
       cases Np ix with
       | none=>rfl
       | some i =>
         simp only [lT]
         cases s.data.toList[i]?<;>rfl
     · rfl
   | _=>rfl
 | _=>rfl
end AI
namespace AI
open Go Go.RowKit
def nth:List AV→Nat→AV
 | [],_=>.sc undef
 | a::_,0=>a
 | _::l,n+1=>nth l n
theorem kL (l:List AV) (n:Nat):nth l n=l.getD n (.sc undef):=by
 induction l generalizing n with
 | nil=>simp [nth]
 | cons a l ih=>cases n<;>simp [nth,ih]
def evG:Option (List AV)→Option AV
 | some cs=>some (.el cs)
 | none=>none
def AZ (G:A8) (fr:List AV):Operand→Option AV
 | .tmp t=>some (nth fr t)
 | .const v=>Q7 v
 | .global g=>evG (G g)
 | .func f=>some (.fn (.func f) [] [])
theorem BY (G:A8) (fr:List AV) (x:Operand):AZ G fr x=Be G fr x:=by
 cases x with
 | tmp t=>simp only [AZ,Be,kL]
 | const v=>rfl
 | global g=>simp only [AZ,Be];cases G g<;>rfl
 | func f=>rfl
def Kd (s:AS):Option AV→Option AR
 | some v=>some (.val v s)
 | none=>none
theorem M6 (s:AS) (o:Option AV):Kd s o=o.map (fun v=>.val v s):=by cases o<;>rfl
def W4:Option AS→Option AR
 | some s=>some (.val (.sc undef) s)
 | none=>none
theorem nB (o:Option AS):W4 o=o.map (fun s=>.val (.sc undef) s):=by cases o<;>rfl
def cV:Option (AV×AS)→Option AR
 | some r=>some (.val r.1 r.2)
 | none=>none
theorem ZZ (o:Option (AV×AS)):cV o=o.map (fun r=>.val r.1 r.2):=by cases o<;>rfl
def VL {α β:Type} (o:Option α) (f:α→Option β):Option β:=match o with
 | some a=>f a
 | none=>none
theorem VO {α β:Type} (o:Option α) (f:α→Option β):VL o f=o.bind f:=by cases o<;>rfl
def two {β:Type} (a b:Option AV) (f:AV→AV→Option β):Option β:=match a with
 | some x=>(match b with
   | some y=>f x y
   | none=>none)
 | none=>none
def three {β:Type} (a b d:Option AV) (f:AV→AV→AV→Option β):Option β:=match a with
 | some x=>(match b with
   | some y=>(match d with
     | some z=>f x y z
     | none=>none)
   | none=>none)
 | none=>none
def tM (x y:Option AV):Option AV→Option AV
 | some (.sc (.bool t))=>(match t with | true=>x | false=>y)
 | _=>none
def fE (s:AS):Option AV→Option AR
 | some z=>some (.val (.ptr s.nx 0) (s.new (.cells (cellsOf z))))
 | none=>none
def Z7 (s:AS):Option AV→Option AR
 | some z=>(match NO z with | true=>none | false=>some (.val (.ptr s.nx 0) (s.new (.cells (cellsOf z)))))
 | none=>none
def XT (s:AS):Option AV→Option AR
 | some v=>(match notNil v with | true=>some (.val v s) | false=>none)
 | none=>none
def Y0 (t:TypeId) (s:AS) (v:Option AV):Option TypeDesc→Option AR
 | some d=>(match v with
   | some v=>(match isIface d with | true=>none | false=>some (.val (.ifc t v) s))
   | none=>none)
 | none=>none
def func1 (f:Fn) (s:AS) (b:Option (List AV)):Option (List AV)→Option AR
 | some a=>(match b with
   | some b=>some (.val (.fn f a b) s)
   | none=>none)
 | none=>none
def iC (P:Program) (s:AS) (t:TypeId) (l h m:Option (Option AV)):Option AV→Option AR
 | some a=>(match l with
   | some l=>(match h with
     | some h=>(match m with
       | some m=>Kd s (Hi P t a l h m)
       | none=>none)
     | none=>none)
   | none=>none)
 | none=>none
def acj:Option AV→Option AR
 | some (.ifc t v)=>some (.pan (.ifc t v))
 | _=>none
def ab6 (P:Program) (as:Option (List AV)):Option AV→Option AR
 | some (.fn (.func g) first caps)=>(match as with
   | some as=>(match N5 P g with | true=>some (.ent g (first++as++caps)) | false=>none)
   | none=>none)
 | _=>none
def abK (P:Program) (G:A8) (fr:List AV) (s:AS):List Operand→List TypeId→Option AR
 | [x],[t]=>Kd s (VL (AZ G fr x) (Rm P s t))
 | _,_=>none
def acy (P:Program) (G:A8) (fr:List AV) (s:AS):List Operand→List TypeId→Option AR
 | [x,y],[t,tx]=>cV (two (AZ G fr x) (AZ G fr y) (KO P s t tx))
 | _,_=>none
def sN (P:Program) (s:AS) (f:List Value→Sem Value):Option (List Value)→Option AR
 | some vs=>Kd s (Q5 P (f vs))
 | none=>none
def Zp (P:Program) (s:AS) (f:Value→Sem Value):Option Value→Option AR
 | some v=>Kd s (Q5 P (f v))
 | none=>none
def NU (P:Program) (G:A8) (fr:List AV) (s:AS) (o:Oper) (cl:Call):Builtin→Option AR
 | .len=>abK P G fr s cl.args.toList cl.argTypes.toList
 | .append=>acy P G fr s cl.args.toList cl.argTypes.toList
 | .max=>sN P s (fun vs=>Builtin.max_ cl.argTypes o.type vs.toArray) (VL (Ul G fr cl.args.toList) LD)
 | .min=>sN P s (fun vs=>Builtin.min_ cl.argTypes o.type vs.toArray) (VL (Ul G fr cl.args.toList) LD)
 | _=>none
def VD (P:Program) (G:A8) (fr:List AV) (s:AS) (o:Oper) (cl:Call):Option AR :=
 match cl.callee with
 | .builtin b=>NU P G fr s o cl b
 | .value f=>ab6 P (Ul G fr cl.args.toList) (AZ G fr f)
 | _=>none
def Wv (s:AS):Option Operand→Option AR
 | none=>some (.val (.mp s.nx) (s.new (.map [] 0)))
 | some _=>none
def OS (P:Program) (G:A8) (fr:List AV) (s:AS) (o:Oper):Option AR :=
 match o.op with
 | .move x=>Kd s (AZ G fr x)
 | .assign x=>Kd s (AZ G fr x)
 | .pick c a b=>Kd s (tM (AZ G fr a) (AZ G fr b) (AZ G fr c))
 | .alloc e=>fE s (Hb P e)
 | .box _ x=>Z7 s (AZ G fr x)
 | .build t ps=>Kd s (VL (JR G fr ps.toList) (TJ P t))
 | .buildSlice t n ps=>Kd s (VL (JR G fr ps.toList) (J6 P t n))
 | .load t a=>Kd s (VL (AZ G fr a) (Ie P s t))
 | .store t a x=>W4 (two (AZ G fr a) (AZ G fr x) (JE P s t))
 | .nilCheck x=>XT s (AZ G fr x)
 | .binOp op t x y _=>Kd s (two (AZ G fr x) (AZ G fr y) (Ti P op t x y))
 | .unOp op _ x=>Zp P s (Op.unary op) (VL (AZ G fr x) MX)
 | .convert src dst x=>Zp P s (convert src dst) (VL (AZ G fr x) MX)
 | .makeInterface t x=>Y0 t s (AZ G fr x) (P.underlying t)
 | .makeFunc f first caps=>func1 f s (Ul G fr caps.toList) (Ul G fr first.toList)
 | .makeMap _ r=>Wv s r
 | .makeSlice t l c=>cV (two (AZ G fr l) (AZ G fr c) (GD P s t))
 | .slice t x lo hi mx=>iC P s t (Wi G fr lo) (Wi G fr hi) (Wi G fr mx) (AZ G fr x)
 | .fieldAddr t x k=>Kd s (VL (AZ G fr x) fun a=>NY P t a k)
 | .field t x k=>Kd s (VL (AZ G fr x) fun a=>S5 P t a k)
 | .indexAddr t x i=>Kd s (two (AZ G fr x) (AZ G fr i) (B2 P t))
 | .index t x i=>Kd s (two (AZ G fr x) (AZ G fr i) (RD P t))
 | .lookup t x k ok=>Kd s (two (AZ G fr x) (AZ G fr k) fun a b=>F5 P s t a b ok)
 | .mapUpdate t m k x=>W4 (three (AZ G fr m) (AZ G fr k) (AZ G fr x) (HQ P s t))
 | .insert t m k x=>W4 (three (AZ G fr m) (AZ G fr k) (AZ G fr x) (HQ P s t))
 | .mapEntry t m k=>cV (two (AZ G fr m) (AZ G fr k) (Me P s t))
 | .entryStore _ m st x=>W4 (three (AZ G fr m) (AZ G fr st) (AZ G fr x) (J1 s))
 | .extract x k=>Kd s (VL (AZ G fr x) fun a=>N2 a k)
 | .call cl=>VD P G fr s o cl
 | .panic x=>acj (AZ G fr x)
 | _=>none
theorem aY (P:Program) (G:A8) (fr:List AV) (s:AS) (o:Oper) (cl:Call):VD P G fr s o cl=OG P G fr s o cl:=by
 unfold VD OG
 cases hc:cl.callee with
 | value f =>
   simp only [BY]
   cases Be G fr f with
   | none=>rfl
   | some v =>
     cases v with
     | fn g a b =>
       cases g with
       | func g =>
         cases Ul G fr cl.args.toList with
         | none=>rfl
         | some as =>
           simp only [ab6]
           cases N5 P g<;>rfl
       | _=>rfl
     | _=>rfl
 | invoke r m=>rfl
 | builtin b =>
   cases b<;>try rfl
   · simp only [NU]
     cases hx:cl.args.toList with
     | nil=>rfl
     | cons x xs =>
       cases xs with
       | nil=>rfl
       | cons y ys =>
         cases ys with
         | cons z zs=>rfl
         | nil =>
           cases ht:cl.argTypes.toList with
           | nil=>rfl
           | cons t ts =>
             cases ts with
             | nil=>rfl
             | cons u us =>
               cases us with
               | cons v vs=>rfl
               | nil =>
                 simp only [acy,BY]
                 cases Be G fr x<;>cases Be G fr y<;>first | rfl | exact ZZ _
   · simp only [NU]
     cases hx:cl.args.toList with
     | nil=>rfl
     | cons x xs =>
       cases xs with
       | cons y ys=>rfl
       | nil =>
         cases ht:cl.argTypes.toList with
         | nil=>rfl
         | cons t ts =>
           cases ts with
           | cons u us=>rfl
           | nil=>simp only [abK,BY,VO];exact M6 _ _
   · simp only [NU,VO]
     cases (Ul G fr cl.args.toList).bind LD with
     | none=>rfl
     | some vs=>exact M6 _ _
   · simp only [NU,VO]
     cases (Ul G fr cl.args.toList).bind LD with
     | none=>rfl
     | some vs=>exact M6 _ _
theorem JN (P:Program) (G:A8) (fr:List AV) (s:AS) (o:Oper):OS P G fr s o=Mw P G fr s o:=by
 unfold OS Mw
 cases ho:o.op<;>simp only [BY,M6,nB,ZZ,VO,aY]
 case pick c a b =>
   cases Be G fr c with
   | none=>rfl
   | some v =>
     cases v with
     | sc u=>cases u<;>first | rfl | (rename_i t;cases t<;>rfl)
     | _=>rfl
 case alloc e=>cases Hb P e<;>rfl
 case box e x =>
   cases Be G fr x with
   | none=>rfl
   | some v=>cases v<;>rfl
 case store t a x=>cases Be G fr a<;>cases Be G fr x<;>rfl
 case nilCheck x =>
   cases Be G fr x with
   | none=>rfl
   | some v=>simp only [XT];cases notNil v<;>rfl
 case binOp op t x y z=>cases Be G fr x<;>cases Be G fr y<;>first | rfl | (simp only [two,Jk])
 case unOp op t x=>cases (Be G fr x).bind MX with
   | none=>rfl
   | some v=>exact M6 _ _
 case convert a b x=>cases (Be G fr x).bind MX with
   | none=>rfl
   | some v=>exact M6 _ _
 case makeInterface t x =>
   cases Be G fr x with
   | none=>cases P.underlying t<;>rfl
   | some v =>
     cases P.underlying t with
     | none=>rfl
     | some d=>simp only [Y0];cases isIface d<;>rfl
 case makeFunc f a b=>cases Ul G fr a.toList<;>cases Ul G fr b.toList<;>rfl
 case makeMap t r=>cases r<;>rfl
 case makeSlice t l c=>cases Be G fr l<;>cases Be G fr c<;>rfl
 case slice t x lo hi mx =>
   cases Be G fr x<;>cases Wi G fr lo<;>cases Wi G fr hi<;>cases Wi G fr mx<;>first | rfl | exact M6 _ _
 case indexAddr t x i=>cases Be G fr x<;>cases Be G fr i<;>rfl
 case index t x i=>cases Be G fr x<;>cases Be G fr i<;>first | rfl | (simp only [two,X4])
 case lookup t x k ok=>cases Be G fr x<;>cases Be G fr k<;>rfl
 case mapUpdate t m k x=>cases Be G fr m<;>cases Be G fr k<;>cases Be G fr x<;>rfl
 case insert t m k x=>cases Be G fr m<;>cases Be G fr k<;>cases Be G fr x<;>rfl
 case mapEntry t m k=>cases Be G fr m<;>cases Be G fr k<;>rfl
 case entryStore t m k x=>cases Be G fr m<;>cases Be G fr k<;>cases Be G fr x<;>rfl
 case panic x =>
   cases Be G fr x with
   | none=>rfl
   | some v=>cases v<;>rfl
end AI
namespace AI
open Go Go.RowKit
abbrev Rec:=Tk→Option Rs
def bV (r:Rec) (y:Code):Option Rs→Option Rs
 | some (.code e fr s)=>(match e with
   | .normal=>r (.code y fr s)
   | e=>some (.code e fr s))
 | _=>none
def Z9 (r:Rec) (x y:Code) (fr:List AV) (s:AS):Option AV→Option Rs
 | some (.sc (.bool t))=>(match t with
   | true=>r (.code x fr s)
   | false=>r (.code y fr s))
 | _=>none
def YX (id:Nat):Option Rs→Option Rs
 | some (.code e fr s)=>some (.code (EH id e) fr s)
 | _=>none
def XD:Option Rs→Option Rs
 | some (.code e fr s)=>some (.code e fr s)
 | _=>none
def sL (P:Program) (G:A8) (ops:Array Oper) (q:Nat) (rs:List A5):Option Rs→Option Rs
 | some (.tr t fr s)=>(match TA P G ops t s q rs with
   | true=>some (.code .normal fr s)
   | false=>none)
 | _=>none
def sG (P:Program) (G:A8) (r:Rec) (ops:Array Oper) (fr:List AV) (s:AS):Option (List A5)→Option Rs
 | some rs=>sL P G ops s.nx rs (r (.draw ops ops.toList fr (s.hold rs) s.nx))
 | none=>none
def sO (P:Program) (G:A8) (r:Rec) (ops:Array Oper) (fr:List AV) (s:AS):Bool→Option Rs
 | true=>sG P G r ops fr s (lN P ops.toList)
 | false=>none
def RS (P:Program) (G:A8) (r:Rec) (ops:Array Oper) (fr:List AV) (s:AS):Bool→Option Rs
 | false=>XD (r (.ops ops ops.toList fr s))
 | true=>sO P G r ops fr s (Kw ops)
def Ht (P:Program) (G:A8) (r:Rec) (fr:List AV) (s:AS):Code→Option Rs
 | .skip=>some (.code .normal fr s)
 | .exit id=>some (.code (.exit id) fr s)
 | .ret=>some (.code .ret fr s)
 | .seq x y=>bV r y (r (.code x fr s))
 | .cond q x y=>Z9 r x y fr s (AZ G fr q)
 | .block id c=>YX id (r (.code c fr s))
 | .loop c=>XD (r (.loop c fr s))
 | .region _ ops d=>RS P G r ops fr s d
 | _=>none
def UI (r:Rec) (c:Code):Option Rs→Option Rs
 | some (.code e fr s)=>(match e with
   | .normal=>r (.loop c fr s)
   | e=>some (.code e fr s))
 | _=>none
def aeP (r:Rec) (ops:Array Oper) (dst:Option Tmp) (l:List Oper) (fr:List AV):Option Rs→Option Rs
 | some (.call c s)=>(match c with
   | .ret v=>r (.ops ops l (Kl fr dst v) s)
   | .pan v=>some (.code (.pan v) fr s))
 | _=>none
def nN (r:Rec) (ops:Array Oper) (fr:List AV) (s:AS):List Oper→Option Rs
 | []=>some (.code .normal fr s)
 | o::l=>aeP r ops o.dst l fr (r (.op ops o fr s))
def trK (fr:List AV) (s:AS) (v:AV):Option Rs→Option Rs
 | some (.tr t fr1 s2)=>some (.tr ((fr,s,v)::t) fr1 s2)
 | _=>none
def fS (r:Rec) (ops:Array Oper) (dst:Option Tmp) (l:List Oper) (fr:List AV) (s:AS) (q:Nat):Option Rs→Option Rs
 | some (.call (.ret v) s1)=>trK fr s v (r (.draw ops l (Kl fr dst v) s1 q))
 | _=>none
def gC (r:Rec) (ops:Array Oper) (o:Oper) (l:List Oper) (fr:List AV) (s:AS) (q:Nat) (v:AV):Option Rs:=trK fr s v (r (.draw ops l (Kl fr o.dst v) s (q+1)))
def Yb (r:Rec) (ops:Array Oper) (o:Oper) (l:List Oper) (fr:List AV) (s:AS) (q:Nat):Bool→Option Rs
 | true=>gC r ops o l fr s q (I8 ops fr o q)
 | false=>fS r ops o.dst l fr s q (r (.op ops o fr s))
def PN (r:Rec) (ops:Array Oper) (fr:List AV) (s:AS) (q:Nat):List Oper→Option Rs
 | []=>some (.tr [] fr s)
 | o::l=>Yb r ops o l fr s q (Bs o.op)
def tN:Option Rs→Option Rs
 | some (.call c s)=>some (.call c s)
 | _=>none
def opK (r:Rec) (s:AS):Option AR→Option Rs
 | some (.val v s1)=>some (.call (.ret v) s1)
 | some (.pan v)=>some (.call (.pan v) s)
 | some (.ent f args)=>tN (r (.call f args s))
 | none=>none
def Sr (ops:Array Oper) (fr:List AV):Option (Nat×Bool)→Bool
 | none=>true
 | some p=>(match (ops[p.1]?).bind (·.dst) with
   | some d=>(match nth fr d with
     | .sc (.bool b)=>b == p.2
     | _=>false)
   | none=>false)
theorem aU (ops:Array Oper) (fr:List AV) (o:Oper):Sr ops fr o.guard=BU ops fr o:=by
 unfold Sr BU
 cases o.guard with
 | none=>rfl
 | some p =>
   obtain ⟨j,want⟩:=p
   simp only
   cases (ops[j]?).bind (·.dst) with
   | none=>rfl
   | some d =>
     simp only [kL,List.getD_eq_getElem?_getD]
     cases fr[d]? with
     | none=>rfl
     | some v =>
       cases v with
       | sc u=>cases u<;>rfl
       | _=>rfl
def wK (P:Program) (G:A8) (r:Rec) (fr:List AV) (s:AS) (o:Oper):Bool→Option Rs
 | true=>opK r s (OS P G fr s o)
 | false=>some (.call (.ret (.sc undef)) s)
def tA (k:CR→Option CR):Option Rs→Option Rs
 | some (.call c s)=>(match k c with
   | some c1=>some (.call c1 s)
   | none=>none)
 | _=>none
def pR (s:AS) (n:Nat):Option AV→Option Rs
 | some v=>some (.call (.ret v) (fin v s n))
 | none=>none
def WX (P:Program) (fn:Func) (n:Nat):Option Rs→Option Rs
 | some (.code e fr s)=>(match e with
   | .normal=>pR s n (Gl P s fn fr)
   | .ret=>pR s n (Gl P s fn fr)
   | .pan v=>some (.call (.pan v) (s.cut n))
   | .exit _=>none)
 | _=>none
def sQ (P:Program) (r:Rec) (fn:Func) (args:List AV) (s:AS):Option Code→Option Rs
 | some c=>WX P fn s.nx (r (.code c (args++List.replicate (fn.ntmps - args.length) (.sc undef)) s))
 | none=>none
def Uh (P:Program) (r:Rec) (args:List AV) (s:AS):Option Func→Option Rs
 | some fn=>sQ P r fn args s fn.body
 | none=>none
def gK (P:Program) (r:Rec) (f:FuncId) (args:List AV) (s:AS):Option (FuncId×List AV×(CR→Option CR))→Option Rs
 | some (g,gargs,k)=>tA k (r (.call g gargs s))
 | none=>Uh P r args s P.funcs[f]?
def lY (P:Program) (H:Mn) (r:Rec) (f:FuncId) (args:List AV) (s:AS):Option (CR×AS)→Option Rs
 | some (c,s1)=>some (.call c s1)
 | none=>gK P r f args s (H f args)
def step (P:Program) (G:A8) (X:Q6) (H:Mn) (r:Rec):Tk→Option Rs
 | .code c fr s=>Ht P G r fr s c
 | .loop c fr s=>UI r c (r (.code c fr s))
 | .ops ops l fr s=>nN r ops fr s l
 | .draw ops l fr s q=>PN r ops fr s q l
 | .op ops o fr s=>wK P G r fr s o (Sr ops fr o.guard)
 | .call f args s=>lY P H r f args s (X f args s)
end AI
namespace AI
open Go Go.RowKit
noncomputable def vJ (l:List AV):Nat→AV:=List.rec (motive:=fun _=>Nat→AV) (fun _=>.sc undef) (fun a _ ih n=>Nat.rec (motive:=fun _=>AV) a (fun k _=>ih k) n) l
theorem oM (l:List AV) (n:Nat):vJ l n=nth l n:=by
 induction l generalizing n with
 | nil=>rfl
 | cons a l ih=>cases n with
   | zero=>rfl
   | succ n=>exact ih n
noncomputable def aaf (v:AV) (l:List AV):Nat→List AV:=List.rec (motive:=fun _=>Nat→List AV) (fun _=>[]) (fun a t ih n=>Nat.rec (motive:=fun _=>List AV) (v::t) (fun k _=>a::ih k) n) l
theorem oK (v:AV) (l:List AV) (n:Nat):aaf v l n=l.set n v:=by
 induction l generalizing n with
 | nil=>rfl
 | cons a l ih=>cases n with
   | zero=>rfl
   | succ n=>show a::aaf v l n=_;rw [ih];rfl
noncomputable def tV (fr:List AV) (dst:Option Tmp) (v:AV):List AV:=Option.rec (motive:=fun _=>List AV) fr (fun d=>aaf v fr d) dst
theorem g8 (fr:List AV) (dst:Option Tmp) (v:AV):tV fr dst v=Kl fr dst v:=by cases dst with
 | none=>rfl
 | some d=>exact oK v fr d
abbrev Sm:=Program→A8→List AV→AS→Oper→Option AR
noncomputable def aaK (t:Tmp) (_:A8) (fr:List AV):Option AV:=some (vJ fr t)
def nU (v:Value) (_:A8) (_:List AV):Option AV:=Q7 v
def zJ (g:Nat) (G:A8) (_:List AV):Option AV:=evG (G g)
def adI (f:FuncId) (_:A8) (_:List AV):Option AV:=some (.fn (.func f) [] [])
noncomputable def lI (x:Operand):A8→List AV→Option AV:=Operand.rec (motive:=fun _=>A8→List AV→Option AV) aaK nU zJ adI x
theorem aah (x:Operand) (G:A8) (fr:List AV):lI x G fr=AZ G fr x:=by
 cases x with
 | tmp t=>show some (vJ fr t)=some (nth fr t);rw [oM]
 | const v=>rfl
 | global g=>rfl
 | func f=>rfl
noncomputable def Ui {α β:Type} (o:Option α) (f:α→Option β):Option β:=Option.rec (motive:=fun _=>Option β) none f o
theorem qZ {α β:Type} (o:Option α) (f:α→Option β):Ui o f=VL o f:=by cases o<;>rfl
def acD (s:AS) (v:AV):Option AR:=some (.val v s)
noncomputable def X3 (s:AS) (o:Option AV):Option AR:=Ui o (acD s)
theorem mJ (s:AS) (o:Option AV):X3 s o=Kd s o:=by cases o<;>rfl
noncomputable def Vu (x:Operand):Sm:=fun _ G fr s _=>X3 s (lI x G fr)
def n8 (c a b:Operand):Sm:=fun _ G fr s _=>Kd s (tM (AZ G fr a) (AZ G fr b) (AZ G fr c))
def fZ (e:TypeId):Sm:=fun P _ _ s _=>fE s (Hb P e)
def u9 (_:TypeId) (x:Operand):Sm:=fun _ G fr s _=>Z7 s (AZ G fr x)
def kD (t:TypeId) (ps:Array (Nat×Operand)):Sm:=fun P G fr s _=>Kd s (VL (JR G fr ps.toList) (TJ P t))
def Ue (t:TypeId) (n:Nat) (ps:Array (Nat×Operand)):Sm:=fun P G fr s _=>Kd s (VL (JR G fr ps.toList) (J6 P t n))
noncomputable def Zf (t:TypeId) (a:Operand):Sm:=fun P G fr s _=>X3 s (Ui (lI a G fr) (Ie P s t))
def kF (t:TypeId) (a x:Operand):Sm:=fun P G fr s _=>W4 (two (AZ G fr a) (AZ G fr x) (JE P s t))
def zW (x:Operand):Sm:=fun _ G fr s _=>XT s (AZ G fr x)
noncomputable def gZ (op:BinOp) (t:TypeId) (x y:Operand) (_:TypeId):Sm:=fun P G fr s _=>X3 s (Ui (lI x G fr) (fun a=>Ui (lI y G fr) (fun b=>Ti P op t x y a b)))
def abS (op:UnOp) (_:TypeId) (x:Operand):Sm:=fun P G fr s _=>Zp P s (Op.unary op) (VL (AZ G fr x) MX)
def nI (src dst:TypeId) (x:Operand):Sm:=fun P G fr s _=>Zp P s (convert src dst) (VL (AZ G fr x) MX)
def iD (t:TypeId) (x:Operand):Sm:=fun P G fr s _=>Y0 t s (AZ G fr x) (P.underlying t)
def pM (f:Fn) (first caps:Array Operand):Sm:=fun _ G fr s _=>func1 f s (Ul G fr caps.toList) (Ul G fr first.toList)
def wX (_:TypeId) (r:Option Operand):Sm:=fun _ _ _ s _=>Wv s r
def rW (t:TypeId) (l c:Operand):Sm:=fun P G fr s _=>cV (two (AZ G fr l) (AZ G fr c) (GD P s t))
def fH (t:TypeId) (x:Operand) (lo hi mx:Option Operand):Sm:=fun P G fr s _=>iC P s t (Wi G fr lo) (Wi G fr hi) (Wi G fr mx) (AZ G fr x)
noncomputable def UJ (t:TypeId) (x:Operand) (k:Nat):Sm:=fun P G fr s _=>X3 s (Ui (lI x G fr) fun a=>NY P t a k)
def kT (t:TypeId) (x:Operand) (k:Nat):Sm:=fun P G fr s _=>Kd s (VL (AZ G fr x) fun a=>S5 P t a k)
noncomputable def UE (t:TypeId) (x i:Operand):Sm:=fun P G fr s _=>X3 s (Ui (lI x G fr) (fun a=>Ui (lI i G fr) (fun b=>B2 P t a b)))
noncomputable def WT (t:TypeId) (x i:Operand):Sm:=fun P G fr s _=>X3 s (Ui (lI x G fr) (fun a=>Ui (lI i G fr) (fun b=>RD P t a b)))
def bS (t:TypeId) (x k:Operand) (ok:Bool):Sm:=fun P G fr s _=>Kd s (two (AZ G fr x) (AZ G fr k) fun a b=>F5 P s t a b ok)
def j9 (t:TypeId) (m k x:Operand):Sm:=fun P G fr s _=>W4 (three (AZ G fr m) (AZ G fr k) (AZ G fr x) (HQ P s t))
def hD (t:TypeId) (m k:Operand):Sm:=fun P G fr s _=>cV (two (AZ G fr m) (AZ G fr k) (Me P s t))
def bU (_:TypeId) (m st x:Operand):Sm:=fun _ G fr s _=>W4 (three (AZ G fr m) (AZ G fr st) (AZ G fr x) (J1 s))
def XV (x:Operand) (k:Nat):Sm:=fun _ G fr s _=>Kd s (VL (AZ G fr x) fun a=>N2 a k)
def qL (cl:Call):Sm:=fun P G fr s o=>VD P G fr s o cl
def iV (x:Operand):Sm:=fun _ G fr _ _=>acj (AZ G fr x)
def aa2:Sm:=fun _ _ _ _ _=>none
noncomputable def jW (op:Op):Sm:=match op with
 | .move x=>Vu x
 | .assign x=>Vu x
 | .pick c a b=>n8 c a b
 | .alloc e=>fZ e
 | .box e x=>u9 e x
 | .build t ps=>kD t ps
 | .buildSlice t n ps=>Ue t n ps
 | .load t a=>Zf t a
 | .store t a x=>kF t a x
 | .nilCheck x=>zW x
 | .binOp op t x y z=>gZ op t x y z
 | .unOp op t x=>abS op t x
 | .convert a b x=>nI a b x
 | .makeInterface t x=>iD t x
 | .makeFunc f a b=>pM f a b
 | .makeMap t r=>wX t r
 | .makeSlice t l c=>rW t l c
 | .slice t x lo hi mx=>fH t x lo hi mx
 | .fieldAddr t x k=>UJ t x k
 | .field t x k=>kT t x k
 | .indexAddr t x i=>UE t x i
 | .index t x i=>WT t x i
 | .lookup t x k ok=>bS t x k ok
 | .mapUpdate t m k x=>j9 t m k x
 | .insert t m k x=>j9 t m k x
 | .mapEntry t m k=>hD t m k
 | .entryStore t m st x=>bU t m st x
 | .extract x k=>XV x k
 | .call cl=>qL cl
 | .panic x=>iV x
 | _=>aa2
theorem eW (P:Program) (G:A8) (fr:List AV) (s:AS) (o:Oper):jW o.op P G fr s o=OS P G fr s o:=by
 unfold jW OS
 cases o.op<;>try rfl
 all_goals simp only [Vu,Zf,gZ,UJ,UE,WT,aah,mJ,qZ]
 all_goals first
   | done
   | (rename_i a b c d e;cases AZ G fr c<;>cases AZ G fr d<;>rfl)
   | (rename_i a b c;cases AZ G fr b<;>cases AZ G fr c<;>rfl)
noncomputable def TY (ops:Array Oper) (fr:List AV) (g:Option (Nat×Bool)):Bool:=Option.rec (motive:=fun _=>Bool) true (fun p=>Sr ops fr (some p)) g
theorem dG (ops:Array Oper) (fr:List AV) (g:Option (Nat×Bool)):TY ops fr g=Sr ops fr g:=by cases g<;>rfl
noncomputable def hZ (r:Rec) (ops:Array Oper) (dst:Option Tmp) (l:List Oper) (fr:List AV):Option Rs→Option Rs
 | some (.call c s)=>(match c with
   | .ret v=>r (.ops ops l (tV fr dst v) s)
   | .pan v=>some (.code (.pan v) fr s))
 | _=>none
noncomputable def PT (P:Program) (G:A8) (r:Rec) (fr:List AV) (s:AS) (o:Oper) (b:Bool):Option Rs:=Bool.rec (motive:=fun _=>Option Rs) (some (.call (.ret (.sc undef)) s)) (opK r s (jW o.op P G fr s o)) b
noncomputable def S4 (P:Program) (G:A8) (r:Rec) (ops:Array Oper) (fr:List AV) (s:AS) (l:List Oper):Option Rs:=List.rec (motive:=fun _=>Option Rs) (some (.code .normal fr s)) (fun o l _=>hZ r ops o.dst l fr (PT P G r fr s o (TY ops fr o.guard))) l
abbrev Ss:=Program→A8→Rec→List AV→AS→Option Rs
def aaO:Ss:=fun _ _ _ fr s=>some (.code .normal fr s)
def yM (id:Nat):Ss:=fun _ _ _ fr s=>some (.code (.exit id) fr s)
def abc:Ss:=fun _ _ _ fr s=>some (.code .ret fr s)
def aa8 (x y:Code):Ss:=fun _ _ r fr s=>bV r y (r (.code x fr s))
def uJ (q:Operand) (x y:Code):Ss:=fun _ G r fr s=>Z9 r x y fr s (AZ G fr q)
def lZ (id:Nat) (c:Code):Ss:=fun _ _ r fr s=>YX id (r (.code c fr s))
def aaZ (c:Code):Ss:=fun _ _ r fr s=>XD (r (.loop c fr s))
def g7 (_:Nat) (ops:Array Oper) (d:Bool):Ss:=fun P G r fr s=>RS P G r ops fr s d
def adU:Ss:=fun _ _ _ _ _=>none
def ZF (c:Code):Ss:=match c with
 | .skip=>aaO
 | .exit id=>yM id
 | .ret=>abc
 | .seq x y=>aa8 x y
 | .cond q x y=>uJ q x y
 | .block id c=>lZ id c
 | .loop c=>aaZ c
 | .region id ops d=>g7 id ops d
 | _=>adU
theorem XR (P:Program) (G:A8) (r:Rec) (fr:List AV) (s:AS) (c:Code):ZF c P G r fr s=Ht P G r fr s c:=by cases c<;>rfl
noncomputable def TZ (P:Program) (G:A8) (X:Q6) (H:Mn) (r:Rec):Tk→Option Rs
 | .code c fr s=>ZF c P G r fr s
 | .loop c fr s=>UI r c (r (.code c fr s))
 | .ops ops l fr s=>S4 P G r ops fr s l
 | .draw ops l fr s q=>PN r ops fr s q l
 | .op ops o fr s=>PT P G r fr s o (TY ops fr o.guard)
 | .call f args s=>lY P H r f args s (X f args s)
noncomputable def sT (P:Program) (G:A8) (X:Q6) (H:Mn) (n:Nat):Rec:=Nat.rec (motive:=fun _=>Rec) (fun _=>none) (fun _ ih=>TZ P G X H ih) n
end AI
namespace AI
open Go Go.RowKit
section
variable {P:Program} {G:A8} {X:Q6} {H:Mn} {r:Rec}
theorem sV (hr:∀ tk rs,r tk=some rs→Rt P G (XP X) H tk rs) {ops:Array Oper} {o:Oper} {fr:List AV} {s:AS} {rs:Rs} (h:PT P G r fr s o (TY ops fr o.guard)=some rs):Rt P G (XP X) H (.op ops o fr s) rs:=by
 rw [dG,aU] at h
 unfold PT at h
 cases hw:BU ops fr o with
 | false=>rw [hw] at h;simp only at h;cases h;exact J.opSkip hw
 | true =>
   rw [hw] at h
   simp only at h
   rw [eW,JN] at h
   cases ha:Mw P G fr s o with
   | none=>rw [ha] at h;cases h
   | some a =>
     rw [ha] at h
     cases a with
     | val v s1=>simp only [opK] at h;cases h;exact J.opVal hw ha
     | pan v=>simp only [opK] at h;cases h;exact J.opPan hw ha
     | ent f args =>
       simp only [opK] at h
       cases hc:r (.call f args s) with
       | none=>rw [hc] at h;cases h
       | some q =>
         rw [hc] at h
         cases q with
         | call c s1=>simp only [tN] at h;cases h;exact J.opCall hw ha (hr _ _ hc)
         | _=>cases h
theorem eC (hr:∀ tk rs,r tk=some rs→Rt P G (XP X) H tk rs) (tk:Tk) (rs:Rs) (h:TZ P G X H r tk=some rs):Rt P G (XP X) H tk rs:=by
 cases tk with
 | code c fr s =>
   simp only [TZ,XR] at h
   cases c with
   | skip=>simp only [Ht] at h;cases h;exact J.skip
   | exit id=>simp only [Ht] at h;cases h;exact J.exit
   | ret=>simp only [Ht] at h;cases h;exact J.ret
   | seq x y =>
     simp only [Ht] at h
     cases h1:r (.code x fr s) with
     | none=>rw [h1] at h;cases h
     | some q =>
       rw [h1] at h
       have i1:=hr _ _ h1
       cases q with
       | code e fr1 s1 =>
         cases e with
         | normal =>
           simp only [bV] at h
           have i2:=hr _ _ h
           cases rs with
           | code e fr' s'=>exact J.seq i1 i2
           | call r s'=>exact i2.elim
           | tr t fr' s'=>exact i2.elim
         | exit id=>simp only [bV] at h;cases h;exact J.seqX i1 (by simp)
         | ret=>simp only [bV] at h;cases h;exact J.seqX i1 (by simp)
         | pan v=>simp only [bV] at h;cases h;exact J.seqX i1 (by simp)
       | _=>cases h
   | cond q x y =>
     simp only [Ht,BY] at h
     cases hq:Be G fr q with
     | none=>rw [hq] at h;cases h
     | some v =>
       rw [hq] at h
       cases v with
       | sc u =>
         cases u with
         | bool t =>
           cases t with
           | true =>
             simp only [Z9] at h
             have i2:=hr _ _ h
             cases rs with
             | code e fr' s'=>exact J.cond hq i2
             | call r s'=>exact i2.elim
             | tr t fr' s'=>exact i2.elim
           | false =>
             simp only [Z9] at h
             have i2:=hr _ _ h
             cases rs with
             | code e fr' s'=>exact J.cond hq i2
             | call r s'=>exact i2.elim
             | tr t fr' s'=>exact i2.elim
         | _=>cases h
       | _=>cases h
   | block id c =>
     simp only [Ht] at h
     cases h1:r (.code c fr s) with
     | none=>rw [h1] at h;cases h
     | some q =>
       rw [h1] at h
       cases q with
       | code e fr1 s1=>simp only [YX] at h;cases h;exact J.block (hr _ _ h1)
       | _=>cases h
   | loop c =>
     simp only [Ht] at h
     cases h1:r (.loop c fr s) with
     | none=>rw [h1] at h;cases h
     | some q =>
       rw [h1] at h
       cases q with
       | code e fr1 s1=>simp only [XD] at h;cases h;exact J.loop (hr _ _ h1)
       | _=>cases h
   | region id ops d =>
     simp only [Ht] at h
     cases d with
     | false =>
       simp only [RS] at h
       cases h1:r (.ops ops ops.toList fr s) with
       | none=>rw [h1] at h;cases h
       | some q =>
         rw [h1] at h
         cases q with
         | code e fr1 s1 =>
           simp only [XD] at h;cases h
           have:=hr _ _ h1 0 (by simp)
           refine J.region ?_
           rw [Array.length_toList] at this
           rw [List.range_eq_range']
           exact this
         | _=>cases h
     | true =>
       simp only [RS] at h
       cases hord:Kw ops with
       | false=>rw [hord] at h;cases h
       | true =>
         rw [hord] at h
         simp only [sO] at h
         cases hrs:lN P ops.toList with
         | none=>rw [hrs] at h;cases h
         | some r0 =>
           rw [hrs] at h
           simp only [sG] at h
           cases h1:r (.draw ops ops.toList fr (s.hold r0) s.nx) with
           | none=>rw [h1] at h;cases h
           | some q =>
             rw [h1] at h
             cases q with
             | tr t fr1 s1 =>
               simp only [sL] at h
               cases hst:TA P G ops t s1 s.nx r0 with
               | false=>rw [hst] at h;cases h
               | true=>rw [hst] at h;simp only at h;cases h;exact qT hord hrs (hr _ _ h1) hst
             | _=>cases h
   | _=>simp only [Ht] at h;cases h
 | loop c fr s =>
   simp only [TZ] at h
   cases h1:r (.code c fr s) with
   | none=>rw [h1] at h;cases h
   | some q =>
     rw [h1] at h
     have i1:=hr _ _ h1
     cases q with
     | code e fr1 s1 =>
       cases e with
       | normal =>
         simp only [UI] at h
         have i2:=hr _ _ h
         cases rs with
         | code e fr' s'=>exact J.loopN i1 i2
         | call r s'=>exact i2.elim
         | tr t fr' s'=>exact i2.elim
       | exit id=>simp only [UI] at h;cases h;exact J.loopX i1 (by simp)
       | ret=>simp only [UI] at h;cases h;exact J.loopX i1 (by simp)
       | pan v=>simp only [UI] at h;cases h;exact J.loopX i1 (by simp)
     | _=>cases h
 | ops ops l fr s =>
   simp only [TZ] at h
   cases l with
   | nil=>simp only [S4] at h;cases h;intro k _;exact J.opsNil
   | cons o l =>
     simp only [S4] at h
     cases h1:PT P G r fr s o (TY ops fr o.guard) with
     | none=>rw [h1] at h;cases h
     | some q =>
       rw [h1] at h
       have i1:=sV hr h1
       cases q with
       | call c s1 =>
         cases c with
         | ret v =>
           simp only [hZ,g8] at h
           have i2:=hr _ _ h
           cases rs with
           | code e fr' s' =>
             intro k hk
             obtain ⟨hk1,hk2⟩:ops.toList[k]?=some o∧l=ops.toList.drop (k+1):=by
               constructor
               · have:=congrArg (fun x=>x[0]?) hk
                 simpa using this.symm
               · have:=congrArg List.tail hk
                 rw [List.tail_drop] at this
                 exact this
             rw [List.length_cons,List.range'_succ]
             exact J.opsCons (by rw [← Array.getElem?_toList];exact hk1) i1 (i2 (k+1) hk2)
           | call r s'=>exact i2.elim
           | tr t fr' s'=>exact i2.elim
         | pan v =>
           simp only [hZ] at h
           cases h
           intro k hk
           have hk1:ops.toList[k]?=some o:=by
             have:=congrArg (fun x=>x[0]?) hk
             simpa using this.symm
           rw [List.length_cons,List.range'_succ]
           exact J.opsPan (by rw [← Array.getElem?_toList];exact hk1) i1
       | _=>cases h
 | draw ops l fr s q0 =>
   simp only [TZ] at h
   cases l with
   | nil=>simp only [PN] at h;cases h;exact LH.nil
   | cons o l =>
     simp only [PN] at h
     cases ha:Bs o.op with
     | true =>
       rw [ha] at h
       simp only [Yb,gC] at h
       cases h2:r (.draw ops l (Kl fr o.dst (I8 ops fr o q0)) s (q0+1)) with
       | none=>rw [h2] at h;cases h
       | some q =>
         rw [h2] at h
         cases q with
         | tr t fr1 s2=>simp only [trK] at h;cases h;exact LH.alloc ha (hr _ _ h2)
         | _=>cases h
     | false =>
       rw [ha] at h
       simp only [Yb] at h
       cases h1:r (.op ops o fr s) with
       | none=>rw [h1] at h;cases h
       | some q =>
         rw [h1] at h
         cases q with
         | call c s1 =>
           cases c with
           | ret v =>
             simp only [fS] at h
             cases h2:r (.draw ops l (Kl fr o.dst v) s1 q0) with
             | none=>rw [h2] at h;cases h
             | some q =>
               rw [h2] at h
               cases q with
               | tr t fr1 s2=>simp only [trK] at h;cases h;exact LH.cons ha (hr _ _ h1) (hr _ _ h2)
               | _=>cases h
           | pan v=>cases h
         | _=>cases h
 | op ops o fr s=>exact sV hr h
 | call f args s =>
   simp only [TZ] at h
   cases hx:X f args s with
   | some q=>rw [hx] at h;obtain ⟨c,s1⟩:=q;simp only [lY] at h;cases h;exact J.ext hx
   | none =>
     rw [hx] at h
     simp only [lY] at h
     cases hh:H f args with
     | some q =>
       obtain ⟨g,gargs,k⟩:=q
       rw [hh] at h
       simp only [gK] at h
       cases h1:r (.call g gargs s) with
       | none=>rw [h1] at h;cases h
       | some q =>
         rw [h1] at h
         cases q with
         | call c s1 =>
           simp only [tA] at h
           cases hk:k c with
           | none=>rw [hk] at h;cases h
           | some c1=>rw [hk] at h;simp only at h;cases h;exact J.hook hh (hr _ _ h1) hk
         | _=>cases h
     | none =>
       rw [hh] at h
       simp only [gK] at h
       cases hf:P.funcs[f]? with
       | none=>rw [hf] at h;cases h
       | some fn =>
         rw [hf] at h
         simp only [Uh] at h
         cases hb:fn.body with
         | none=>rw [hb] at h;cases h
         | some c =>
           rw [hb] at h
           simp only [sQ] at h
           cases h1:r (.code c (args++List.replicate (fn.ntmps - args.length) (.sc undef)) s) with
           | none=>rw [h1] at h;cases h
           | some q =>
             rw [h1] at h
             have i1:=hr _ _ h1
             cases q with
             | code e fr1 s1 =>
               cases e with
               | normal =>
                 simp only [WX] at h
                 cases ha:Gl P s1 fn fr1 with
                 | none=>rw [ha] at h;cases h
                 | some v=>rw [ha] at h;simp only [pR] at h;cases h;exact J.body hf hb i1 (.inl rfl) ha (fV _ _ _)
               | ret =>
                 simp only [WX] at h
                 cases ha:Gl P s1 fn fr1 with
                 | none=>rw [ha] at h;cases h
                 | some v=>rw [ha] at h;simp only [pR] at h;cases h;exact J.body hf hb i1 (.inr rfl) ha (fV _ _ _)
               | pan v=>simp only [WX] at h;cases h;exact J.Kq hf hb i1
               | exit id=>simp only [WX] at h;cases h
             | _=>cases h
theorem xO (n:Nat) (tk:Tk) (rs:Rs) (h:sT P G X H n tk=some rs):Rt P G (XP X) H tk rs:=by
 induction n generalizing tk rs with
 | zero=>cases h
 | succ n ih=>exact eC ih tk rs h
end
mutual
def plain:AV→Bool
 | .sc _=>true
 | .agg cs=>Bu cs
 | .Bd cs=>Bu cs
 | .sl o _ cs=>(match o with | .row _ _=>false | _=>true)&&Bu cs
 | .ifc _ v=>plain v
 | .el cs=>Bu cs
 | .fn _ a b=>Bu a&&Bu b
 | .any=>true
 | _=>false
def Bu:List AV→Bool
 | []=>true
 | a::l=>plain a&&Bu l
end
mutual
def LO:AV→AV
 | .agg cs=>.agg (PQ cs)
 | .Bd cs=>.Bd (PQ cs)
 | .sl o n cs=>.sl (match o with | .row _ _=>.lost | o=>o) n (PQ cs)
 | .ifc t v=>.ifc t (LO v)
 | .el cs=>.el (PQ cs)
 | a=>a
def PQ:List AV→List AV
 | []=>[]
 | a::l=>LO a::PQ l
end
mutual
def Oc:AV→Bool
 | .sc _=>true
 | .agg cs=>Hw cs
 | .Bd cs=>Hw cs
 | .sl _ _ cs=>Hw cs
 | .ifc _ v=>Oc v
 | .el cs=>Hw cs
 | .any=>true
 | _=>false
def Hw:List AV→Bool
 | []=>true
 | a::l=>Oc a&&Hw l
end
section
variable {c c':Cx} {w w':World}
mutual
theorem Rp.plain (hv:∀ g i v,Kb c w g i v→Kb c' w' g i v):∀ {a:AV} {v:Value},AI.plain a=true→Rp c w a v→Rp c' w' a v:=by
 intro a v hp h
 cases h with
 | sc h1=>exact .sc h1
 | agg h1=>exact .agg (Cz.plain hv hp h1)
 | Bd h1=>exact .Bd (Cz.plain hv hp h1)
 | @sl0 own A cap h1 =>
   simp only [AI.plain,Bool.and_eq_true] at hp
   cases own with
   | full=>exact .sl0 h1
   | nil=>exact .sl0 h1
   | nn=>exact .sl0 h1
   | lost=>exact .sl0 h1
   | row r sz=>cases hp.1
 | @sl1 own n cap g o cs hn h1 ho =>
   simp only [AI.plain,Bool.and_eq_true] at hp
   refine .sl1 hn (Bb.plain hv hp.2 h1) ?_
   cases own with
   | full=>exact ho
   | nil=>exact ho
   | nn=>exact ho
   | lost=>trivial
   | row r sz=>cases hp.1
 | msl hn h1=>cases hp
 | el h1=>exact .el (Bb.plain hv hp h1)
 | ptr h1=>cases hp
 | fn h1 h2 =>
   simp only [AI.plain,Bool.and_eq_true] at hp
   exact .fn (Cz.plain hv hp.1 h1) (Cz.plain hv hp.2 h2)
 | ifc h1=>exact .ifc (Rp.plain hv hp h1)
 | mp h1=>cases hp
 | any h1=>exact .any h1
theorem Cz.plain (hv:∀ g i v,Kb c w g i v→Kb c' w' g i v):∀ {a:List AV} {v:List Value},AI.Bu a=true→Cz c w a v→Cz c' w' a v:=by
 intro a v hp h
 cases h with
 | nil=>exact .nil
 | cons h1 t =>
   simp only [AI.Bu,Bool.and_eq_true] at hp
   exact .cons (Rp.plain hv hp.1 h1) (Cz.plain hv hp.2 t)
theorem Bb.plain (hv:∀ g i v,Kb c w g i v→Kb c' w' g i v):∀ {a:List AV} {g o:Nat},AI.Bu a=true→Bb c w g o a→Bb c' w' g o a:=by
 intro a g o hp h
 cases h with
 | nil=>exact .nil
 | cons hvv h1 t =>
   simp only [AI.Bu,Bool.and_eq_true] at hp
   exact .cons (hv _ _ _ hvv) (Rp.plain hv hp.1 h1) (Bb.plain hv hp.2 t)
end
mutual
theorem Rp.LO (hv:∀ g i v,Kb c w g i v→Kb c' w' g i v):∀ {a:AV} {v:Value},Oc a=true→Rp c w a v→Rp c' w' (AI.LO a) v:=by
 intro a v hp h
 cases h with
 | sc h1=>exact .sc h1
 | agg h1=>exact .agg (Cz.LO hv hp h1)
 | Bd h1=>exact .Bd (Cz.LO hv hp h1)
 | @sl0 own A cap h1 =>
   cases own with
   | full=>exact .sl0 h1
   | nil=>exact .sl0 h1
   | nn=>exact .sl0 h1
   | lost=>exact .sl0 h1
   | row r sz=>exact .sl0 trivial
 | @sl1 own n cap g o cs hn h1 ho =>
   have h2:=Bb.LO hv hp h1
   refine .sl1 hn h2 ?_
   cases own with
   | full=>exact ho
   | nil=>exact ho
   | nn=>exact ho
   | lost=>trivial
   | row r sz=>trivial
 | msl hn h1=>cases hp
 | el h1=>exact .el (Bb.LO hv hp h1)
 | ptr h1=>cases hp
 | fn h1 h2=>cases hp
 | ifc h1=>exact .ifc (Rp.LO hv hp h1)
 | mp h1=>cases hp
 | any h1=>exact .any h1
theorem Cz.LO (hv:∀ g i v,Kb c w g i v→Kb c' w' g i v):∀ {a:List AV} {v:List Value},Hw a=true→Cz c w a v→Cz c' w' (AI.PQ a) v:=by
 intro a v hp h
 cases h with
 | nil=>exact .nil
 | cons h1 t =>
   simp only [AI.Hw,Bool.and_eq_true] at hp
   exact .cons (Rp.LO hv hp.1 h1) (Cz.LO hv hp.2 t)
theorem Bb.LO (hv:∀ g i v,Kb c w g i v→Kb c' w' g i v):∀ {a:List AV} {g o:Nat},Hw a=true→Bb c w g o a→Bb c' w' g o (AI.PQ a):=by
 intro a g o hp h
 cases h with
 | nil=>exact .nil
 | cons hvv h1 t =>
   simp only [AI.Hw,Bool.and_eq_true] at hp
   exact .cons (hv _ _ _ hvv) (Rp.LO hv hp.1 h1) (Bb.LO hv hp.2 t)
end
end
def s0:AS:=⟨[],0,[],0⟩
theorem XE {P:Program} {G:A8} (hG:∀ g cs,G g=some cs→Bu cs=true) {f:FuncId} {args:List AV} {v:AV} {s1:AS} (h:Sound P G (.call f args s0 (.ret v) s1)) (hp:Bu args=true) (hb:Oc v=true) (s:AS):Sound P G (.call f args s (.ret (LO v)) s):=by
 intro cx w vs hs hargs
 have hvis:∀ g i x,Kb cx w g i x→Kb ⟨w.heap.size,[],[],cx.T1⟩ w g i x:=by
   intro g i x hx
   refine ⟨hx.1,fun hsh=>?_,hx.2.2⟩
   rcases hsh with hsh | ⟨r,n,cap,sz,hr,_⟩ | hsh
   · cases hsh
   · simp at hr
   · exact hx.2.1 hsh
 have hst:St G ⟨w.heap.size,[],[],cx.T1⟩ w s0 :=
   ⟨rfl,trivial,(fun i j g h1=>by simp at h1),(fun g hg=>by cases hg),(fun id g b h1=>by simp at h1),rfl,(fun r g n cap sz hr=>by simp at hr),(fun r n hr=>by cases hr),(fun g hg=>by cases hg),(fun g i hb=>hs.QA hb),(fun r r' g n cap sz n' cap' sz' hr=>by simp at hr),(fun g cs hg=>Bb.plain hvis (hG g cs hg) (hs.glob g cs hg)),Nat.le_refl _⟩
 refine (h _ w vs hst (Cz.plain hvis hp hargs)).mono ?_
 rintro e w' ⟨c',hx,_,u,rfl,hu⟩
 have hbel:=hx.below
 obtain ⟨x2,st2⟩:=hs.same (w':=w') ⟨hbel.os,hbel.tape,hbel.output,hbel.size,fun k hk _=>hbel.block k hk⟩
 refine ⟨cx,x2,st2,u,rfl,Rp.LO (fun g i x hv=>⟨hv.1,fun hsh=>hv.2.1 (.inr (.inr ?_)),hv.2.2⟩) hb hu⟩
 rw [hx.bad]
 exact hsh
theorem WA {P:Program} {G:A8} (hG:∀ g cs,G g=some cs→Bu cs=true) {f:FuncId} {args cs cs':List AV} {v:AV} {s1:AS} (h:Sound P G (.call f (.ptr 0 0::args) ⟨[(0,.cells cs)],1,[],0⟩ (.ret v) s1)) (hs1:s1.get 0=some (.cells cs')) (hp:Bu args=true) (hcs:Bu cs=true) (hb:Oc v=true) (hb':Hw cs'=true) (s:AS) (id:Nat) (hid:s.get id=some (.cells cs)) :
   Sound P G (.call f (.ptr id 0::args) s (.ret (LO v)) (s.put id (.cells (PQ cs')))):=by
 intro cx w vs hs hargs
 cases hargs with
 | @cons _ pv _ avs hptr hrest =>
   cases hptr with
   | @ptr _ _ g hphi =>
     have hgm:some g∈cx.Cl:=List.mem_of_getElem? hphi
     have hvis:∀ k i x,Kb cx w k i x→Kb ⟨0,[some g],[],fun k i=>k≠g∧cx.T1 k i⟩ w k i x:=by
       intro k i x hx
       refine ⟨hx.1,fun hsh=>?_,hx.2.2⟩
       rcases hsh with hsh | ⟨r,n,cap,sz,hr,_⟩ | hsh
       · have:k=g:=by simpa using hsh
         subst this
         exact hx.2.1 (.inl hgm)
       · simp at hr
       · exact hx.2.1 hsh.2
     obtain ⟨us,ext,T,hw,hur⟩:=KV hs hphi hid
     have hst:St G ⟨0,[some g],[],fun k i=>k≠g∧cx.T1 k i⟩ w ⟨[(0,.cells cs)],1,[],0⟩:=by
       refine ⟨rfl,⟨by simp,trivial⟩,(fun i j g' h1 h2=>by have e1:=(List.getElem?_eq_some_iff.1 h1).1;have e2:=(List.getElem?_eq_some_iff.1 h2).1;simp at e1 e2;omega),(fun g hg=>Nat.zero_le _),(fun id' g' b h1 h2=>?_),rfl,(fun r g n cap sz hr=>by simp at hr),(fun r n hr=>by cases hr),(fun g' hg=>?_),(fun k i hb=>hs.QA hb.2),(fun r r' g n cap sz n' cap' sz' hr=>by simp at hr),(fun g cs hg=>Bb.plain hvis (hG g cs hg) (hs.glob g cs hg)),Nat.zero_le _⟩
       · simp only [AS.get,look] at h2
         split at h2
         · rename_i hb'
           cases h2
           have:=(beq_true hb').symm
           subst this
           simp at h1
           subst h1
           exact ⟨_,hw,.cellsX ext (Cz.plain hvis hcs hur)⟩
         · cases h2
       · have:g'=g:=by simpa using hg
         subst this
         exact hs.Jx hgm
     refine (h _ w _ hst (.cons (.ptr rfl) (Cz.plain hvis hp hrest))).mono ?_
     rintro e w' ⟨c',hx,hst',u,rfl,hu⟩
     have hphi':c'.Cl[0]?=some (some g):=hx.get (c:=⟨0,[some g],[],fun k i=>k≠g∧cx.T1 k i⟩) rfl
     obtain ⟨us',ext',T',hw',hur'⟩:=KV hst' hphi' hs1
     have hvis':∀ k i x,Kb c' w' k i x→Kb cx w' k i x:=by
       intro k i x hv
       refine ⟨hv.1,fun hsh=>?_,hv.2.2⟩
       by_cases hk:k=g
       · subst hk;exact hv.2.1 (.inl (List.mem_of_getElem? hphi'))
       · refine hv.2.1 (.inr (.inr ?_))
         rw [hx.bad]
         exact ⟨hk,hsh⟩
     have hbel:=hx.below
     have hchg:Xu w w' (fun x=>x=g):=⟨hbel.os,hbel.tape,hbel.output,hbel.size,fun k hk hne=>hx.keep k hk (by simpa using hne) (fun r n cap sz=>by simp)⟩
     obtain ⟨x2,st2⟩:=hs.aeh hphi hchg hw' (Eg.cellsX ext' (Cz.LO hvis' hb' hur'))
     exact ⟨cx,x2,st2,u,rfl,Rp.LO hvis' hb hu⟩
end AI
namespace AI
open Go Go.RowKit
mutual
def under (n m:Nat):AV→Bool
 | .sc _=>true
 | .agg cs=>CZ n m cs
 | .Bd cs=>CZ n m cs
 | .sl o _ cs=>(match o with | .row r _=>decide (r < m) | _=>true)&&CZ n m cs
 | .msl id _ _=>decide (id < n)
 | .el cs=>CZ n m cs
 | .ptr id _=>decide (id < n)
 | .fn _ a b=>CZ n m a&&CZ n m b
 | .ifc _ v=>under n m v
 | .mp id=>decide (id < n)
 | .any=>true
def CZ (n m:Nat):List AV→Bool
 | []=>true
 | a::l=>under n m a&&CZ n m l
end
mutual
theorem Ae (n m:Nat):∀ {a:AV},plain a=true→under n m a=true
 | .sc _,_=>rfl
 | .agg cs,h=>by simp only [plain] at h;simp only [under];exact Aj n m h
 | .Bd cs,h=>by simp only [plain] at h;simp only [under];exact Aj n m h
 | .sl o k cs,h=>by
   simp only [plain,Bool.and_eq_true] at h
   simp only [under,Bool.and_eq_true]
   refine ⟨?_,Aj n m h.2⟩
   cases o with
   | row r sz=>cases h.1
   | _=>rfl
 | .msl _ _ _,h=>by cases h
 | .el cs,h=>by simp only [plain] at h;simp only [under];exact Aj n m h
 | .ptr _ _,h=>by cases h
 | .fn _ a b,h=>by
   simp only [plain,Bool.and_eq_true] at h
   simp only [under,Bool.and_eq_true]
   exact ⟨Aj n m h.1,Aj n m h.2⟩
 | .ifc _ v,h=>by simp only [plain] at h;simp only [under];exact Ae n m h
 | .mp _,h=>by cases h
 | .any,_=>rfl
theorem Aj (n m:Nat):∀ {l:List AV},Bu l=true→CZ n m l=true
 | [],_=>rfl
 | a::l,h=>by
   simp only [Bu,Bool.and_eq_true] at h
   simp only [CZ,Bool.and_eq_true]
   exact ⟨Ae n m h.1,Aj n m h.2⟩
end
def Cx.upto (c:Cx) (n m:Nat):Cx:=⟨c.base,c.Cl.take n,c.rows.take m,c.bad⟩
theorem DT {α:Type} {l:List α} {n i:Nat} {x:α} (h:(l.take n)[i]?=some x):l[i]?=some x∧i < n:=by
 rw [List.getElem?_take] at h
 split at h
 · rename_i hi;exact ⟨h,hi⟩
 · cases h
theorem ME {α:Type} {l:List α} {n i:Nat} {x:α} (h:l[i]?=some x) (hi:i < n):(l.take n)[i]?=some x:=by
 rw [List.getElem?_take,if_pos hi];exact h
section
variable {c:Cx} {w:World} {n m:Nat}
theorem eZ {g i:Nat} (h:(c.upto n m).T1 g i):c.T1 g i:=by
 rcases h with h | ⟨r,n,cap,sz,hr,h⟩ | h
 · exact .inl (List.mem_of_mem_take h)
 · exact .inr (.inl ⟨r,n,cap,sz,(DT hr).1,h⟩)
 · exact .inr (.inr h)
theorem Py {g i:Nat} {v:Value} (h:Kb c w g i v):Kb (c.upto n m) w g i v:=⟨h.1,fun hs=>h.2.1 (eZ hs),h.2.2⟩
mutual
theorem Rp.upto:∀ {a:AV} {v:Value},under n m a=true→Rp c w a v→Rp (c.upto n m) w a v:=by
 intro a v hp h
 cases h with
 | sc h1=>exact .sc h1
 | agg h1=>exact .agg (Cz.upto hp h1)
 | Bd h1=>exact .Bd (Cz.upto hp h1)
 | @sl0 own A cap h1 =>
   simp only [AI.under,Bool.and_eq_true] at hp
   cases own with
   | full=>exact .sl0 h1
   | nil=>exact .sl0 h1
   | nn=>exact .sl0 h1
   | lost=>exact .sl0 trivial
   | row r sz =>
     have hr:r < m:=of_decide_eq_true hp.1
     refine .sl0 ⟨h1.1,?_⟩
     have:=h1.2
     simp only [Cx.upto,List.length_take]
     omega
 | @sl1 own k cap g o cs hn h1 ho =>
   simp only [AI.under,Bool.and_eq_true] at hp
   refine .sl1 hn (Bb.upto hp.2 h1) ?_
   cases own with
   | full=>exact ho
   | nil=>exact ho
   | nn=>exact ho
   | lost=>trivial
   | row r sz =>
     have hr:r < m:=of_decide_eq_true hp.1
     refine ⟨ho.1,ho.2.1,?_,fun e=>ho.2.2.2.1 (DT e).1,fun g' n' c' s' e=>ho.2.2.2.2 g' n' c' s' (DT e).1⟩
     have:=ho.2.2.1
     simp only [Cx.upto,List.length_take]
     omega
 | msl hn h1=>exact .msl hn (ME h1 (of_decide_eq_true hp))
 | el h1=>exact .el (Bb.upto hp h1)
 | ptr h1=>exact .ptr (ME h1 (of_decide_eq_true hp))
 | fn h1 h2 =>
   simp only [AI.under,Bool.and_eq_true] at hp
   exact .fn (Cz.upto hp.1 h1) (Cz.upto hp.2 h2)
 | ifc h1=>exact .ifc (Rp.upto hp h1)
 | mp h1=>exact .mp (ME h1 (of_decide_eq_true hp))
 | any h1=>exact .any h1
theorem Cz.upto:∀ {a:List AV} {v:List Value},CZ n m a=true→Cz c w a v→Cz (c.upto n m) w a v:=by
 intro a v hp h
 cases h with
 | nil=>exact .nil
 | cons h1 t =>
   simp only [AI.CZ,Bool.and_eq_true] at hp
   exact .cons (Rp.upto hp.1 h1) (Cz.upto hp.2 t)
theorem Bb.upto:∀ {a:List AV} {g o:Nat},CZ n m a=true→Bb c w g o a→Bb (c.upto n m) w g o a:=by
 intro a g o hp h
 cases h with
 | nil=>exact .nil
 | cons hvv h1 t =>
   simp only [AI.CZ,Bool.and_eq_true] at hp
   exact .cons (Py hvv) (Rp.upto hp.1 h1) (Bb.upto hp.2 t)
end
end
def Pu:AV→Bool
 | .sc v=>RM v
 | _=>true
theorem Pd {c:Cx} {w:World} {a:AV} {v:Value} (h:Rp c w a v) (hd:Pu a=true):RM v=true:=by
 cases h<;>first | rfl | exact hd | assumption | (cases hd;done)
def X9:AV→AV
 | .sl _ n cs=>.sl .lost n cs
 | a=>a
inductive Fg (n m:Nat):List AV→List AV→Prop where
 | nil:Fg n m [] []
 | keep {a:AV} {l k:List AV} (h:under n m a=true) (t:Fg n m l k):Fg n m (a::l) (a::k)
 | drop {a:AV} {l k:List AV} (h:Pu a=true) (t:Fg n m l k):Fg n m (a::l) (.any::k)
 | lost {o:Own} {j:Nat} {cs l k:List AV} (h:CZ n m cs=true) (t:Fg n m l k):Fg n m (.sl o j cs::l) (.sl .lost j cs::k)
theorem Fg.ok {n m:Nat} {l k:List AV} (h:Fg n m l k) {c:Cx} {w:World} {vs:List Value} (hr:Cz c w l vs):Cz (c.upto n m) w k vs:=by
 induction h generalizing vs with
 | nil=>cases hr;exact .nil
 | keep h _ ih=>cases hr with | cons h1 t=>exact .cons (h1.upto h) (ih t)
 | drop h _ ih=>cases hr with | cons h1 t=>exact .cons (.any (Pd h1 h)) (ih t)
 | @lost o j cs l k h _ ih =>
   cases hr with
   | cons h1 t =>
     refine .cons ?_ (ih t)
     cases h1 with
     | sl0 _=>exact .sl0 trivial
     | sl1 hn hc ho=>exact .sl1 hn (hc.upto h) trivial
def PD (n m:Nat):List (Value×AV×Nat)→Bool
 | []=>true
 | e::l=>under n m e.2.1&&PD n m l
def V2 (n m:Nat):A5→Bool
 | .cells cs=>CZ n m cs
 | .map es _=>PD n m es
theorem Iz.upto {c:Cx} {w:World} {n m:Nat}:∀ {es:List (Value×AV×Nat)} {fs:List MapEntry},PD n m es=true→Iz c w es fs→Iz (c.upto n m) w es fs:=by
 intro es
 induction es with
 | nil=>intro fs _ h;cases h;exact .nil
 | cons e es ih =>
   intro fs hu h
   obtain ⟨x,a,b⟩:=e
   simp only [PD,Bool.and_eq_true] at hu
   cases h with | cons h1 t=>exact .cons (h1.upto hu.1) (ih hu.2 t)
theorem Eg.upto {c:Cx} {w:World} {n m:Nat} {b:A5} {o:Obj} (hb:V2 n m b=true) (h:Eg c w b o):Eg (c.upto n m) w b o:=by
 cases h with
 | cellsX ext h1=>exact .cellsX ext (h1.upto hb)
 | map h1=>exact .map (h1.upto hb)
def Fits (n m:Nat) (a b:AV):Prop:=∀ (c:Cx) (w:World) (v:Value),Rp c w a v→Rp (c.upto n m) w b v
def H3 (n m:Nat) (a b:List AV):Prop:=∀ (c:Cx) (w:World) (v:List Value),Cz c w a v→Cz (c.upto n m) w b v
def OI (n m:Nat) (a b:List AV):Prop:=∀ (c:Cx) (w:World) (g o:Nat),Bb c w g o a→Bb (c.upto n m) w g o b
def Mh (n m:Nat) (a b:A5):Prop:=∀ (c:Cx) (w:World) (o:Obj),Eg c w a o→Eg (c.upto n m) w b o
theorem Fits.under {n m:Nat} {a:AV} (h:AI.under n m a=true):Fits n m a a:=fun _ _ _ hr=>hr.upto h
theorem H3.under {n m:Nat} {a:List AV} (h:AI.CZ n m a=true):H3 n m a a:=fun _ _ _ hr=>hr.upto h
theorem OI.under {n m:Nat} {a:List AV} (h:AI.CZ n m a=true):OI n m a a:=fun _ _ _ _ hr=>hr.upto h
theorem Mh.under {n m:Nat} {b:A5} (h:V2 n m b=true):Mh n m b b:=fun _ _ _ hr=>hr.upto h
theorem Fits.plain {n m:Nat} {a:AV} (h:AI.plain a=true):Fits n m a a:=.under (Ae n m h)
theorem H3.plain {n m:Nat} {a:List AV} (h:Bu a=true):H3 n m a a:=.under (Aj n m h)
theorem OI.plain {n m:Nat} {a:List AV} (h:Bu a=true):OI n m a a:=.under (Aj n m h)
theorem Fits.sc {n m:Nat} {v:Value}:Fits n m (.sc v) (.sc v):=.under rfl
theorem Fits.drop {n m:Nat} {a:AV} (h:Pu a=true):Fits n m a .any:=fun _ _ _ hr=>.any (Pd hr h)
theorem Fits.agg {n m:Nat} {a b:List AV} (h:H3 n m a b):Fits n m (.agg a) (.agg b):=fun _ _ _ hr=>by cases hr with | agg h1=>exact .agg (h _ _ _ h1)
theorem Fits.Bd {n m:Nat} {a b:List AV} (h:H3 n m a b):Fits n m (.Bd a) (.Bd b):=fun _ _ _ hr=>by cases hr with | Bd h1=>exact .Bd (h _ _ _ h1)
theorem Fits.lost {n m:Nat} {o:Own} {k:Nat} {a b:List AV} (h:OI n m a b) (e:a=[]→b=[]):Fits n m (.sl o k a) (.sl .lost k b):=fun _ _ _ hr=>by
 cases hr with
 | sl0 _=>rw [e rfl];exact .sl0 trivial
 | sl1 hn hc ho=>exact .sl1 hn (h _ _ _ _ hc) trivial
theorem H3.nil {n m:Nat}:H3 n m [] []:=fun _ _ _ hr=>by cases hr;exact .nil
theorem H3.cons {n m:Nat} {a b:AV} {l k:List AV} (h:Fits n m a b) (t:H3 n m l k):H3 n m (a::l) (b::k):=fun _ _ _ hr=>by cases hr with | cons h1 t1=>exact .cons (h _ _ _ h1) (t _ _ _ t1)
theorem OI.nil {n m:Nat}:OI n m [] []:=fun _ _ _ _ hr=>by cases hr;exact .nil
theorem OI.cons {n m:Nat} {a b:AV} {l k:List AV} (h:Fits n m a b) (t:OI n m l k):OI n m (a::l) (b::k):=fun _ _ _ _ hr=>by cases hr with | cons hv h1 t1=>exact .cons (Py hv) (h _ _ _ h1) (t _ _ _ _ t1)
theorem Mh.cells {n m:Nat} {a b:List AV} (h:H3 n m a b):Mh n m (.cells a) (.cells b):=fun _ _ _ hr=>by cases hr with | cellsX ext h1=>exact .cellsX ext (h _ _ _ h1)
theorem pV {G:A8} (hG:∀ g cs,G g=some cs→Bu cs=true) {s s' s2:AS} {fr' fr2:List AV} (hn:s2.nx=s.nx) (hr:s2.nr=s.nr)
   (hd:Hm s2.h s2.nx) (hbox:∀ id b,look id s2.h=some b→∃ b',look id s'.h=some b'∧Mh s.nx s.nr b' b) (hF:∀ r n,C8 r s2.F=some n→C8 r s'.F=some n∧r < s.nr)
   (hf:H3 s.nx s.nr fr' fr2) (cx:Cx) (w:World) (c':Cx) (w':World) (vs:List Value) (hx:Ext cx w c' w') (hs:St G cx w s) (hs':St G c' w' s') (hfr:Cz c' w' fr' vs) :
   ∃ c2,Ext cx w c2 w'∧St G c2 w' s2∧Cz c2 w' fr2 vs:=by
 have hphi:c'.Cl.take s.nx=cx.Cl:=by
   obtain ⟨t,ht⟩:=hx.Cl
   rw [← ht,hs.len,List.take_left]
 have hrl:(c'.rows.take s.nr).length=cx.rows.length:=by
   have:=hx.rlen
   rw [List.length_take,hs.rlen];omega
 refine ⟨c'.upto s.nx s.nr,⟨?_,?_,fun r x hr' h=>?_,fun g i v hv=>Py (hx.vis g i v hv),hx.below,hx.base,hx.bad,fun g hg=>hx.pnew g (List.mem_of_mem_take hg),fun r g n cap sz h=>hx.rnew r g n cap sz (DT h).1,hx.keep⟩,?_,hf _ _ _ hfr⟩
 · show cx.Cl <+: c'.Cl.take s.nx
   rw [hphi]
   exact List.prefix_refl _
 · show cx.rows.length≤(c'.rows.take s.nr).length
   omega
 · exact hx.rows r x hr' (DT h).1
 · refine ⟨?_,hd,fun i j g h1 h2=>hs'.nodup i j g (DT h1).1 (DT h2).1,fun g hg=>hs'.low g (List.mem_of_mem_take hg),fun id g b h1 h2=>?_,?_,fun r g n cap sz h=>?_,fun r n h=>?_,fun g hg=>hs'.plow g (List.mem_of_mem_take hg),hs'.blow,fun r r' g n cap sz n' cap' sz' h h'=>hs'.rdist r r' g n cap sz n' cap' sz' (DT h).1 (DT h').1,fun g cs hg=>(hs'.glob g cs hg).upto (Aj _ _ (hG g cs hg)),hs'.bsz⟩
   · show s2.nx=(c'.Cl.take s.nx).length
     rw [hphi,hn,hs.len]
   · obtain ⟨b',h3,h4⟩:=hbox id b h2
     obtain ⟨o,ho,hb⟩:=hs'.box id g b' (DT h1).1 h3
     exact ⟨o,ho,h4 _ _ _ hb⟩
   · show s2.nr=(c'.rows.take s.nr).length
     rw [hrl,hr,hs.rlen]
   · obtain ⟨a1,a2,a3,a4⟩:=hs'.row r g n cap sz (DT h).1
     exact ⟨a1,a2,fun hm=>a3 (List.mem_of_mem_take hm),a4⟩
   · obtain ⟨h1,h2⟩:=hF r n h
     rcases hs'.rfree r n h1 with ⟨h3,h4⟩ | ⟨g,cap,sz,h3⟩
     · exact .inl ⟨ME h3 h2,h4⟩
     · exact .inr ⟨g,cap,sz,ME h3 h2⟩
end AI
