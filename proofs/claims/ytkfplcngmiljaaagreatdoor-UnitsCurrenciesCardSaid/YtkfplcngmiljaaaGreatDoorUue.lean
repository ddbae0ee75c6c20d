/- Part of a proof: see the last text. -/
import Derived.Test.YtkfplcngmiljaaaGreatDoorUud
import Derived.LoopN
set_option linter.unusedVariables false
set_option linter.unusedSimpArgs false
namespace AI
open Go Go.RowKit
inductive AX where
 | normal
 | exit (id:Nat)
 | ret
 | pan (v:AV)
inductive CR where
 | ret (v:AV)
 | pan (v:AV)
def Bd (ops:Array Oper) (fr:List AV) (o:Oper):Bool:=match o.guard with
 | none=>true
 | some (j,want)=>match (ops[j]?).bind (·.dst) with
   | some d=>match fr[d]? with
     | some (.sc (.bool b))=>b == want
     | _=>false
   | none=>false
def DU (id:Nat):AX→AX
 | .exit id'=>if id'=id then .normal else .exit id'
 | e=>e
def LX (P:Program) (s:AS) (fr:List AV):ResultVar→Option AV
 | .tmp t=>some (fr.getD t (.sc undef))
 | .cell t ty=>FI P s ty (fr.getD t (.sc undef))
def Jg (P:Program) (s:AS) (fr:List AV):List ResultVar→Option (List AV)
 | []=>some []
 | r::rs=>match LX P s fr r,Jg P s fr rs with
   | some a,some as=>some (a::as)
   | _,_=>none
def DP (P:Program) (s:AS) (fn:Func) (fr:List AV):Option AV:=match Jg P s fr fn.results.toList with
 | some [a]=>some a
 | some as=>some (.Br as)
 | none=>none
inductive Jd where
 | code (c:Code) (fr:List AV) (s:AS) (e:AX) (fr':List AV) (s':AS)
 | loop (c:Code) (fr:List AV) (s:AS) (e:AX) (fr':List AV) (s':AS)
 | ops (ops:Array Oper) (l:List Nat) (fr:List AV) (s:AS) (e:AX) (fr':List AV) (s':AS)
 | op (ops:Array Oper) (o:Oper) (fr:List AV) (s:AS) (r:CR) (s':AS)
 | call (f:FuncId) (args:List AV) (s:AS) (r:CR) (s':AS)
def Bu (ops:Array Oper) (i:Nat):Option Tmp:=(ops[i]?).bind (·.dst)
def Nb (ops:Array Oper) (i:Nat):Prop:=∃ o,ops[i]?=some o∧calm o.op=false
def oI (ops:Array Oper) (i k:Nat):Prop:=(∀ l,Nb ops l→MF (FE ops.toList []) i l=true→l < k)∧(∀ l,Nb ops l→MF (FE ops.toList []) l i=true→k≤l)
abbrev Lk:=FuncId→List AV→AS→CR→AS→Prop
abbrev Jh:=FuncId→List AV→Option (FuncId×List AV×(CR→Option CR))
inductive J (P:Program) (G:AG) (X:Lk) (H:Jh):Jd→Prop where
 | skip {fr:List AV} {s:AS}:J P G X H (.code .skip fr s .normal fr s)
 | exit {id:Nat} {fr:List AV} {s:AS}:J P G X H (.code (.exit id) fr s (.exit id) fr s)
 | ret {fr:List AV} {s:AS}:J P G X H (.code .ret fr s .ret fr s)
 | seq {x y:Code} {fr fr1 fr':List AV} {s s1 s':AS} {e:AX} (h1:J P G X H (.code x fr s .normal fr1 s1)) (h2:J P G X H (.code y fr1 s1 e fr' s')):J P G X H (.code (.seq x y) fr s e fr' s')
 | seqX {x y:Code} {fr fr':List AV} {s s':AS} {e:AX} (h1:J P G X H (.code x fr s e fr' s')) (he:e≠.normal):J P G X H (.code (.seq x y) fr s e fr' s')
 | cond {q:Operand} {x y:Code} {t:Bool} {fr fr':List AV} {s s':AS} {e:AX} (hq:AP G fr q=some (.sc (.bool t))) (h:J P G X H (.code (if t then x else y) fr s e fr' s')):J P G X H (.code (.cond q x y) fr s e fr' s')
 | block {id:Nat} {c:Code} {fr fr':List AV} {s s':AS} {e:AX} (h:J P G X H (.code c fr s e fr' s')):J P G X H (.code (.block id c) fr s (DU id e) fr' s')
 | loop {c:Code} {fr fr':List AV} {s s':AS} {e:AX} (h:J P G X H (.loop c fr s e fr' s')):J P G X H (.code (.loop c) fr s e fr' s')
 | loopN {c:Code} {fr fr1 fr':List AV} {s s1 s':AS} {e:AX} (h1:J P G X H (.code c fr s .normal fr1 s1)) (h2:J P G X H (.loop c fr1 s1 e fr' s')):J P G X H (.loop c fr s e fr' s')
 | loopX {c:Code} {fr fr':List AV} {s s':AS} {e:AX} (h1:J P G X H (.code c fr s e fr' s')) (he:e≠.normal):J P G X H (.loop c fr s e fr' s')
 | region {id:Nat} {ops:Array Oper} {fr fr':List AV} {s s':AS} {e:AX} (h:J P G X H (.ops ops (List.range ops.size) fr s e fr' s')):J P G X H (.code (.region id ops false) fr s e fr' s')
 | opsNil {ops:Array Oper} {fr:List AV} {s:AS}:J P G X H (.ops ops [] fr s .normal fr s)
 | opsCons {ops:Array Oper} {i:Nat} {l:List Nat} {o:Oper} {v:AV} {fr fr':List AV} {s s1 s':AS} {e:AX} (ho:ops[i]?=some o) (h:J P G X H (.op ops o fr s (.ret v) s1)) (t:J P G X H (.ops ops l (Ho fr o.dst v) s1 e fr' s')):J P G X H (.ops ops (i::l) fr s e fr' s')
 | opsPan {ops:Array Oper} {i:Nat} {l:List Nat} {o:Oper} {v:AV} {fr:List AV} {s s1:AS} (ho:ops[i]?=some o) (h:J P G X H (.op ops o fr s (.pan v) s1)):J P G X H (.ops ops (i::l) fr s (.pan v) fr s1)
 | opVal {ops:Array Oper} {o:Oper} {fr:List AV} {s s':AS} {v:AV} (hw:Bd ops fr o=true) (h:JA P G fr s o=some (.val v s')):J P G X H (.op ops o fr s (.ret v) s')
 | opWeak {ops:Array Oper} {o:Oper} {fr:List AV} {s s':AS} {v v2:AV} (hq:quiet o.op=false) (h:J P G X H (.op ops o fr s (.ret v) s')) (hv:∀ cx w u,Rp cx w v u→Rp cx w v2 u):J P G X H (.op ops o fr s (.ret v2) s')
 | opSkip {ops:Array Oper} {o:Oper} {fr:List AV} {s:AS} (hw:Bd ops fr o=false):J P G X H (.op ops o fr s (.ret (.sc undef)) s)
 | opCall {ops:Array Oper} {o:Oper} {fr:List AV} {s s':AS} {f:FuncId} {args:List AV} {r:CR} (hw:Bd ops fr o=true) (h:JA P G fr s o=some (.ent f args)) (hc:J P G X H (.call f args s r s')):J P G X H (.op ops o fr s r s')
 | opPan {ops:Array Oper} {o:Oper} {fr:List AV} {s:AS} {v:AV} (hw:Bd ops fr o=true) (h:JA P G fr s o=some (.pan v)):J P G X H (.op ops o fr s (.pan v) s)
 | draw {id:Nat} {ops:Array Oper} {f0:List AV} {s0:AS} (rs:List AF) (vals:Nat→AV) (sts:Nat→AS) (h0:sts 0=s0.hold rs) (hord:Hv ops=true)
     (hl:∀ i o,ops[i]?=some o→calm o.op=false→J P G X H (.op ops o (FX f0 (Bu ops) vals (fun _=>true) i) (sts i) (.ret (vals i)) (sts (i+1))))
     (hq:∀ i o,ops[i]?=some o→quiet o.op=true→sts (i+1)=sts i∧((Bd ops (FX f0 (Bu ops) vals (fun _=>true) i) o=false∧vals i=.sc undef)∨(Bd ops (FX f0 (Bu ops) vals (fun _=>true) i) o=true∧∀ k,k≤ops.size→oI ops i k→JA P G (FX f0 (Bu ops) vals (fun _=>true) i) (sts k) o=some (.val (vals i) (sts k)))))
     (ha:∀ i o e,ops[i]?=some o→o.op=.alloc e→sts (i+1)=sts i∧((Bd ops (FX f0 (Bu ops) vals (fun _=>true) i) o=false∧vals i=.sc undef)∨(Bd ops (FX f0 (Bu ops) vals (fun _=>true) i) o=true∧∃ z,E9 P e=some z∧rk ops i < rs.length∧vals i=.ptr (s0.nx+rk ops i) 0∧∀ k,k≤ops.size→oI ops i k→(sts k).get (s0.nx+rk ops i)=some (.cells (cellsOf z))))) :
     J P G X H (.code (.region id ops true) f0 s0 .normal (FX f0 (Bu ops) vals (fun _=>true) ops.size) (sts ops.size))
 | body {f:FuncId} {fn:Func} {c:Code} {args fr':List AV} {s s' s2:AS} {e:AX} {v:AV} (hf:P.funcs[f]?=some fn) (hb:fn.body=some c) (h:J P G X H (.code c (args++List.replicate (fn.ntmps - args.length) (.sc undef)) s e fr' s')) (he:e=.normal∨e=.ret) (hr:DP P s' fn fr'=some v) (hk:s2=s'.cut s.nx∨s2=s'):J P G X H (.call f args s (.ret v) s2)
 | bodyP {f:FuncId} {fn:Func} {c:Code} {args fr':List AV} {s s':AS} {v:AV} (hf:P.funcs[f]?=some fn) (hb:fn.body=some c) (h:J P G X H (.code c (args++List.replicate (fn.ntmps - args.length) (.sc undef)) s (.pan v) fr' s')):J P G X H (.call f args s (.pan v) (s'.cut s.nx))
 | ext {f:FuncId} {args:List AV} {s s':AS} {r:CR} (h:X f args s r s'):J P G X H (.call f args s r s')
 | weak {c:Code} {fr fr2 fr':List AV} {s s2 s':AS} {e:AX} (hw:∀ cx w vs,St G cx w s→BD cx w fr vs→∃ cx2,Ext cx w cx2 w∧St G cx2 w s2∧BD cx2 w fr2 vs) (h:J P G X H (.code c fr2 s2 e fr' s')):J P G X H (.code c fr s e fr' s')
 | weakL {c:Code} {fr fr2 fr':List AV} {s s2 s':AS} {e:AX} (hw:∀ cx w vs,St G cx w s→BD cx w fr vs→∃ cx2,Ext cx w cx2 w∧St G cx2 w s2∧BD cx2 w fr2 vs) (h:J P G X H (.loop c fr2 s2 e fr' s')):J P G X H (.loop c fr s e fr' s')
 | scope {c:Code} {fr fr2 fr':List AV} {s s2 s':AS} {e:AX} (h:J P G X H (.code c fr s e fr' s')) (he:∀ v,e≠.pan v) (hs:∀ cx w c' w' vs,Ext cx w c' w'→St G cx w s→St G c' w' s'→BD c' w' fr' vs→∃ c2,Ext cx w c2 w'∧St G c2 w' s2∧BD c2 w' fr2 vs):J P G X H (.code c fr s e fr2 s2)
 | hook {f g:FuncId} {args gargs:List AV} {k:CR→Option CR} {s s':AS} {r r':CR} (hh:H f args=some (g,gargs,k)) (h:J P G X H (.call g gargs s r s')) (hk:k r=some r'):J P G X H (.call f args s r' s')
def u9 (G:AG) (c:Cx) (w:World) (r:CR) (s':AS) (e:Ending) (w':World):Prop :=
 ∃ c',Ext c w c' w'∧St G c' w' s'∧match r with
   | .ret v=>∃ u,e=.returned u∧Rp c' w' v u
   | .pan v=>∃ u,e=.panicked [{ v:=u,recovered:=false }]∧Rp c' w' v u
def Mf (G:AG) (c:Cx) (w:World) (e:AX) (fr':List AV) (s':AS) (e':Exit) (a':Act) (w':World):Prop :=
 ∃ c',Ext c w c' w'∧St G c' w' s'∧a'.defers=[]∧match e with
   | .normal=>e'=.normal∧BD c' w' fr' a'.tmps.toList
   | .exit id=>e'=.exit id∧BD c' w' fr' a'.tmps.toList
   | .ret=>e'=.ret∧BD c' w' fr' a'.tmps.toList
   | .pan v=>∃ u,e'=.panic [{ v:=u,recovered:=false }]∧Rp c' w' v u
theorem Mf.ext {G:AG} {c c1:Cx} {w w1:World} {e:AX} {fr':List AV} {s':AS} {e':Exit} {a':Act} {w':World} (x:Ext c w c1 w1) (h:Mf G c1 w1 e fr' s' e' a' w'):Mf G c w e fr' s' e' a' w':=by
 obtain ⟨c',h1,h2⟩:=h
 exact ⟨c',x.trans h1,h2⟩
def K8 (P:Program) (ops:Array Oper) (o:Oper) (K:Act→World→Prop) (Q:Exit→Act→World→Prop) (a:Act) (w:World):Prop :=
 if Region.wanted o (yielded ops a.tmps) then o.wp P a w K Q else K (a.put o.dst undef) w
def Sound (P:Program) (G:AG):Jd→Prop
 | .code c fr s e fr' s'=>∀ (cx:Cx) (w:World) (a:Act) (Q:Exit→Act→World→Prop),St G cx w s→BD cx w fr a.tmps.toList→a.defers=[]→(∀ e' a' w',Mf G cx w e fr' s' e' a' w'→Q e' a' w')→c.wp P Q a w
 | .loop c fr s e fr' s'=>∃ n,∀ (cx:Cx) (w:World) (a:Act) (Q:Exit→Act→World→Prop),St G cx w s→BD cx w fr a.tmps.toList→a.defers=[]→(∀ e' a' w',Mf G cx w e fr' s' e' a' w'→Q e' a' w')→Code.rounds P c Q n a w
 | .ops ops l fr s e fr' s'=>∀ (cx:Cx) (w:World) (a:Act) (Q:Exit→Act→World→Prop),St G cx w s→BD cx w fr a.tmps.toList→a.defers=[]→(∀ e' a' w',Mf G cx w e fr' s' e' a' w'→Q e' a' w')→wpOps P ops Q l a w
 | .op ops o fr s r s'=>∀ (cx:Cx) (w:World) (a:Act) (K:Act→World→Prop) (Q:Exit→Act→World→Prop),St G cx w s→(∀ x∈o.op.operands,Rd G cx w fr a.eval x)→Bd ops fr o=Region.wanted o (yielded ops a.tmps) →
     (match r with
       | .ret v=>∀ u w' c',Ext cx w c' w'→St G c' w' s'→Rp c' w' v u→K (a.put o.dst u) w'
       | .pan v=>∀ u w' c',Ext cx w c' w'→St G c' w' s'→Rp c' w' v u→Q (.panic [{ v:=u,recovered:=false }]) a w')→K8 P ops o K Q a w
 | .call f args s r s'=>∀ (cx:Cx) (w:World) (vs:List Value),St G cx w s→BD cx w args vs→Calls P f vs.toArray w (u9 G cx w r s')
theorem Lz {ops:Array Oper} {fr:List AV} {o:Oper} {c:Cx} {w:World} {tmps:Array Value} (h:∀ j want,o.guard=some (j,want)→∀ d,(ops[j]?).bind (·.dst)=some d→∃ M,BD c w M tmps.toList∧M[d]?=fr[d]?):Bd ops fr o=Region.wanted o (yielded ops tmps):=by
 unfold Bd Region.wanted
 cases hg:o.guard with
 | none=>rfl
 | some p =>
   obtain ⟨j,want⟩:=p
   simp only
   unfold yielded
   cases hd:(ops[j]?).bind (·.dst) with
   | none=>simp
   | some d =>
     obtain ⟨M,hM,he⟩:=h j want hg d hd
     simp only [Option.bind_some]
     rw [← he]
     cases hm:M[d]? with
     | none =>
       have hl:=hM.len
       have h1:=List.getElem?_eq_none_iff.1 hm
       have h2:tmps[d]?=none:=Array.getElem?_eq_none (by rw [← Array.length_toList];omega)
       simp [h2]
     | some b =>
       obtain ⟨u,hu,hr⟩:=hM.get hm
       rw [Array.getElem?_toList] at hu
       rw [hu]
       cases hr with
       | sc hs=>cases u<;>simp
       | any hs=>cases u<;>first | (simp [N1] at hs;done) | simp
       | _=>simp
def Yf (tmps:Array Value):ResultVar→Sem Value
 | .tmp t=>pure (tmps.getD t undef)
 | .cell a t=>do loadVar t (← asAddr (tmps.getD a undef))
theorem Pu (fn:Func) (tmps:Array Value):results fn tmps=(do
 let vs ← fn.results.mapM (Yf tmps)
 pure (if h:vs.size=1 then vs[0] else .tuple vs)):=by
 unfold results
 congr 2
theorem SV {P:Program} {G:AG} {c:Cx} {w:World} {s:AS} {fr:List AV} {tmps:Array Value} (hs:St G c w s) (hf:BD c w fr tmps.toList) {r:ResultVar} {v:AV} (h:LX P s fr r=some v) :
   ∃ u,(Yf tmps r).run P w=.ok u w∧Rp c w v u:=by
 have ht:∀ t,Rp c w (fr.getD t (.sc undef)) (tmps.getD t undef):=fun t=>Im (G:=G) (s:=s) (a:=⟨tmps,[]⟩) (x:=.tmp t) hs hf rfl
 cases r with
 | tmp t=>simp only [LX,Option.some.injEq] at h;subst h;exact ⟨_,rfl,ht t⟩
 | cell t ty =>
   obtain ⟨u,h1,h2⟩:=Sf hs h (ht t)
   refine ⟨u,?_,h2⟩
   have hr:=ht t
   simp only [Instr.loadAt,Sem.run_bind] at h1
   simp only [Yf,Sem.run_bind]
   generalize tmps.getD t undef=x at hr h1
   simp only [LX] at h
   unfold FI at h
   split at h
   · rename_i heq;rw [heq] at hr;cases hr;simpa [asAddr,Instr.sureAddr] using h1
   · rename_i heq;rw [heq] at hr;cases hr;simpa [asAddr,Instr.sureAddr] using h1
   · cases h
theorem SF {P:Program} {G:AG} {c:Cx} {w:World} {s:AS} {fr:List AV} {tmps:Array Value} (hs:St G c w s) (hf:BD c w fr tmps.toList) (rs:List ResultVar) {vs:List AV} (h:Jg P s fr rs=some vs) :
   ∃ us,(rs.mapM (Yf tmps)).run P w=.ok us w∧BD c w vs us:=by
 induction rs generalizing vs with
 | nil=>simp [Jg] at h;subst h;exact ⟨[],rfl,.nil⟩
 | cons r rs ih =>
   simp only [Jg] at h
   split at h
   · rename_i a as h1 h2
     cases h
     obtain ⟨u,hu,hr⟩:=SV hs hf h1
     obtain ⟨us,hus,hrs⟩:=ih h2
     refine ⟨u::us,?_,.cons hr hrs⟩
     rw [List.mapM_cons]
     simp only [Sem.run_bind,hu,Result.andThen_ok,hus,Sem.run_pure]
   · cases h
theorem Np {P:Program} {G:AG} {c:Cx} {w:World} {s:AS} {fr:List AV} {tmps:Array Value} {fn:Func} {v:AV} (hs:St G c w s) (hf:BD c w fr tmps.toList) (h:DP P s fn fr=some v):∃ u,(results fn tmps).run P w=.ok u w∧Rp c w v u:=by
 unfold DP at h
 cases hl:Jg P s fr fn.results.toList with
 | none=>rw [hl] at h;cases h
 | some as =>
   rw [hl] at h
   obtain ⟨us,hus,hrs⟩:=SF hs hf _ hl
   have hlen:=hrs.len
   have hrun:(results fn tmps).run P w=.ok (if h:us.toArray.size=1 then us.toArray[0] else .tuple us.toArray) w:=by
     rw [Pu,Array.mapM_eq_mapM_toList]
     simp only [Sem.run_bind,Sem.run_map,hus,Result.andThen_ok,Sem.run_pure]
   rw [hrun]
   split at h
   · rename_i a heq
     cases heq;cases h
     cases hrs with
     | cons h1 t=>cases t;exact ⟨_,rfl,h1⟩
   · rename_i as' hne heq
     cases heq;cases h
     have:¬ us.toArray.size=1:=by
       intro h1
       simp at h1
       obtain ⟨a,ha⟩:=List.length_eq_one_iff.1 (hlen.symm.trans h1)
       exact hne a ha
     rw [dif_neg this]
     exact ⟨_,rfl,.Br hrs⟩
   · rename_i heq;cases heq
end AI
namespace AI
open Go Go.RowKit
def N8 (L:Nat→Bool):Nat→Nat
 | 0=>0
 | n+1=>N8 L n+if L n then 0 else 1
theorem ZE {L:Nat→Bool}:∀ (n:Nat),N8 L n=0→∀ i,i < n→L i=true:=by
 intro n
 induction n with
 | zero=>intro _ i hi;omega
 | succ n ih =>
   intro h i hi
   simp only [N8] at h
   by_cases hn:i=n
   · subst hn
     by_cases hL:L i=true
     · exact hL
     · simp [hL] at h
   · exact ih (by omega) i (by omega)
theorem dF {L M:Nat→Bool} {i:Nat} (h0:L i=false) (h1:M i=true) (hne:∀ j,j≠i→M j=L j):∀ (n:Nat),(i < n→N8 L n=N8 M n+1)∧(n≤i→N8 L n=N8 M n):=by
 intro n
 induction n with
 | zero=>exact ⟨fun h=>by omega,fun _=>rfl⟩
 | succ n ih =>
   refine ⟨fun h=>?_,fun h=>?_⟩
   · simp only [N8]
     by_cases hn:n=i
     · subst hn
       rw [ih.2 (Nat.le_refl _),h0,h1];simp
     · rw [ih.1 (by omega),hne n hn];omega
   · simp only [N8]
     rw [ih.2 (by omega),hne n (by omega)]
theorem PA {ops:Array Oper} {sts:Nat→AS} (hq:∀ i o,ops[i]?=some o→calm o.op=true→sts (i+1)=sts i) {x:Nat}:∀ (y:Nat),x≤y→y≤ops.size→(∀ m,x≤m→m < y→¬ Nb ops m)→sts x=sts y:=by
 intro y
 induction y with
 | zero=>intro h _ _;have:x=0:=by omega
         subst this;rfl
 | succ y ih =>
   intro h hn hl
   by_cases e:x=y+1
   · subst e;rfl
   · rw [ih (by omega) (by omega) (fun m h1 h2=>hl m h1 (by omega))]
     have ho:ops[y]?=some (ops[y]'(by omega)):=Array.getElem?_eq_getElem (by omega)
     have hy:=hl y (by omega) (by omega)
     refine (hq y _ ho ?_).symm
     cases hqq:calm (ops[y]'(by omega)).op with
     | true=>rfl
     | false=>exact absurd ⟨_,ho,hqq⟩ hy
theorem mem_ready {ops:Array Oper} {L:Array Bool} (hsz:L.size=ops.size) {i:Nat} (h:i∈Region.ready .any ops L):∃ o,ops[i]?=some o∧L.getD i false=false∧aS (fun j=>L.getD j false) o∧i < ops.size:=by
 unfold Region.ready at h
 rw [List.mem_filter,List.mem_range,Bool.and_eq_true] at h
 obtain ⟨h1,h2,h3⟩:=h
 have ho:ops[i]?=some (ops[i]'h1):=Array.getElem?_eq_getElem h1
 refine ⟨_,ho,?_,fun e he hb=>?_,h1⟩
 · have:i < L.size:=by omega
   simpa [this] using h2
 · rw [ho] at h3
   simp only [Option.map_some,Option.getD_some] at h3
   rw [Array.all_eq_true_iff_forall_mem] at h3
   have:=h3 e he
   rw [hb] at this
   simpa using this
theorem XW {ops:Array Oper} {L:Array Bool} (hsz:L.size=ops.size) {i:Nat} {o:Oper} (ho:ops[i]?=some o) (hL:L.getD i false=false) (hm:aS (fun j=>L.getD j false) o):i∈Region.ready .any ops L:=by
 have h1:=(Array.getElem?_eq_some_iff.1 ho).1
 unfold Region.ready
 rw [List.mem_filter,List.mem_range,Bool.and_eq_true]
 refine ⟨h1,?_,?_⟩
 · have:i < L.size:=by omega
   simpa [this] using hL
 · rw [ho]
   simp only [Option.map_some,Option.getD_some]
   rw [Array.all_eq_true_iff_forall_mem]
   intro e he
   by_cases hb:Region.binds .any e=true
   · have:=hm e he hb
     rw [hb]
     simpa using this
   · simp [hb]
section
variable {P:Program} {G:AG} {ops:Array Oper} {f0:List AV} {vals:Nat→AV} {sts:Nat→AS}
structure Inv (G:AG) (ops:Array Oper) (f0:List AV) (vals:Nat→AV) (sts:Nat→AS) (cx0:Cx) (w0:World) (nh:Nat) (L:Array Bool) (a:Act) (w:World):Prop where
 size:L.size=ops.size
 closed:JH ops.toList (fun j=>L.getD j false)
 st:∃ c k,k≤ops.size∧(∀ l,Nb ops l→(L.getD l false=true↔l < k))∧Ext cx0 w0 c w∧St G c w (sts k)∧BD c w (FX f0 (Bu ops) vals (fun j=>L.getD j false) ops.size) a.tmps.toList ∧
   ∀ j y,ops[j]?=some y→AY y.op=true→L.getD j false=false→rk ops j < nh→c.Bw[cx0.Bw.length+rk ops j]?=some none
 defers:a.defers=[]
theorem looks {x y:Oper} {t:Nat} (hx:x.dst=some t) (hy:t∈y.looksAt ops):Jc ops x y=true:=by
 simp [Jc,hx,hy]
theorem kN {x y:Oper} {t:Nat} (hx:t∈x.looksAt ops) (hy:y.dst=some t):Jc ops x y=true:=by
 simp [Jc,hx,hy]
theorem tA {x y:Oper} {t:Nat} (hx:x.dst=some t) (hy:y.dst=some t):Jc ops x y=true:=by
 simp [Jc,hx,hy]
theorem VF {x y:Oper} (hx:calm x.op=false) (hy:calm y.op=false):Jc ops x y=true:=by
 simp [Jc,hx,hy]
theorem A2 {i:Nat} {o:Oper} (h:ops[i]?=some o):ops.toList[i]?=some o:=by rw [Array.getElem?_toList];exact h
theorem MY {L:Nat→Bool} (hord:Hv ops=true) (hc:JH ops.toList L) {i j:Nat} {x y:Oper} (hx:ops[i]?=some x) (hy:ops[j]?=some y) (hm:aS L y) (hlt:i < j) (hcl:Jc ops x y=true):L i=true :=
 Q1 hc (A2 hy) hm (QP hord hx hy hlt hcl)
theorem JO {L:Nat→Bool} (hord:Hv ops=true) (hc:JH ops.toList L) {i j:Nat} {x y:Oper} (hx:ops[i]?=some x) (hy:ops[j]?=some y) (hL:L i=false) (hlt:i < j) (hcl:Jc ops x y=true):L j=false:=by
 cases h:L j with
 | false=>rfl
 | true =>
   have:=Q1 hc (A2 hy) (hc j y (A2 hy) h) (QP hord hx hy hlt hcl)
   rw [hL] at this;cases this
theorem TR {i t:Nat} (h:Bu ops i=some t):∃ o,ops[i]?=some o∧o.dst=some t:=by
 unfold Bu at h
 cases ho:ops[i]? with
 | none=>rw [ho] at h;cases h
 | some o=>rw [ho] at h;exact ⟨o,rfl,by simpa using h⟩
theorem P3 {L:Nat→Bool} (hord:Hv ops=true) (hc:JH ops.toList L) {i:Nat} {o:Oper} (ho:ops[i]?=some o) (hL:L i=false) (hm:aS L o) {t:Nat} (ht:t∈o.looksAt ops) :
   (FX f0 (Bu ops) vals L ops.size)[t]?=(FX f0 (Bu ops) vals (fun _=>true) i)[t]?:=by
 have hi:=(Array.getElem?_eq_some_iff.1 ho).1
 rw [UT (j:=i) ops.size (by omega)]
 · refine OP i (fun j hj hd=>?_)
   obtain ⟨x,hx,hxd⟩:=TR hd
   exact MY hord hc hx ho hm hj (looks hxd ht)
 · intro j hj _ hd
   by_cases e:j=i
   · subst e;exact hL
   · obtain ⟨y,hy,hyd⟩:=TR hd
     exact JO hord hc ho hy hL (by omega) (kN ht hyd)
theorem eQ {L M:Nat→Bool} (hord:Hv ops=true) (hc:JH ops.toList L) {i:Nat} {o:Oper} (ho:ops[i]?=some o) (hL:L i=false) (hM:M i=true) (hne:∀ j,j≠i→M j=L j) :
   FX f0 (Bu ops) vals M ops.size=Ho (FX f0 (Bu ops) vals L ops.size) o.dst (vals i):=by
 have hi:=(Array.getElem?_eq_some_iff.1 ho).1
 have hdi:Bu ops i=o.dst:=by unfold Bu;rw [ho];rfl
 apply List.ext_getElem?
 intro t
 by_cases hd:o.dst=some t
 · rw [UT (j:=i+1) ops.size (by omega)]
   · simp only [FX,hM,if_true,hdi,hd]
     rw [IN,IN,Oc,Oc]
   · intro j hj _ hdj
     obtain ⟨y,hy,hyd⟩:=TR hdj
     rw [hne j (by omega)]
     exact JO hord hc ho hy hL (by omega) (tA hd hyd)
 · rw [Ki hd]
   refine OP ops.size (fun j _ hdj=>hne j (fun e=>hd ?_))
   rw [← hdi,← e];exact hdj
theorem Ext.lX {c:Cx} {w:World} {c':Cx} {w':World} (h:Ext c w c' w') {id:Nat} {y:Option Nat} (e:c.Bw[id]?=some y):c'.Bw[id]?=some y:=by
 obtain ⟨t,ht⟩:=h.Bw
 rw [← ht,List.getElem?_append_left (List.getElem?_eq_some_iff.1 e).1]
 exact e
theorem YC {nh:Nat} (hord:Hv ops=true)
   (hl:∀ i o,ops[i]?=some o→calm o.op=false→Sound P G (.op ops o (FX f0 (Bu ops) vals (fun _=>true) i) (sts i) (.ret (vals i)) (sts (i+1))))
   (hq:∀ i o,ops[i]?=some o→quiet o.op=true→sts (i+1)=sts i∧((Bd ops (FX f0 (Bu ops) vals (fun _=>true) i) o=false∧vals i=.sc undef)∨(Bd ops (FX f0 (Bu ops) vals (fun _=>true) i) o=true∧∀ k,k≤ops.size→oI ops i k→JA P G (FX f0 (Bu ops) vals (fun _=>true) i) (sts k) o=some (.val (vals i) (sts k)))))
   (cx0:Cx) (w0:World)
   (ha:∀ i o e,ops[i]?=some o→o.op=.alloc e→sts (i+1)=sts i∧((Bd ops (FX f0 (Bu ops) vals (fun _=>true) i) o=false∧vals i=.sc undef)∨(Bd ops (FX f0 (Bu ops) vals (fun _=>true) i) o=true∧∃ z,E9 P e=some z∧rk ops i < nh∧vals i=.ptr (cx0.Bw.length+rk ops i) 0∧∀ k,k≤ops.size→oI ops i k→(sts k).get (cx0.Bw.length+rk ops i)=some (.cells (cellsOf z)))))
   (Q:Exit→Act→World→Prop) (hQ:∀ e' a' w',Mf G cx0 w0 .normal (FX f0 (Bu ops) vals (fun _=>true) ops.size) (sts ops.size) e' a' w'→Q e' a' w') :
   ∀ (fuel:Nat) (L:Array Bool) (a:Act) (w:World),Inv G ops f0 vals sts cx0 w0 nh L a w→N8 (fun j=>L.getD j false) ops.size=fuel→wpAny P .any ops Q fuel L a w:=by
 have hqs:∀ i o,ops[i]?=some o→calm o.op=true→sts (i+1)=sts i:=fun i o h1 h2=>by
   rcases Li h2 with h2 | ⟨e,h2⟩
   · exact (hq i o h1 h2).1
   · exact (ha i o e h1 h2).1
 have fin:∀ (L:Array Bool) (a:Act) (w:World),Inv G ops f0 vals sts cx0 w0 nh L a w→(∀ i,i < ops.size→L.getD i false=true)→Q .normal a w:=by
   intro L a w hI hall
   obtain ⟨c,k,hk,hlk,hx,hst,hfr,_⟩:=hI.st
   have hsts:sts k=sts ops.size:=PA hqs ops.size hk (Nat.le_refl _) (fun m h1 h2 hm=>by have:=(hlk m hm).1 (hall m h2);omega)
   rw [hsts] at hst
   refine hQ _ _ _ ⟨c,hx,hst,hI.defers,rfl,?_⟩
   have:FX f0 (Bu ops) vals (fun j=>L.getD j false) ops.size=FX f0 (Bu ops) vals (fun _=>true) ops.size:=by
     apply List.ext_getElem?
     intro t
     exact OP ops.size (fun i hi _=>hall i hi)
   rw [← this];exact hfr
 intro fuel
 induction fuel with
 | zero =>
   intro L a w hI hc
   have hall:=ZE ops.size hc
   refine ⟨?_,fin L a w hI hall⟩
   apply List.eq_nil_iff_forall_not_mem.2
   intro i hi
   obtain ⟨o,ho,h1,_,hlt⟩:=mem_ready hI.size hi
   have:=hall i hlt
   rw [h1] at this;cases this
 | succ fuel ih =>
   intro L a w hI hcnt
   refine ⟨fun hnil=>fin L a w hI (fun i=>?_),fun i hi=>?_⟩
   · induction i using Nat.strongRecOn with
     | _ i ihi =>
       intro hlt
       cases hLi:L.getD i false with
       | true=>rfl
       | false =>
         exfalso
         have ho:ops[i]?=some (ops[i]'hlt):=Array.getElem?_eq_getElem hlt
         have:=XW hI.size ho hLi (fun e he hb=>by
           have h1:=XU hord ho he hb
           exact ihi e.on h1 (by omega))
         rw [hnil] at this;cases this
   · obtain ⟨o,ho,hLi,hmet,hlt⟩:=mem_ready hI.size hi
     obtain ⟨c,k,hk,hlk,hx,hst,hfr,hholes⟩:=hI.st
     have hMi:(L.setIfInBounds i true).getD i false=true:=by
       have:i < L.size:=by rw [hI.size];exact hlt
       simp [this]
     have hMn:∀ j,j≠i→(L.setIfInBounds i true).getD j false=L.getD j false:=by
       intro j hj
       simp only [Array.getD_eq_getD_getElem?]
       rw [Array.getElem?_setIfInBounds_ne (fun e=>hj e.symm)]
     have hle:∀ j,L.getD j false=true→(L.setIfInBounds i true).getD j false=true:=by
       intro j hj
       by_cases e:j=i
       · subst e;exact hMi
       · rw [hMn j e];exact hj
     have hclosed':JH ops.toList (fun j=>(L.setIfInBounds i true).getD j false):=by
       intro j y hy hj e he hb
       by_cases ej:j=i
       · subst ej
         rw [A2 ho] at hy;cases hy
         exact hle _ (hmet e he hb)
       · have hj2:L.getD j false=true:=by rw [← hMn j ej];exact hj
         exact hle _ (hI.closed j y hy hj2 e he hb)
     have hcnt':N8 (fun j=>(L.setIfInBounds i true).getD j false) ops.size=fuel:=by
       have:=(dF (L:=fun j=>L.getD j false) (M:=fun j=>(L.setIfInBounds i true).getD j false) hLi hMi hMn ops.size).1 hlt
       omega
     have hput:=eQ (f0:=f0) (vals:=vals) (L:=fun j=>L.getD j false) (M:=fun j=>(L.setIfInBounds i true).getD j false) hord hI.closed ho hLi hMi hMn
     have stepM:∀ (k':Nat) (u:Value) (w':World) (c':Cx),k'≤ops.size→(∀ l,Nb ops l→((L.setIfInBounds i true).getD l false=true↔l < k'))→Ext cx0 w0 c' w'→Mon c w c' w' →
         (∀ j y,ops[j]?=some y→AY y.op=true→(L.setIfInBounds i true).getD j false=false→rk ops j < nh→c'.Bw[cx0.Bw.length+rk ops j]?=some none)→St G c' w' (sts k')→Rp c' w' (vals i) u→wpAny P .any ops Q fuel (L.setIfInBounds i true) (a.put o.dst u) w':=by
       intro k' u w' c' hk' hlk' hx' hm' hh' hst' hu
       refine ih _ _ _ ⟨by simp [hI.size],hclosed',⟨c',k',hk',hlk',hx',hst',?_,hh'⟩,by cases o.dst<;>exact hI.defers⟩ hcnt'
       rw [hput]
       exact Vg (hfr.CI hm') hu
     have step:∀ (k':Nat) (u:Value) (w':World) (c':Cx),k'≤ops.size→(∀ l,Nb ops l→((L.setIfInBounds i true).getD l false=true↔l < k'))→Ext c w c' w'→St G c' w' (sts k')→Rp c' w' (vals i) u→wpAny P .any ops Q fuel (L.setIfInBounds i true) (a.put o.dst u) w':=by
       intro k' u w' c' hk' hlk' hx' hst' hu
       refine stepM k' u w' c' hk' hlk' (hx.trans hx') hx'.jP (fun j y hy hya hj hjn=>?_) hst' hu
       have hji:j≠i:=fun e=>by subst e;rw [hMi] at hj;cases hj
       rw [hMn j hji] at hj
       exact hx'.lX (hholes j y hy hya hj hjn)
     have hsees:∀ x∈o.op.operands,Rd G c w (FX f0 (Bu ops) vals (fun _=>true) i) a.eval x:=by
       intro x hxo v hv
       cases x with
       | tmp t =>
         have hlook:t∈o.looksAt ops:=by
           unfold Oper.looksAt
           rw [List.mem_append]
           left
           rw [List.mem_filterMap]
           exact ⟨.tmp t,Array.mem_toList_iff.2 hxo,rfl⟩
         have he:=P3 (f0:=f0) (vals:=vals) hord hI.closed ho hLi hmet hlook
         have:AP G (FX f0 (Bu ops) vals (fun j=>L.getD j false) ops.size) (.tmp t)=some v:=by
           rw [← hv]
           simp only [AP,List.getD_eq_getElem?_getD,he]
         exact Im hst hfr this
       | const z=>exact Im (fr:=FX f0 (Bu ops) vals (fun j=>L.getD j false) ops.size) hst hfr hv
       | global g=>exact Im (fr:=FX f0 (Bu ops) vals (fun j=>L.getD j false) ops.size) hst hfr hv
       | func f=>exact Im (fr:=FX f0 (Bu ops) vals (fun j=>L.getD j false) ops.size) hst hfr hv
     have hwant:Bd ops (FX f0 (Bu ops) vals (fun _=>true) i) o=Region.wanted o (yielded ops a.tmps):=by
       refine Lz (c:=c) (w:=w) (fun j want hg d hd=>⟨_,hfr,?_⟩)
       refine P3 hord hI.closed ho hLi hmet ?_
       unfold Oper.looksAt
       rw [List.mem_append]
       right
       rw [hg]
       simp [hd]
     have fromOne:K8 P ops o (wpAny P .any ops Q fuel (L.setIfInBounds i true)) Q a w→wpOp P ops Q i (wpAny P .any ops Q fuel (L.setIfInBounds i true)) a w:=by
       intro h
       unfold wpOp
       rw [ho]
       unfold K8 at h
       simp only
       split
       · rename_i hw;rw [if_pos hw] at h;exact .inl h
       · rename_i hw;rw [if_neg hw] at h;exact h
     refine fromOne ?_
     cases hqo:calm o.op with
     | false =>
       have hki:sts k=sts i:=by
         rcases Nat.le_total k i with hle' | hle'
         · exact PA hqs i hle' (by omega) (fun m h1 h2 hm=>by
             obtain ⟨y,hy,hyq⟩:=hm
             have:=MY hord hI.closed hy ho hmet h2 (VF hyq hqo)
             have:=(hlk m ⟨y,hy,hyq⟩).1 this
             omega)
         · exact (PA hqs k hle' hk (fun m h1 h2 hm=>by
             obtain ⟨y,hy,hyq⟩:=hm
             have hLm:=(hlk m ⟨y,hy,hyq⟩).2 h2
             by_cases e:m=i
             · subst e;rw [hLi] at hLm;cases hLm
             · have:=JO hord hI.closed ho hy hLi (by omega) (VF hqo hyq)
               rw [this] at hLm;cases hLm)).symm
       rw [hki] at hst
       refine hl i o ho hqo c w a _ _ hst hsees hwant ?_
       intro u w' c' hx' hst' hu
       refine step (i+1) u w' c' (by omega) (fun l hl'=>?_) hx' hst' hu
       by_cases e:l=i
       · subst e;rw [hMi];simp
       · rw [hMn l e,hlk l hl']
         obtain ⟨y,hy,hyq⟩:=hl'
         constructor
         · intro hlt'
           have hLl:=(hlk l ⟨y,hy,hyq⟩).2 hlt'
           rcases Nat.lt_or_ge l i with h1 | h1
           · omega
           · have:=JO hord hI.closed ho hy hLi (by omega) (VF hqo hyq)
             rw [this] at hLl;cases hLl
         · intro hlt'
           have:=MY hord hI.closed hy ho hmet (by omega) (VF hyq hqo)
           exact (hlk l ⟨y,hy,hyq⟩).1 this
     | true =>
       have hlk':∀ l,Nb ops l→((L.setIfInBounds i true).getD l false=true↔l < k):=by
         intro l hl'
         have hne:l≠i:=by
           intro e
           subst e
           obtain ⟨y,hy,hyq⟩:=hl'
           rw [ho] at hy;cases hy
           rw [hqo] at hyq;cases hyq
         rw [hMn l hne]
         exact hlk l hl'
       have hwin:oI ops i k:=by
         refine ⟨fun l hl' hd=>?_,fun l hl' hd=>?_⟩
         · exact (hlk l hl').1 (Q1 hI.closed (A2 ho) hmet hd)
         · rcases Nat.lt_or_ge l k with h1 | h1
           · exfalso
             have hLl:=(hlk l hl').2 h1
             obtain ⟨y,hy,hyq⟩:=hl'
             have:=Q1 hI.closed (A2 hy) (hI.closed l y (A2 hy) hLl) hd
             rw [hLi] at this;cases this
           · exact h1
       unfold K8
       rcases Li hqo with hqo | ⟨e,hoe⟩
       · obtain ⟨_,hcase⟩:=hq i o ho hqo
         rcases hcase with ⟨hw,hv⟩ | ⟨hw,hv⟩
         · rw [← hwant,hw]
           simp only [Bool.false_eq_true,if_false]
           exact step k undef w c hk hlk' (Ext.refl c w) hst (by rw [hv];exact .sc rfl)
         · rw [← hwant,hw]
           simp only [if_true]
           have hfine:=RV hst hsees (hv k hk hwin)
           obtain ⟨u,w',c',hr,hx',hst',hu⟩:=hfine
           unfold Oper.wp
           rcases hr with hr | ⟨hr,rfl⟩
           · rw [hr];exact step k u w' c' hk hlk' hx' hst' hu
           · rw [hr];exact step k undef w' c' hk hlk' hx' hst' hu
       · obtain ⟨_,hcase⟩:=ha i o e ho hoe
         rcases hcase with ⟨hw,hv⟩ | ⟨hw,z,hz,hrk,hv,hgets⟩
         · rw [← hwant,hw]
           simp only [Bool.false_eq_true,if_false]
           exact step k undef w c hk hlk' (Ext.refl c w) hst (by rw [hv];exact .sc rfl)
         · rw [← hwant,hw]
           simp only [if_true]
           have hia:AY o.op=true:=by rw [hoe];rfl
           obtain ⟨u,w',c',hr,hm',hst',hu,hext,hoth⟩:=TN (ρ:=a.eval) hst hoe hz (hholes i o ho hia hLi hrk) (hgets k hk hwin)
           unfold Oper.wp
           rw [hr]
           refine stepM k u w' c' hk hlk' (hext cx0 w0 hx (by omega)) hm' (fun j y hy hya hj hjn=>?_) hst' (by rw [hv];exact hu)
           have hji:j≠i:=fun e=>by subst e;rw [hMi] at hj;cases hj
           rw [hMn j hji] at hj
           have hne:rk ops j≠rk ops i:=fun e=>hji (n4 hy ho hya hia e)
           rw [hoth _ (by omega)]
           exact hholes j y hy hya hj hjn
end
end AI
namespace AI
open Go Go.RowKit
theorem UF {G:AG} {c:Cx} {w:World} {s:AS} {fr:List AV} {a:Act} (hs:St G c w s) (hf:BD c w fr a.tmps.toList) (x:Operand):Rd G c w fr a.eval x:=fun _ hv=>Im hs hf hv
theorem P6 {P:Program} {ops:Array Oper} {o:Oper} {i:Nat} {l:List Nat} {Q:Exit→Act→World→Prop} {a:Act} {w:World} (ho:ops[i]?=some o) (h:K8 P ops o (wpOps P ops Q l) Q a w):wpOps P ops Q (i::l) a w:=by
 unfold wpOps
 rw [ho]
 unfold K8 at h
 simp only
 split
 · rename_i hw;rw [if_pos hw] at h;exact .inl h
 · rename_i hw;rw [if_neg hw] at h;exact h
theorem Mf.P2 {G:AG} {c:Cx} {w:World} {e:AX} {fr':List AV} {s':AS} {e':Exit} {a':Act} {w':World} (h:Mf G c w e fr' s' e' a' w') (he:e≠.normal):e'≠.normal:=by
 obtain ⟨c',_,_,_,h4⟩:=h
 cases e with
 | normal=>exact absurd rfl he
 | exit id=>intro h5;rw [h4.1] at h5;cases h5
 | ret=>intro h5;rw [h4.1] at h5;cases h5
 | pan v=>obtain ⟨u,h5,_⟩:=h4;intro h6;rw [h5] at h6;cases h6
theorem Tc {K:Act→World→Prop} {Q:Exit→Act→World→Prop} {e:Exit} {a:Act} {w:World} (he:e≠.normal) (h:Q e a w):Exit.then K Q e a w:=by
 cases e<;>first | exact absurd rfl he | exact h
structure Vh (P:Program) (G:AG) (X:Lk) (H:Jh):Prop where
 mixed:P.follows .mixedOrders=true
 ext:∀ f args s r s',X f args s r s'→Sound P G (.call f args s r s')
 hook:∀ f args g gargs k,H f args=some (g,gargs,k)→∀ s r s' r',Sound P G (.call g gargs s r s')→k r=some r'→Sound P G (.call f args s r' s')
theorem sound {P:Program} {G:AG} {X:Lk} {H:Jh} (hg:Vh P G X H) {jd:Jd} (h:J P G X H jd):Sound P G jd:=by
 induction h with
 | weak hw _ ih=>intro cx w a Q hs hf hd hQ;obtain ⟨c2,x,h1,h2⟩:=hw cx w _ hs hf;exact ih c2 w a Q h1 h2 hd (fun e a w hp=>hQ e a w (hp.ext x))
 | weakL hw _ ih=>obtain ⟨n,ih⟩:=ih;exact ⟨n,fun cx w a Q hs hf hd hQ=>by obtain ⟨c2,x,h1,h2⟩:=hw cx w _ hs hf;exact ih c2 w a Q h1 h2 hd (fun e a w hp=>hQ e a w (hp.ext x))⟩
 | opWeak _ _ hv ih =>
   intro cx w a K Q hs hev hwa hK
   exact ih cx w a K Q hs hev hwa (fun u w' c' x st hu=>hK u w' c' x st (hv _ _ _ hu))
 | @scope c fr fr2 fr' s s2 s' e _ he hsc ih =>
   intro cx w a Q hs hf hd hQ
   refine ih cx w a Q hs hf hd ?_
   rintro e' a' w' ⟨c',hx,hs',hd',h4⟩
   cases e with
   | normal=>obtain ⟨rfl,h5⟩:=h4;obtain ⟨c2,x2,st2,f2⟩:=hsc cx w c' w' _ hx hs hs' h5;exact hQ _ _ _ ⟨c2,x2,st2,hd',rfl,f2⟩
   | exit id=>obtain ⟨rfl,h5⟩:=h4;obtain ⟨c2,x2,st2,f2⟩:=hsc cx w c' w' _ hx hs hs' h5;exact hQ _ _ _ ⟨c2,x2,st2,hd',rfl,f2⟩
   | ret=>obtain ⟨rfl,h5⟩:=h4;obtain ⟨c2,x2,st2,f2⟩:=hsc cx w c' w' _ hx hs hs' h5;exact hQ _ _ _ ⟨c2,x2,st2,hd',rfl,f2⟩
   | pan v=>exact absurd rfl (he v)
 | skip=>intro cx w a Q hs hf hd hQ;exact wp_skip (hQ _ _ _ ⟨cx,Ext.refl _ _,hs,hd,rfl,hf⟩)
 | exit=>intro cx w a Q hs hf hd hQ;exact wp_exit (hQ _ _ _ ⟨cx,Ext.refl _ _,hs,hd,rfl,hf⟩)
 | ret=>intro cx w a Q hs hf hd hQ;exact wp_ret (hQ _ _ _ ⟨cx,Ext.refl _ _,hs,hd,rfl,hf⟩)
 | seq _ _ ih1 ih2 =>
   intro cx w a Q hs hf hd hQ
   refine wp_seq (ih1 cx w a _ hs hf hd ?_)
   rintro e' a' w' ⟨c',hx,hs',hd',rfl,hf'⟩
   exact ih2 c' w' a' Q hs' hf' hd' (fun e2 a2 w2 h2=>hQ e2 a2 w2 (h2.ext hx))
 | seqX _ he ih1 =>
   intro cx w a Q hs hf hd hQ
   refine wp_seq (ih1 cx w a _ hs hf hd ?_)
   intro e' a' w' hp
   exact Tc (hp.P2 he) (hQ _ _ _ hp)
 | @cond q x y t fr fr' s s' e hq _ ih =>
   intro cx w a Q hs hf hd hQ
   have hr:=Im hs hf hq
   have hev:a.eval q=.bool t:=by
     generalize a.eval q=v at hr
     cases hr;rfl
   exact wp_cond hev (ih cx w a Q hs hf hd hQ)
 | @block id c fr fr' s s' e _ ih =>
   intro cx w a Q hs hf hd hQ
   refine wp_block (ih cx w a _ hs hf hd ?_)
   rintro e' a' w' ⟨c',hx,hs',hd',h4⟩
   cases e with
   | normal=>obtain ⟨rfl,h5⟩:=h4;exact hQ _ _ _ ⟨c',hx,hs',hd',rfl,h5⟩
   | exit id' =>
     obtain ⟨rfl,h5⟩:=h4
     show if id'=id then Q .normal a' w' else Q (.exit id') a' w'
     by_cases hid:id'=id
     · rw [if_pos hid]
       refine hQ _ _ _ ⟨c',hx,hs',hd',?_⟩
       simp only [DU,hid,if_true]
       exact ⟨trivial,h5⟩
     · rw [if_neg hid]
       refine hQ _ _ _ ⟨c',hx,hs',hd',?_⟩
       simp only [DU,hid,if_false]
       exact ⟨trivial,h5⟩
   | ret=>obtain ⟨rfl,h5⟩:=h4;exact hQ _ _ _ ⟨c',hx,hs',hd',rfl,h5⟩
   | pan v=>obtain ⟨u,rfl,h5⟩:=h4;exact hQ _ _ _ ⟨c',hx,hs',hd',u,rfl,h5⟩
 | loop _ ih =>
   intro cx w a Q hs hf hd hQ
   obtain ⟨n,hn⟩:=ih
   exact wp_loop_rounds n (hn cx w a Q hs hf hd hQ)
 | loopN _ _ ih1 ih2 =>
   obtain ⟨n,hn⟩:=ih2
   refine ⟨n+1,?_⟩
   intro cx w a Q hs hf hd hQ
   rw [rounds_succ]
   refine ih1 cx w a _ hs hf hd ?_
   rintro e' a' w' ⟨c',hx,hs',hd',rfl,hf'⟩
   exact hn c' w' a' Q hs' hf' hd' (fun e2 a2 w2 h2=>hQ e2 a2 w2 (h2.ext hx))
 | loopX _ he ih1 =>
   refine ⟨1,?_⟩
   intro cx w a Q hs hf hd hQ
   rw [rounds_succ]
   refine ih1 cx w a _ hs hf hd ?_
   intro e' a' w' hp
   exact Tc (hp.P2 he) (hQ _ _ _ hp)
 | region _ ih =>
   intro cx w a Q hs hf hd hQ
   exact wp_region (ih cx w a Q hs hf hd hQ)
 | opsNil=>intro cx w a Q hs hf hd hQ;exact hQ _ _ _ ⟨cx,Ext.refl _ _,hs,hd,rfl,hf⟩
 | @opsCons ops i l o v fr fr' s s1 s' e ho _ _ ih1 ih2 =>
   intro cx w a Q hs hf hd hQ
   refine P6 ho (ih1 cx w a _ _ hs (fun x _=>UF hs hf x) (Lz (c:=cx) (w:=w) (fun _ _ _ _ _=>⟨fr,hf,rfl⟩)) ?_)
   intro u w' c' hx hs' hu
   exact ih2 c' w' (a.put o.dst u) Q hs' (Vg (hf.mono hx) hu) (by cases o.dst<;>exact hd) (fun e2 a2 w2 h2=>hQ e2 a2 w2 (h2.ext hx))
 | @opsPan ops i l o v fr s s1 ho _ ih1 =>
   intro cx w a Q hs hf hd hQ
   refine P6 ho (ih1 cx w a _ _ hs (fun x _=>UF hs hf x) (Lz (c:=cx) (w:=w) (fun _ _ _ _ _=>⟨fr,hf,rfl⟩)) ?_)
   intro u w' c' hx hs' hu
   exact hQ _ _ _ ⟨c',hx,hs',hd,u,rfl,hu⟩
 | @opVal ops o fr s s' v hw h =>
   intro cx w a K Q hs hev hwa hK
   unfold K8
   rw [← hwa,hw]
   simp only [if_true]
   obtain ⟨u,w',c',hr,hx,hs',hu⟩:=RV hs hev h
   unfold Oper.wp
   rcases hr with hr | ⟨hr,rfl⟩
   · rw [hr];exact hK u w' c' hx hs' hu
   · rw [hr];exact hK undef w' c' hx hs' hu
 | @opSkip ops o fr s hw =>
   intro cx w a K Q hs hev hwa hK
   unfold K8
   rw [← hwa,hw]
   simp only [Bool.false_eq_true,if_false]
   exact hK undef w cx (Ext.refl _ _) hs (.sc rfl)
 | @opCall ops o fr s s' f args r hw h _ ih =>
   intro cx w a K Q hs hev hwa hK
   unfold K8
   rw [← hwa,hw]
   simp only [if_true]
   obtain ⟨vs,hr,hargs⟩:=RV hs hev h
   unfold Oper.wp
   rw [hr]
   refine (ih cx w vs hs hargs).mono ?_
   rintro e w' ⟨c',hx,hs',h4⟩
   cases r with
   | ret v=>obtain ⟨u,rfl,hu⟩:=h4;exact hK u w' c' hx hs' hu
   | pan v=>obtain ⟨u,rfl,hu⟩:=h4;exact hK u w' c' hx hs' hu
 | @opPan ops o fr s v hw h =>
   intro cx w a K Q hs hev hwa hK
   unfold K8
   rw [← hwa,hw]
   simp only [if_true]
   obtain ⟨u,hr,hu⟩:=RV hs hev h
   unfold Oper.wp
   rw [hr]
   exact hK u w cx (Ext.refl _ _) hs hu
 | @draw id ops f0 s0 rs vals sts h0 hord hl hq ha ihl =>
   intro cx w a Q hs hf hd hQ
   refine wp_region_any hg.mixed ?_
   obtain ⟨x,st⟩:=hs.same (YP w)
   obtain ⟨c2,x2,st2,hphi⟩:=st.holds rs
   rw [← h0] at st2
   rw [hs.len] at ha
   refine YC (nh:=rs.length) hord ihl hq cx w ha Q hQ ops.size _ a _ ⟨by simp,?_,⟨c2,0,Nat.zero_le _,?_,x.trans x2,st2,?_,?_⟩,hd⟩ ?_
   · intro i o ho hL
     exfalso
     simp only [Array.getD_eq_getD_getElem?,Array.getElem?_replicate] at hL
     split at hL<;>simp at hL
   · intro l _
     simp only [Array.getD_eq_getD_getElem?,Array.getElem?_replicate]
     split<;>simp
   · have:FX f0 (Bu ops) vals (fun j=>(Array.replicate ops.size false).getD j false) ops.size=f0:=by
       have key:∀ n,FX f0 (Bu ops) vals (fun j=>(Array.replicate ops.size false).getD j false) n=f0:=by
         intro n
         induction n with
         | zero=>rfl
         | succ n ih =>
           simp only [FX,ih]
           rw [if_neg]
           simp only [Array.getD_eq_getD_getElem?,Array.getElem?_replicate]
           split<;>simp
       exact key _
     rw [this]
     exact hf.mono (x.trans x2)
   · intro j y _ _ _ hj
     rw [hphi,List.getElem?_append_right (by omega)]
     simp [List.getElem?_replicate]
     omega
   · have key:∀ n,N8 (fun j=>(Array.replicate ops.size false).getD j false) n=n:=by
       intro n
       induction n with
       | zero=>rfl
       | succ n ih =>
         simp only [N8,ih]
         have:(Array.replicate ops.size false).getD n false=false:=by
           simp only [Array.getD_eq_getD_getElem?,Array.getElem?_replicate]
           split<;>simp
         simp only [this];simp
     exact key _
 | @body f fn c args fr' s s' s2 e v hf hb _ he hr hk ih =>
   intro cx w vs hs hargs
   have hl:=hargs.len
   refine calls_of_wp hf hb (ih cx w _ _ hs ?_ rfl ?_)
   · simp only [Array.toList_append,Array.toList_replicate]
     rw [List.size_toArray,hl]
     exact hargs.append (BD.replicate (.sc rfl) _)
   · rintro e' a' w' ⟨c',hx,hs',hd',h4⟩
     have hs2:St G c' w' s2:=by
       rcases hk with rfl | rfl
       · exact hs'.cut _
       · exact hs'
     rcases he with rfl | rfl
     · obtain ⟨rfl,h5⟩:=h4
       obtain ⟨u,h6,h7⟩:=Np hs' h5 hr
       exact ⟨hd',u,h6,c',hx,hs2,u,rfl,h7⟩
     · obtain ⟨rfl,h5⟩:=h4
       obtain ⟨u,h6,h7⟩:=Np hs' h5 hr
       exact ⟨hd',u,h6,c',hx,hs2,u,rfl,h7⟩
 | @bodyP f fn c args fr' s s' v hf hb _ ih =>
   intro cx w vs hs hargs
   have hl:=hargs.len
   refine calls_of_wp hf hb (ih cx w _ _ hs ?_ rfl ?_)
   · simp only [Array.toList_append,Array.toList_replicate]
     rw [List.size_toArray,hl]
     exact hargs.append (BD.replicate (.sc rfl) _)
   · rintro e' a' w' ⟨c',hx,hs',hd',u,rfl,h5⟩
     exact ⟨hd',c',hx,hs'.cut _,u,rfl,h5⟩
 | ext h=>exact hg.ext _ _ _ _ _ h
 | hook hh _ hk ih=>exact hg.hook _ _ _ _ _ hh _ _ _ _ ih hk
end AI
namespace AI
open Go Go.RowKit
def eJ:Value→Value→Bool
 | .int k a,.int k' b=>k == k'&&a == b
 | .bool a,.bool b=>a == b
 | .string a,.string b=>a.data.toList == b.data.toList
 | .nilIface,.nilIface=>true
 | .nilFunc,.nilFunc=>true
 | .pointer none,.pointer none=>true
 | .map none,.map none=>true
 | .tuple a,.tuple b=>a.size == 0&&b.size == 0
 | _,_=>false
theorem Vl {a b:Value} (h:eJ a b=true):a=b:=by
 unfold eJ at h
 split at h
 · simp at h;rw [h.1,h.2]
 · simp at h;rw [h]
 · simp only [beq_iff_eq] at h
   rename_i x y
   have:x=y:=ByteArray.ext (Array.ext' h)
   rw [this]
 · rfl
 · rfl
 · rfl
 · rfl
 · rename_i x y
   simp at h
   rw [h.1,h.2]
 · cases h
mutual
def Lw:AV→AV→Bool
 | .sc a,.sc b=>eJ a b
 | .agg a,.agg b=>Pp a b
 | .Br a,.Br b=>Pp a b
 | .sl o n a,.sl p m b=>decide (o=p)&&n == m&&Pp a b
 | .msl a b c,.msl x y z=>a == x&&b == y&&c == z
 | .el a,.el b=>Pp a b
 | .ptr a b,.ptr x y=>a == x&&b == y
 | .fn f a b,.fn g x y=>decide (f=g)&&Pp a x&&Pp b y
 | .ifc t a,.ifc u b=>t == u&&Lw a b
 | .mp a,.mp b=>a == b
 | _,_=>false
def Pp:List AV→List AV→Bool
 | [],[]=>true
 | a::as,b::bs=>Lw a b&&Pp as bs
 | _,_=>false
end
mutual
theorem RI:∀ {a b:AV},Lw a b=true→a=b
 | .sc a,b,h=>by cases b<;>simp [Lw] at h;rw [Vl h]
 | .agg a,b,h=>by cases b<;>simp [Lw] at h;rw [IR h]
 | .Br a,b,h=>by cases b<;>simp [Lw] at h;rw [IR h]
 | .sl o n a,b,h=>by cases b<;>simp [Lw] at h;rw [h.1.1,h.1.2,IR h.2]
 | .msl _ _ _,b,h=>by cases b<;>simp [Lw] at h;rw [h.1.1,h.1.2,h.2]
 | .el a,b,h=>by cases b<;>simp [Lw] at h;rw [IR h]
 | .ptr _ _,b,h=>by cases b<;>simp [Lw] at h;rw [h.1,h.2]
 | .fn f a c,b,h=>by cases b<;>simp [Lw] at h;rw [h.1.1,IR h.1.2,IR h.2]
 | .ifc t a,b,h=>by cases b<;>simp [Lw] at h;rw [h.1,RI h.2]
 | .mp _,b,h=>by cases b<;>simp [Lw] at h;rw [h]
 | .any,b,h=>by cases b<;>simp [Lw] at h
theorem IR:∀ {a b:List AV},Pp a b=true→a=b
 | [],b,h=>by cases b<;>simp [Pp] at h;rfl
 | a::as,b,h=>by cases b<;>simp [Pp] at h;rw [RI h.1,IR h.2]
end
def reads:Op→Bool
 | .load .. | .lookup ..=>true
 | .call cl=>(match cl.callee with
   | .builtin .len=>true
   | _=>false)
 | _=>false
theorem KF {P:Program} {G:AG} {fr:List AV} {s:AS} {o:Oper} {r:AR} (hq:quiet o.op=true) (h:JA P G fr s o=some r):∃ v,r=.val v s:=by
 unfold JA at h
 split at h<;>rename_i ho<;>(try (rw [ho] at hq;simp [quiet] at hq;done))
 all_goals first
   | (obtain ⟨v,_,rfl⟩:=map_some h;exact ⟨_,rfl⟩)
   | (split at h
      all_goals first
        | (obtain ⟨v,_,rfl⟩:=map_some h;exact ⟨_,rfl⟩)
        | (cases h;done)
        | (cases h;exact ⟨_,rfl⟩)
        | (split at h
           all_goals first
             | (cases h;done)
             | (cases h;exact ⟨_,rfl⟩)))
   | (obtain ⟨_,_,h2⟩:=bind_some h;obtain ⟨v,_,rfl⟩:=map_some h2;exact ⟨_,rfl⟩)
   | (rw [ho] at hq
      unfold K2 at h
      split at h
      all_goals first
        | (obtain ⟨_,_,h2⟩:=bind_some h;obtain ⟨v,_,rfl⟩:=map_some h2;exact ⟨_,rfl⟩)
        | (rename_i hcl;simp [quiet,hcl] at hq;done)
        | (split at h
           all_goals first
             | (obtain ⟨v,_,rfl⟩:=map_some h;exact ⟨_,rfl⟩)
             | (cases h;done))
        | (cases h;done))
   | (cases h;done)
theorem Jr {P:Program} {G:AG} {fr:List AV} {s:AS} {o:Oper} {v:AV} {s':AS} (hq:quiet o.op=true) (hr:reads o.op=false) (h:JA P G fr s o=some (.val v s')) (s2:AS):JA P G fr s2 o=some (.val v s2):=by
 have e:=KF hq h
 obtain ⟨v',e⟩:=e
 injection e with e1 e2
 subst e1 e2
 obtain ⟨dst,op,ty,pos,after,guard⟩:=o
 cases op<;>simp only [quiet,reads,Bool.false_eq_true] at hq hr<;>simp only [JA] at h ⊢
 all_goals first
   | (obtain ⟨v',h1,h2⟩:=map_some h;injection h2 with h2;subst h2;rw [h1];rfl)
   | (obtain ⟨q,h0,h2⟩:=bind_some h;obtain ⟨v',h1,h3⟩:=map_some h2;injection h3 with h3;subst h3;rw [h0,Option.bind_some,h1];rfl)
   | (split at h
      all_goals first
        | (obtain ⟨v',h1,h2⟩:=map_some h;injection h2 with h2;subst h2;simp only [*,Option.map_some];done)
        | (cases h;done)
        | (cases h;simp only [*];done)
        | (split at h
           all_goals first
             | (cases h;done)
             | (cases h;simp [*];done)))
   | (cases hr;done)
   | (rename_i cl
      unfold K2 at h ⊢
      split at h
      all_goals first
        | (rename_i hcl;simp [hcl] at hr;done)
        | (rename_i hcl;simp [hcl] at hq;done)
        | (simp only;obtain ⟨q,h0,h2⟩:=bind_some h;obtain ⟨v',h1,h3⟩:=map_some h2;injection h3 with h3;subst h3;rw [h0,Option.bind_some,h1];rfl)
        | (cases h;done))
end AI
namespace AI
open Go Go.RowKit
inductive Tk where
 | code (c:Code) (fr:List AV) (s:AS)
 | loop (c:Code) (fr:List AV) (s:AS)
 | ops (ops:Array Oper) (l:List Oper) (fr:List AV) (s:AS)
 | draw (ops:Array Oper) (l:List Oper) (fr:List AV) (s:AS) (q:Nat)
 | op (ops:Array Oper) (o:Oper) (fr:List AV) (s:AS)
 | call (f:FuncId) (args:List AV) (s:AS)
inductive Rs where
 | code (e:AX) (fr:List AV) (s:AS)
 | call (r:CR) (s:AS)
 | tr (l:List (List AV×AS×AV)) (fr:List AV) (s:AS)
abbrev PE:=FuncId→List AV→AS→Option (CR×AS)
def Fl:List Oper→Nat→List Nat
 | [],_=>[]
 | o::os,i=>if calm o.op then Fl os (i+1) else i::Fl os (i+1)
def WV (ms:List Nat) (ls:List Nat) (i k:Nat):Bool:=ls.all fun l=>(!MF ms i l||decide (l < k))&&(!MF ms l i||decide (k≤l))
def L4 (P:Program) (G:AG) (ms ls:List Nat) (i:Nat) (o:Oper) (fr:List AV) (v:AV):List AS→Nat→Bool
 | [],_=>true
 | s::ss,k=>(!WV ms ls i k||(match JA P G fr s o with
     | some (.val u _)=>Lw u v
     | _=>false))&&L4 P G ms ls i o fr v ss (k+1)
def NY (P:Program) (G:AG) (ops:Array Oper) (ms ls:List Nat) (sts:List AS):List Oper→List (List AV×AS×AV)→Nat→Bool
 | o::os,t::ts,i=>(!(quiet o.op&&reads o.op)||!Bd ops t.1 o||L4 P G ms ls i o t.1 t.2.2 sts 0)&&NY P G ops ms ls sts os ts (i+1)
 | _,_,_=>true
def OI (ms ls:List Nat) (i id:Nat) (cs:List AV):List AS→Nat→Bool
 | [],_=>true
 | s::ss,k=>(!WV ms ls i k||(match s.get id with
     | some (.cells ds)=>Pp ds cs
     | _=>false))&&OI ms ls i id cs ss (k+1)
def Kq (P:Program) (ops:Array Oper) (ms ls:List Nat) (sts:List AS):List Oper→List (List AV×AS×AV)→Nat→Nat→Bool
 | o::os,t::ts,i,q=>(match o.op with
   | .alloc e=>(!Bd ops t.1 o||(match E9 P e with
     | some z=>OI ms ls i q (cellsOf z) sts 0
     | none=>false))&&Kq P ops ms ls sts os ts (i+1) (q+1)
   | _=>Kq P ops ms ls sts os ts (i+1) q)
 | _,_,_,_=>true
def ZQ (P:Program):List Oper→Option (List AF)
 | []=>some []
 | o::l=>(match o.op with
   | .alloc e=>(match E9 P e,ZQ P l with
     | some z,some r=>some (.cells (cellsOf z)::r)
     | _,_=>none)
   | _=>ZQ P l)
def RD (P:Program) (G:AG) (ops:Array Oper) (tr:List (List AV×AS×AV)) (sf:AS):Bool :=
 match Fl ops.toList 0 with
 | []=>true
 | ls=>NY P G ops (FE ops.toList []) ls (tr.map (·.2.1)++[sf]) ops.toList tr 0
def KN (P:Program) (ops:Array Oper) (tr:List (List AV×AS×AV)) (sf:AS) (q:Nat):List AF→Bool
 | []=>true
 | _=>Kq P ops (FE ops.toList []) (Fl ops.toList 0) (tr.map (·.2.1)++[sf]) ops.toList tr 0 q
def Px (P:Program) (G:AG) (ops:Array Oper) (tr:List (List AV×AS×AV)) (sf:AS) (q:Nat) (r:List AF):Bool :=
 match RD P G ops tr sf with
 | true=>KN P ops tr sf q r
 | false=>false
def qV:AV→Bool
 | .ptr _ _ | .msl _ _ _ | .mp _ | .fn _ _ _=>true
 | _=>false
def mO:List AV→Bool
 | []=>false
 | a::l=>match qV a with
   | true=>true
   | false=>mO l
def wX:AV→Bool
 | .agg l=>mO l
 | .Br l=>mO l
 | a=>qV a
def fin (v:AV) (s:AS) (n:Nat):AS:=match wX v with
 | true=>s
 | false=>s.cut n
theorem Y8 (v:AV) (s:AS) (n:Nat):fin v s n=s.cut n∨fin v s n=s:=by
 unfold fin
 cases wX v
 · exact .inl rfl
 · exact .inr rfl
abbrev XP (X:PE):Lk:=fun f args s r s'=>X f args s=some (r,s')
def Gs (ops:Array Oper) (fr:List AV) (o:Oper) (q:Nat):AV:=match Bd ops fr o with
 | true=>.ptr q 0
 | false=>.sc undef
inductive I5 (P:Program) (G:AG) (X:Lk) (H:Jh) (ops:Array Oper):Nat→List Oper→List AV→AS→List (List AV×AS×AV)→List AV→AS→Prop where
 | nil {q:Nat} {fr:List AV} {s:AS}:I5 P G X H ops q [] fr s [] fr s
 | cons {q:Nat} {o:Oper} {l:List Oper} {fr fr':List AV} {s s1 s':AS} {v:AV} {t:List (List AV×AS×AV)} (ha:AY o.op=false) (h:J P G X H (.op ops o fr s (.ret v) s1)) (k:I5 P G X H ops q l (Ho fr o.dst v) s1 t fr' s'):I5 P G X H ops q (o::l) fr s ((fr,s,v)::t) fr' s'
 | alloc {q:Nat} {o:Oper} {l:List Oper} {fr fr':List AV} {s s':AS} {t:List (List AV×AS×AV)} (ha:AY o.op=true) (k:I5 P G X H ops (q+1) l (Ho fr o.dst (Gs ops fr o q)) s t fr' s'):I5 P G X H ops q (o::l) fr s ((fr,s,Gs ops fr o q)::t) fr' s'
def Rt (P:Program) (G:AG) (X:Lk) (H:Jh):Tk→Rs→Prop
 | .code c fr s,.code e fr' s'=>J P G X H (.code c fr s e fr' s')
 | .loop c fr s,.code e fr' s'=>J P G X H (.loop c fr s e fr' s')
 | .ops ops l fr s,.code e fr' s'=>∀ k,l=ops.toList.drop k→J P G X H (.ops ops (List.range' k l.length) fr s e fr' s')
 | .draw ops l fr s q,.tr t fr' s'=>I5 P G X H ops q l fr s t fr' s'
 | .op ops o fr s,.call r s'=>J P G X H (.op ops o fr s r s')
 | .call f args s,.call r s'=>J P G X H (.call f args s r s')
 | _,_=>False
section
variable {P:Program} {G:AG} {X:Lk} {H:Jh} {ops:Array Oper}
theorem I5.len {q:Nat} {l:List Oper} {fr fr':List AV} {s s':AS} {t:List (List AV×AS×AV)} (h:I5 P G X H ops q l fr s t fr' s'):t.length=l.length:=by
 induction h with
 | nil=>rfl
 | cons _ _ _ ih=>simp [ih]
 | alloc _ _ ih=>simp [ih]
def Cg (t:List (List AV×AS×AV)) (sf:AS) (i:Nat):AS:=match t[i]? with
 | some x=>x.2.1
 | none=>sf
def En (t:List (List AV×AS×AV)) (i:Nat):AV:=match t[i]? with
 | some x=>x.2.2
 | none=>.sc undef
theorem I5.at {q:Nat} {l:List Oper} {fr fr':List AV} {s s':AS} {t:List (List AV×AS×AV)} (h:I5 P G X H ops q l fr s t fr' s'):Cg t s' 0=s∧∀ i o,l[i]?=some o→∃ fi,t[i]?=some (fi,Cg t s' i,En t i) ∧
   ((AY o.op=false∧J P G X H (.op ops o fi (Cg t s' i) (.ret (En t i)) (Cg t s' (i+1))))∨(AY o.op=true∧Cg t s' (i+1)=Cg t s' i∧En t i=Gs ops fi o (q+Tm l i))):=by
 induction h with
 | nil=>exact ⟨rfl,fun i o ho=>by simp at ho⟩
 | @cons q o l fr fr' s s1 s' v t ha h k ih =>
   refine ⟨rfl,fun i o' ho=>?_⟩
   cases i with
   | zero =>
     simp at ho;subst ho
     refine ⟨fr,rfl,.inl ⟨ha,?_⟩⟩
     have:Cg ((fr,s,v)::t) s' 1=s1:=by
       have:=ih.1
       unfold Cg at this ⊢
       simpa using this
     rw [this]
     exact h
   | succ i =>
     obtain ⟨fi,h1,h2⟩:=ih.2 i o' (by simpa using ho)
     refine ⟨fi,?_,?_⟩
     · have:((fr,s,v)::t)[i+1]?=t[i]?:=by simp
       rw [this,h1]
       simp [Cg,En]
     · simp only [Tm,ha,Nat.zero_add]
       simpa [Cg,En] using h2
 | @alloc q o l fr fr' s s' t ha k ih =>
   refine ⟨rfl,fun i o' ho=>?_⟩
   cases i with
   | zero =>
     simp at ho;subst ho
     refine ⟨fr,rfl,.inr ⟨ha,?_,?_⟩⟩
     · have:=ih.1
       unfold Cg at this ⊢
       simpa using this
     · simp [En,Tm]
   | succ i =>
     obtain ⟨fi,h1,h2⟩:=ih.2 i o' (by simpa using ho)
     refine ⟨fi,?_,?_⟩
     · have:((fr,s,Gs ops fr o q)::t)[i+1]?=t[i]?:=by simp
       rw [this,h1]
       simp [Cg,En]
     · simp only [Tm,ha]
       rw [← Nat.add_assoc]
       simpa [Cg,En] using h2
theorem I5.Pj {q:Nat} {l:List Oper} {fr fr':List AV} {s s':AS} {t:List (List AV×AS×AV)} (h:I5 P G X H ops q l fr s t fr' s') (dst:Nat→Option Tmp) (vals:Nat→AV) (f0:List AV) (k:Nat) (hfr:fr=FX f0 dst vals (fun _=>true) k) (hd:∀ i o,l[i]?=some o→dst (k+i)=o.dst) (hv:∀ i,vals (k+i)=En t i∨l.length≤i) :
   fr'=FX f0 dst vals (fun _=>true) (k+l.length)∧∀ i x,t[i]?=some x→x.1=FX f0 dst vals (fun _=>true) (k+i):=by
 have key:∀ {q:Nat} {o:Oper} {l:List Oper} {fr fr':List AV} {s:AS} {v:AV} {t:List (List AV×AS×AV)}
     (_:∀ (k:Nat),Ho fr o.dst v=FX f0 dst vals (fun _=>true) k→(∀ i o,l[i]?=some o→dst (k+i)=o.dst)→(∀ i,vals (k+i)=En t i∨l.length≤i)→fr'=FX f0 dst vals (fun _=>true) (k+l.length)∧∀ i x,t[i]?=some x→x.1=FX f0 dst vals (fun _=>true) (k+i))
     (k:Nat),fr=FX f0 dst vals (fun _=>true) k→(∀ i o',(o::l)[i]?=some o'→dst (k+i)=o'.dst)→(∀ i,vals (k+i)=En ((fr,s,v)::t) i∨(o::l).length≤i) →
     fr'=FX f0 dst vals (fun _=>true) (k+(o::l).length)∧∀ i x,((fr,s,v)::t)[i]?=some x→x.1=FX f0 dst vals (fun _=>true) (k+i):=by
   intro q o l fr fr' s v t ih k hfr hd hv
   have hd0:=hd 0 o rfl
   have hv0:vals k=v:=by
     rcases hv 0 with h0 | h0
     · simpa [En] using h0
     · simp at h0
   have:=ih (k+1) (by simp only [FX,if_true];rw [hfr,← hd0,hv0];rfl) (fun i o' ho'=>by have:=hd (i+1) o' (by simpa using ho');rwa [show k+1+i=k+(i+1) from by omega]) (fun i=>by
     rcases hv (i+1) with h1 | h1
     · left;rw [show k+1+i=k+(i+1) from by omega,h1];simp [En]
     · right;simp at h1;omega)
   refine ⟨by rw [this.1];congr 1;simp;omega,fun i x hx=>?_⟩
   cases i with
   | zero=>simp at hx;subst hx;exact hfr
   | succ i =>
     have h2:=this.2 i x (by simpa using hx)
     rw [h2];congr 1;omega
 induction h generalizing k with
 | nil=>exact ⟨hfr,fun i x hx=>by simp at hx⟩
 | @cons q o l fr fr' s s1 s' v t ha h _ ih=>exact key (q:=q) (fun k h1 h2 h3=>ih k h1 h2 h3) k hfr hd hv
 | @alloc q o l fr fr' s s' t ha _ ih=>exact key (q:=q) (fun k h1 h2 h3=>ih k h1 h2 h3) k hfr hd hv
theorem SK {os:List Oper} {i l:Nat} {o:Oper} (ho:os[l]?=some o) (hq:calm o.op=false):i+l∈Fl os i:=by
 induction os generalizing i l with
 | nil=>simp at ho
 | cons x os ih =>
   simp only [Fl]
   cases l with
   | zero =>
     simp at ho;subst ho
     rw [hq];simp
   | succ l =>
     have:=ih (i:=i+1) (by simpa using ho)
     rw [show i+1+l=i+(l+1) from by omega] at this
     split
     · exact this
     · exact List.mem_cons_of_mem _ this
theorem Q4 {i k:Nat} {ls:List Nat} (hls:∀ l,l∈ls→Nb ops l) (h:oI ops i k):WV (FE ops.toList []) ls i k=true:=by
 unfold WV
 rw [List.all_eq_true]
 intro l hl
 have h1:=h.1 l (hls l hl)
 have h2:=h.2 l (hls l hl)
 cases hd1:MF (FE ops.toList []) i l<;>cases hd2:MF (FE ops.toList []) l i<;>simp_all
theorem Mc {os:List Oper} {i l:Nat} (h:l∈Fl os i):∃ j o,l=i+j∧os[j]?=some o∧calm o.op=false:=by
 induction os generalizing i with
 | nil=>simp [Fl] at h
 | cons x os ih =>
   simp only [Fl] at h
   split at h
   · obtain ⟨j,o,h1,h2,h3⟩:=ih h
     exact ⟨j+1,o,by omega,by simpa using h2,h3⟩
   · rename_i hq
     rcases List.mem_cons.1 h with h | h
     · exact ⟨0,x,by omega,rfl,by simpa using hq⟩
     · obtain ⟨j,o,h1,h2,h3⟩:=ih h
       exact ⟨j+1,o,by omega,by simpa using h2,h3⟩
theorem Tx {ms ls:List Nat} {i:Nat} {o:Oper} {fr:List AV} {v:AV} {ss:List AS} {k0:Nat} (h:L4 P G ms ls i o fr v ss k0=true) {k:Nat} {s:AS} (hs:ss[k]?=some s) (hw:WV ms ls i (k0+k)=true):∃ s',JA P G fr s o=some (.val v s'):=by
 induction ss generalizing k0 k with
 | nil=>simp at hs
 | cons x ss ih =>
   simp only [L4,Bool.and_eq_true] at h
   cases k with
   | zero =>
     simp at hs;subst hs
     rw [Nat.add_zero] at hw
     have h1:=h.1
     rw [hw] at h1
     simp only [Bool.not_true,Bool.false_or] at h1
     split at h1
     · rename_i u s' hu
       exact ⟨s',by rw [hu,RI h1]⟩
     · cases h1
   | succ k=>exact ih h.2 (by simpa using hs) (by rwa [show k0+1+k=k0+(k+1) from by omega])
theorem Ue {ms ls:List Nat} {sts:List AS} {os:List Oper} {ts:List (List AV×AS×AV)} {i0:Nat} (h:NY P G ops ms ls sts os ts i0=true) {i:Nat} {o:Oper} {x:List AV×AS×AV} (ho:os[i]?=some o) (hx:ts[i]?=some x):(quiet o.op&&reads o.op)=true→Bd ops x.1 o=true→L4 P G ms ls (i0+i) o x.1 x.2.2 sts 0=true:=by
 induction os generalizing ts i0 i with
 | nil=>simp at ho
 | cons y os ih =>
   cases ts with
   | nil=>simp at hx
   | cons t ts =>
     simp only [NY,Bool.and_eq_true] at h
     cases i with
     | zero =>
       simp at ho hx;subst ho hx
       intro h1 h2
       have:=h.1
       rw [h1,h2] at this
       simpa using this
     | succ i =>
       have:=ih h.2 (by simpa using ho) (by simpa using hx)
       rwa [show i0+1+i=i0+(i+1) from by omega] at this
theorem EE {o:Oper} {fr:List AV} {s s':AS} {v:AV} (hq:quiet o.op=true) (h:J P G X H (.op ops o fr s (.ret v) s')):s'=s∧((Bd ops fr o=false∧v=.sc undef)∨(Bd ops fr o=true∧JA P G fr s o=some (.val v s))):=by
 cases h with
 | opVal hw h =>
   obtain ⟨v',e⟩:=KF hq h
   injection e with e1 e2
   subst e2
   exact ⟨rfl,.inr ⟨hw,h⟩⟩
 | opSkip hw=>exact ⟨rfl,.inl ⟨hw,rfl⟩⟩
 | opCall hw h hc =>
   obtain ⟨v',e⟩:=KF hq h
   cases e
 | opWeak hq2=>rw [hq] at hq2;cases hq2
theorem QW {ms ls:List Nat} {i id:Nat} {cs:List AV} {ss:List AS} {k0:Nat} (h:OI ms ls i id cs ss k0=true) {k:Nat} {s:AS} (hs:ss[k]?=some s) (hw:WV ms ls i (k0+k)=true):s.get id=some (.cells cs):=by
 induction ss generalizing k0 k with
 | nil=>simp at hs
 | cons x ss ih =>
   simp only [OI,Bool.and_eq_true] at h
   cases k with
   | zero =>
     simp at hs;subst hs
     rw [Nat.add_zero] at hw
     have h1:=h.1
     rw [hw] at h1
     simp only [Bool.not_true,Bool.false_or] at h1
     split at h1
     · rename_i ds hu
       rw [hu,IR h1]
     · cases h1
   | succ k=>exact ih h.2 (by simpa using hs) (by rwa [show k0+1+k=k0+(k+1) from by omega])
theorem QU {ms ls:List Nat} {sts:List AS} {os:List Oper} {ts:List (List AV×AS×AV)} {i0 q:Nat} (h:Kq P ops ms ls sts os ts i0 q=true) {i:Nat} {o:Oper} {e:TypeId} {x:List AV×AS×AV} (ho:os[i]?=some o) (hx:ts[i]?=some x) (he:o.op=.alloc e) (hw:Bd ops x.1 o=true):∃ z,E9 P e=some z∧OI ms ls (i0+i) (q+Tm os i) (cellsOf z) sts 0=true:=by
 induction os generalizing ts i0 i q with
 | nil=>simp at ho
 | cons y os ih =>
   cases ts with
   | nil=>simp at hx
   | cons t ts =>
     cases i with
     | zero =>
       simp at ho hx;subst ho hx
       simp only [Kq,he,hw,Bool.not_true,Bool.false_or,Bool.and_eq_true] at h
       have h1:=h.1
       split at h1
       · rename_i z hz;exact ⟨z,hz,h1⟩
       · cases h1
     | succ i =>
       simp only [Kq] at h
       split at h
       · rename_i e' he'
         rw [Bool.and_eq_true] at h
         have:=ih h.2 (by simpa using ho) (by simpa using hx)
         simp only [Tm,he',AY]
         rwa [show i0+1+i=i0+(i+1) from by omega,Nat.add_assoc q] at this
       · rename_i hne
         have:=ih h (by simpa using ho) (by simpa using hx)
         have hna:AY y.op=false:=by
           cases hya:AY y.op with
           | false=>rfl
           | true=>obtain ⟨e',he'⟩:=ET hya;exact absurd he' (hne e')
         simp only [Tm,hna,Nat.zero_add]
         rwa [show i0+1+i=i0+(i+1) from by omega] at this
theorem Vm {l:List Oper} {r:List AF} (h:ZQ P l=some r):r.length=Tm l l.length:=by
 induction l generalizing r with
 | nil=>simp [ZQ] at h;subst h;rfl
 | cons o l ih =>
   simp only [ZQ] at h
   split at h
   · rename_i e he
     split at h
     · rename_i z r' hz hr
       cases h
       simp only [List.length_cons,Tm,he,AY,ih hr];omega
     · cases h
   · rename_i hne
     have hna:AY o.op=false:=by
       cases hya:AY o.op with
       | false=>rfl
       | true=>obtain ⟨e',he'⟩:=ET hya;exact absurd he' (hne e')
     simp only [List.length_cons,Tm,hna,ih h];omega
theorem Hp {o:Oper} {e:TypeId} (h:o.op=.alloc e):quiet o.op=false:=by rw [h];rfl
theorem eW {id:Nat} {fr fr':List AV} {s s':AS} {r:List AF} {t:List (List AV×AS×AV)} (hord:Hv ops=true) (hr:ZQ P ops.toList=some r) (h:I5 P G X H ops s.nx ops.toList fr (s.hold r) t fr' s') (hst:Px P G ops t s' s.nx r=true):J P G X H (.code (.region id ops true) fr s .normal fr' s'):=by
 have hlen:t.length=ops.size:=by rw [h.len,Array.length_toList]
 have hst0:RD P G ops t s'=true:=by
   unfold Px at hst
   split at hst
   · assumption
   · cases hst
 have hst1:KN P ops t s' s.nx r=true:=by
   unfold Px at hst
   split at hst
   · exact hst
   · cases hst
 obtain ⟨h0,hat⟩:=h.at
 have hdst:∀ i o,ops[i]?=some o→Bu ops i=o.dst:=fun i o ho=>by unfold Bu;rw [ho];rfl
 obtain ⟨hfin,hfrs⟩:=h.Pj (Bu ops) (En t) fr 0 rfl (fun i o ho=>by rw [Nat.zero_add];exact hdst i o (by rw [← Array.getElem?_toList];exact ho)) (fun i=>.inl (by rw [Nat.zero_add]))
 rw [Nat.zero_add,Array.length_toList] at hfin
 have hall:∀ i o,ops[i]?=some o→AY o.op=false→J P G X H (.op ops o (FX fr (Bu ops) (En t) (fun _=>true) i) (Cg t s' i) (.ret (En t i)) (Cg t s' (i+1))):=by
   intro i o ho hna
   obtain ⟨fi,h1,h2⟩:=hat i o (A2 ho)
   have:=hfrs i _ h1
   simp only [Nat.zero_add] at this
   rcases h2 with ⟨_,h2⟩ | ⟨h2,_⟩
   · rw [← this]
     exact h2
   · rw [hna] at h2;cases h2
 have hallA:∀ i o,ops[i]?=some o→AY o.op=true→Cg t s' (i+1)=Cg t s' i∧En t i=Gs ops (FX fr (Bu ops) (En t) (fun _=>true) i) o (s.nx+rk ops i):=by
   intro i o ho hya
   obtain ⟨fi,h1,h2⟩:=hat i o (A2 ho)
   have:=hfrs i _ h1
   simp only [Nat.zero_add] at this
   rcases h2 with ⟨h2,_⟩ | ⟨_,h2⟩
   · rw [hya] at h2;cases h2
   · rw [← this]
     exact h2
 have hna:∀ o:Oper,quiet o.op=true→AY o.op=false:=by
   intro o hq
   cases hya:AY o.op with
   | false=>rfl
   | true=>obtain ⟨e,he⟩:=ET hya;rw [Hp he] at hq;cases hq
 have hnl:∀ o:Oper,calm o.op=false→AY o.op=false:=by
   intro o hq
   cases hya:AY o.op with
   | false=>rfl
   | true=>unfold calm at hq;rw [hya] at hq;cases hq
 have hsn:Cg t s' ops.size=s':=by
   unfold Cg
   rw [List.getElem?_eq_none (by omega)]
 have hsk:∀ k,k≤ops.size→(t.map (fun x=>x.2.1)++[s'])[k]?=some (Cg t s' k):=by
   intro k hk
   unfold Cg
   by_cases hkt:k < t.length
   · rw [List.getElem?_append_left (by simpa using hkt),List.getElem?_map,List.getElem?_eq_getElem hkt];rfl
   · have:k=t.length:=by omega
     subst this
     rw [List.getElem?_append_right (by simp)]
     simp
 have hloud:∀ l,l∈Fl ops.toList 0→Nb ops l:=by
   intro l hl
   obtain ⟨j,o',e,h5,h6⟩:=Mc hl
   rw [Nat.zero_add] at e
   subst e
   exact ⟨o',by rw [← Array.getElem?_toList];exact h5,h6⟩
 have hquiet:∀ i o,ops[i]?=some o→calm o.op=true→Cg t s' (i+1)=Cg t s' i:=by
   intro i o ho hq
   rcases Li hq with hq | ⟨e,he⟩
   · exact (EE hq (hall i o ho (hna o hq))).1
   · exact (hallA i o ho (by rw [he];rfl)).1
 have key:=J.draw (P:=P) (G:=G) (X:=X) (H:=H) (id:=id) (f0:=fr) (s0:=s) r (En t) (Cg t s') h0 hord (fun i o ho hl=>hall i o ho (hnl o hl)) (fun i o ho hq=>by
   obtain ⟨h1,h2⟩:=EE hq (hall i o ho (hna o hq))
   refine ⟨h1,?_⟩
   rcases h2 with h2 | ⟨hw,h2⟩
   · exact .inl h2
   · refine .inr ⟨hw,fun k hk hwin=>?_⟩
     cases hr:reads o.op with
     | false=>exact Jr hq hr h2 _
     | true =>
       unfold RD at hst0
       split at hst0
       · rename_i hls
         have hno:∀ m,¬ Nb ops m:=by
           rintro m ⟨y,hy,hyq⟩
           have:=SK (i:=0) (A2 hy) hyq
           rw [hls] at this;cases this
         have hi:=(Array.getElem?_eq_some_iff.1 ho).1
         have e1:Cg t s' 0=Cg t s' k:=PA hquiet k (Nat.zero_le _) hk (fun m _ _=>hno m)
         have e2:Cg t s' 0=Cg t s' i:=PA hquiet i (Nat.zero_le _) (by omega) (fun m _ _=>hno m)
         rw [← e1,e2]
         exact h2
       · obtain ⟨fi,hti,_⟩:=hat i o (A2 ho)
         have hfi:=hfrs i _ hti
         simp only [Nat.zero_add] at hfi
         have hs2:=Ue hst0 (A2 ho) hti (by rw [hq,hr];rfl) (by rw [hfi];exact hw)
         rw [Nat.zero_add] at hs2
         obtain ⟨s2,hs3⟩:=Tx hs2 (hsk k hk) (by
           rw [Nat.zero_add]
           exact Q4 hloud hwin)
         obtain ⟨v',e⟩:=KF hq hs3
         injection e with _ e2
         subst e2
         rw [← hfi]
         exact hs3) (fun i o e ho he=>by
   have hya:AY o.op=true:=by rw [he];rfl
   obtain ⟨h1,h2⟩:=hallA i o ho hya
   refine ⟨h1,?_⟩
   have hrk:rk ops i < r.length:=by
     rw [Vm hr]
     exact Rc (A2 ho) hya (by rw [Array.length_toList];exact (Array.getElem?_eq_some_iff.1 ho).1)
   cases hw:Bd ops (FX fr (Bu ops) (En t) (fun _=>true) i) o with
   | false=>unfold Gs at h2;rw [hw] at h2;exact .inl ⟨rfl,h2⟩
   | true =>
     unfold Gs at h2;rw [hw] at h2
     obtain ⟨fi,hti,_⟩:=hat i o (A2 ho)
     have hfi:=hfrs i _ hti
     simp only [Nat.zero_add] at hfi
     have hal:Kq P ops (FE ops.toList []) (Fl ops.toList 0) (t.map (·.2.1)++[s']) ops.toList t 0 s.nx=true:=by
       unfold KN at hst1
       split at hst1
       · simp at hrk
       · exact hst1
     obtain ⟨z,hz,hbx⟩:=QU hal (A2 ho) hti he (by rw [hfi];exact hw)
     rw [Nat.zero_add] at hbx
     exact .inr ⟨rfl,z,hz,hrk,h2,fun k hk hwin=>QW hbx (hsk k hk) (by rw [Nat.zero_add];exact Q4 hloud hwin)⟩)
 rw [← hfin,hsn] at key
 exact key
end
end AI
namespace AI
open Go Go.RowKit
def wJ:Int→Bool
 | .ofNat m=>Nat.ble m 9223372036854775807
 | .negSucc m=>Nat.ble m 9223372036854775807
def Ks (k:IntKind) (n:Int):Int:=match k with
 | .i64=>(match wJ n with | true=>n | false=>IntKind.i64.wrap n)
 | k=>k.wrap n
theorem nZ {n:Int} (h:wJ n=true):IntKind.i64.wrap n=n:=by
 refine IntWalk.i64_in n ?_
 cases n with
 | ofNat m =>
   have:=Nat.le_of_ble_eq_true h
   have e:Int.ofNat m=(m:Int):=rfl
   rw [e]
   have h2:(m:Int)≤9223372036854775807:=Int.ofNat_le.2 this
   have h3:(0:Int)≤m:=Int.natCast_nonneg m
   omega
 | negSucc m =>
   have:=Nat.le_of_ble_eq_true h
   rw [Int.negSucc_eq]
   constructor
   · have e:(-9223372036854775808:Int)=-(9223372036854775807+1):=rfl
     rw [e]
     have h2:(m:Int)≤9223372036854775807:=Int.ofNat_le.2 this
     omega
   · have h2:(0:Int)≤m:=Int.natCast_nonneg m
     omega
theorem L1 (k:IntKind) (n:Int):Ks k n=k.wrap n:=by
 cases k<;>try rfl
 simp only [Ks]
 cases h:wJ n with
 | true=>exact (nZ h).symm
 | false=>rfl
def YT:Int→Int→Int
 | .ofNat a,.ofNat b=>.ofNat (Nat.add a b)
 | a,b=>a+b
theorem Rl (a b:Int):YT a b=a+b:=by cases a<;>cases b<;>rfl
def pO (a b:Nat):Int:=match Nat.ble b a with
 | true=>.ofNat (Nat.sub a b)
 | false=>(a:Int) - (b:Int)
def bH:Int→Int→Int
 | .ofNat a,.ofNat b=>pO a b
 | a,b=>a - b
theorem Vb (a b:Int):bH a b=a - b:=by
 cases a<;>cases b<;>try rfl
 rename_i a b
 simp only [bH,pO]
 cases h:Nat.ble b a with
 | true =>
   have:=Nat.le_of_ble_eq_true h
   show Int.ofNat (a - b)=(a:Int) - (b:Int)
   exact Int.ofNat_sub this
 | false=>rfl
def Bs:Int→Int→Bool
 | .ofNat a,.ofNat b=>Nat.beq a b
 | .negSucc a,.negSucc b=>Nat.beq a b
 | _,_=>false
theorem JL (a b:Int):Bs a b=(a == b):=by
 cases a<;>cases b<;>simp only [Bs]
 · rename_i a b
   rw [Bool.eq_iff_iff,beq_iff_eq,Int.ofNat.injEq]
   exact ⟨fun h=>Nat.eq_of_beq_eq_true h,fun h=>by subst h;exact Nat.beq_refl a⟩
 · rw [Bool.eq_iff_iff,beq_iff_eq];exact ⟨fun h=>by simp at h,fun h=>by cases h⟩
 · rw [Bool.eq_iff_iff,beq_iff_eq];exact ⟨fun h=>by simp at h,fun h=>by cases h⟩
 · rename_i a b
   rw [Bool.eq_iff_iff,beq_iff_eq,Int.negSucc.injEq]
   exact ⟨fun h=>Nat.eq_of_beq_eq_true h,fun h=>by subst h;exact Nat.beq_refl a⟩
def KT:Int→Int→Bool
 | .ofNat a,.ofNat b=>Nat.ble a b
 | a,b=>decide (a≤b)
theorem YK (a b:Int):KT a b=decide (a≤b):=by
 cases a<;>cases b<;>try rfl
 rename_i a b
 simp only [KT]
 rw [Bool.eq_iff_iff,decide_eq_true_iff]
 show _↔(a:Int)≤(b:Int)
 rw [Int.ofNat_le]
 exact ⟨Nat.le_of_ble_eq_true,Nat.ble_eq_true_of_le⟩
def FQ:Int→Int→Bool
 | .ofNat a,.ofNat b=>Nat.ble (Nat.succ a) b
 | a,b=>decide (a < b)
theorem Kz (a b:Int):FQ a b=decide (a < b):=by
 cases a<;>cases b<;>try rfl
 rename_i a b
 simp only [FQ]
 rw [Bool.eq_iff_iff,decide_eq_true_iff]
 show _↔(a:Int) < (b:Int)
 rw [Int.ofNat_lt]
 exact ⟨Nat.le_of_ble_eq_true,Nat.ble_eq_true_of_le⟩
def sameKind:IntKind→IntKind→Bool
 | .i64,.i64=>true
 | .u8,.u8=>true
 | _,_=>false
theorem No {a b:IntKind} (h:sameKind a b=true):a=b:=by cases a<;>cases b<;>first | rfl | cases h
def eH (k:IntKind) (a b:Int):BinOp→Option Value
 | .add=>some (.int k (Ks k (YT a b)))
 | .sub=>some (.int k (Ks k (bH a b)))
 | .mul=>some (.int k (Ks k (a*b)))
 | .eql=>some (.bool (Bs a b))
 | .neq=>some (.bool (!Bs a b))
 | .lss=>some (.bool (FQ a b))
 | .leq=>some (.bool (KT a b))
 | .gtr=>some (.bool (FQ b a))
 | .geq=>some (.bool (KT b a))
 | _=>none
theorem bI {P:Program} {op:BinOp} {k:IntKind} {a b:Int} {t:TypeId} {xo yo:Operand} {v:Value} (h:eH k a b op=some v):pv P (do eqGuard op t xo yo (.int k a) (.int k b);binOp op t (.int k a) (.int k b))=some v∧scalar v=true:=by
 cases op<;>simp only [eH,Option.some.injEq,reduceCtorEq] at h<;>subst h<;>refine ⟨?_,rfl⟩<;>simp [eqGuard,binOp,Op.intArith,Op.intCmp,pv,L1,Rl,Vb,JL,Kz,YK,bne,Bind.bind,Sem.bind,Pure.pure]
def BJ:List UInt8→List UInt8→Bool
 | [],[]=>true
 | a::l,b::m=>(match Nat.beq a.toNat b.toNat with
   | true=>BJ l m
   | false=>false)
 | _,_=>false
theorem O9 (l m:List UInt8):BJ l m=(l == m):=by
 induction l generalizing m with
 | nil=>cases m<;>rfl
 | cons a l ih =>
   cases m with
   | nil=>rfl
   | cons b m =>
     simp only [BJ]
     cases h:Nat.beq a.toNat b.toNat with
     | true =>
       have:a=b:=UInt8.toNat_inj.1 (Nat.eq_of_beq_eq_true h)
       subst this
       simp only [ih]
       simp
     | false =>
       have:a≠b:=fun e=>by subst e;have:=Nat.ne_of_beq_eq_false h;exact this rfl
       simp [this]
def iW (x y:ByteArray):BinOp→Option Value
 | .eql=>some (.bool (BJ x.data.toList y.data.toList))
 | .neq=>some (.bool (!BJ x.data.toList y.data.toList))
 | op=>V4 op x y
theorem dG (x y:ByteArray) (op:BinOp):iW x y op=V4 op x y:=by cases op<;>simp only [iW,V4,O9]
def YQ (v:Option Value):Option AV:=match v with
 | some v=>(match scalar v with | true=>some (.sc v) | false=>none)
 | none=>none
theorem Zq (v:Option Value):YQ v=v.bind PS:=by
 cases v with
 | none=>rfl
 | some v=>simp only [YQ,Option.bind_some,PS];cases scalar v<;>rfl
def Rq (P:Program) (op:BinOp) (t:TypeId) (xo yo:Operand) (x y:Value):Option AV :=
 match x with
 | .int k a=>(match y with
   | .int k' b=>(match sameKind k k' with
     | true=>(match eH k a b op with
       | some v=>some (.sc v)
       | none=>Gz P op t xo yo (.sc (.int k a)) (.sc (.int k' b)))
     | false=>Gz P op t xo yo (.sc (.int k a)) (.sc (.int k' b)))
   | y=>Gz P op t xo yo (.sc (.int k a)) (.sc y))
 | .string a=>(match y with
   | .string b=>YQ (iW a b op)
   | y=>Gz P op t xo yo (.sc (.string a)) (.sc y))
 | x=>Gz P op t xo yo (.sc x) (.sc y)
def OV (P:Program) (op:BinOp) (t:TypeId) (xo yo:Operand) (a b:AV):Option AV :=
 match a with
 | .sc x=>(match b with
   | .sc y=>Rq P op t xo yo x y
   | b=>Gz P op t xo yo (.sc x) b)
 | a=>Gz P op t xo yo a b
theorem Kl (P:Program) (op:BinOp) (t:TypeId) (xo yo:Operand) (a b:AV):OV P op t xo yo a b=Gz P op t xo yo a b:=by
 unfold OV
 cases a with
 | sc x =>
   cases b with
   | sc y =>
     simp only [Rq]
     cases x with
     | int k a =>
       cases y with
       | int k' b =>
         simp only
         cases hk:sameKind k k' with
         | false=>rfl
         | true =>
           have:=No hk
           subst this
           simp only
           cases hf:eH k a b op with
           | none=>rfl
           | some v =>
             obtain ⟨h1,h2⟩:=bI (P:=P) (t:=t) (xo:=xo) (yo:=yo) hf
             simp [Gz,LP,h1,PS,h2]
       | _=>rfl
     | string a =>
       cases y with
       | string b=>simp only [Zq,dG];rfl
       | _=>rfl
     | _=>rfl
   | _=>rfl
 | _=>rfl
def ZK:List UInt8→Nat→Option UInt8
 | [],_=>none
 | a::_,0=>some a
 | _::l,n+1=>ZK l n
theorem cI (l:List UInt8) (n:Nat):ZK l n=l[n]?:=by
 induction l generalizing n with
 | nil=>simp [ZK]
 | cons a l ih=>cases n<;>simp [ZK,ih]
def qB:Option UInt8→Option AV
 | some b=>some (.sc (.int .u8 (.ofNat b.toNat)))
 | none=>none
def NV (P:Program) (t:TypeId) (x ix:AV):Option AV :=
 match x with
 | .sc (.string s)=>(match P.underlying t with
   | some .string=>(match J7 ix with
     | some i=>qB (ZK s.data.toList i)
     | none=>none)
   | _=>GM P t (.sc (.string s)) ix)
 | x=>GM P t x ix
theorem TE (P:Program) (t:TypeId) (x ix:AV):NV P t x ix=GM P t x ix:=by
 unfold NV
 cases x with
 | sc v =>
   cases v with
   | string s =>
     simp only
     split
     · rename_i hu
       unfold GM
       rw [hu]
       cases J7 ix with
       | none=>rfl
       | some i =>
         simp only [cI]
         cases s.data.toList[i]?<;>rfl
     · rfl
   | _=>rfl
 | _=>rfl
end AI
namespace AI
open Go Go.RowKit
def nth:List AV→Nat→AV
 | [],_=>.sc undef
 | a::_,0=>a
 | _::l,n+1=>nth l n
theorem X0 (l:List AV) (n:Nat):nth l n=l.getD n (.sc undef):=by
 induction l generalizing n with
 | nil=>simp [nth]
 | cons a l ih=>cases n<;>simp [nth,ih]
def xG:Option (List AV)→Option AV
 | some cs=>some (.el cs)
 | none=>none
def AA (G:AG) (fr:List AV):Operand→Option AV
 | .tmp t=>some (nth fr t)
 | .const v=>NF v
 | .global g=>xG (G g)
 | .func f=>some (.fn (.func f) [] [])
theorem Bh (G:AG) (fr:List AV) (x:Operand):AA G fr x=AP G fr x:=by
 cases x with
 | tmp t=>simp only [AA,AP,X0]
 | const v=>rfl
 | global g=>simp only [AA,AP];cases G g<;>rfl
 | func f=>rfl
def Hi (s:AS):Option AV→Option AR
 | some v=>some (.val v s)
 | none=>none
theorem JE (s:AS) (o:Option AV):Hi s o=o.map (fun v=>.val v s):=by cases o<;>rfl
def SG:Option AS→Option AR
 | some s=>some (.val (.sc undef) s)
 | none=>none
theorem aL (o:Option AS):SG o=o.map (fun s=>.val (.sc undef) s):=by cases o<;>rfl
def V9:Option (AV×AS)→Option AR
 | some r=>some (.val r.1 r.2)
 | none=>none
theorem Ve (o:Option (AV×AS)):V9 o=o.map (fun r=>.val r.1 r.2):=by cases o<;>rfl
def Ro {α β:Type} (o:Option α) (f:α→Option β):Option β:=match o with
 | some a=>f a
 | none=>none
theorem Rk {α β:Type} (o:Option α) (f:α→Option β):Ro o f=o.bind f:=by cases o<;>rfl
def two {β:Type} (a b:Option AV) (f:AV→AV→Option β):Option β:=match a with
 | some x=>(match b with
   | some y=>f x y
   | none=>none)
 | none=>none
def three {β:Type} (a b d:Option AV) (f:AV→AV→AV→Option β):Option β:=match a with
 | some x=>(match b with
   | some y=>(match d with
     | some z=>f x y z
     | none=>none)
   | none=>none)
 | none=>none
def gZ (x y:Option AV):Option AV→Option AV
 | some (.sc (.bool t))=>(match t with | true=>x | false=>y)
 | _=>none
def Xe (s:AS):Option AV→Option AR
 | some z=>some (.val (.ptr s.nx 0) (s.new (.cells (cellsOf z))))
 | none=>none
def U5 (s:AS):Option AV→Option AR
 | some z=>(match Kk z with | true=>none | false=>some (.val (.ptr s.nx 0) (s.new (.cells (cellsOf z)))))
 | none=>none
def T3 (s:AS):Option AV→Option AR
 | some v=>(match notNil v with | true=>some (.val v s) | false=>none)
 | none=>none
def Us (t:TypeId) (s:AS) (v:Option AV):Option TypeDesc→Option AR
 | some d=>(match v with
   | some v=>(match isIface d with | true=>none | false=>some (.val (.ifc t v) s))
   | none=>none)
 | none=>none
def func1 (f:Fn) (s:AS) (b:Option (List AV)):Option (List AV)→Option AR
 | some a=>(match b with
   | some b=>some (.val (.fn f a b) s)
   | none=>none)
 | none=>none
def ZN (P:Program) (s:AS) (t:TypeId) (l h m:Option (Option AV)):Option AV→Option AR
 | some a=>(match l with
   | some l=>(match h with
     | some h=>(match m with
       | some m=>Hi s (IA P t a l h m)
       | none=>none)
     | none=>none)
   | none=>none)
 | none=>none
def rH:Option AV→Option AR
 | some (.ifc t v)=>some (.pan (.ifc t v))
 | _=>none
def sR (P:Program) (as:Option (List AV)):Option AV→Option AR
 | some (.fn (.func g) first caps)=>(match as with
   | some as=>(match Ie P g with | true=>some (.ent g (first++as++caps)) | false=>none)
   | none=>none)
 | _=>none
def qK (P:Program) (G:AG) (fr:List AV) (s:AS):List Operand→List TypeId→Option AR
 | [x],[t]=>Hi s (Ro (AA G fr x) (NN P s t))
 | _,_=>none
def pN (P:Program) (G:AG) (fr:List AV) (s:AS):List Operand→List TypeId→Option AR
 | [x,y],[t,tx]=>V9 (two (AA G fr x) (AA G fr y) (IJ P s t tx))
 | _,_=>none
def iK (P:Program) (s:AS) (f:List Value→Sem Value):Option (List Value)→Option AR
 | some vs=>Hi s (Nr P (f vs))
 | none=>none
def Vz (P:Program) (s:AS) (f:Value→Sem Value):Option Value→Option AR
 | some v=>Hi s (Nr P (f v))
 | none=>none
def Ke (P:Program) (G:AG) (fr:List AV) (s:AS) (o:Oper) (cl:Call):Builtin→Option AR
 | .len=>qK P G fr s cl.args.toList cl.argTypes.toList
 | .append=>pN P G fr s cl.args.toList cl.argTypes.toList
 | .max=>iK P s (fun vs=>Builtin.max_ cl.argTypes o.type vs.toArray) (Ro (PK G fr cl.args.toList) IL)
 | .min=>iK P s (fun vs=>Builtin.min_ cl.argTypes o.type vs.toArray) (Ro (PK G fr cl.args.toList) IL)
 | _=>none
def Rf (P:Program) (G:AG) (fr:List AV) (s:AS) (o:Oper) (cl:Call):Option AR :=
 match cl.callee with
 | .builtin b=>Ke P G fr s o cl b
 | .value f=>sR P (PK G fr cl.args.toList) (AA G fr f)
 | _=>none
def R6 (s:AS):Option Operand→Option AR
 | none=>some (.val (.mp s.nx) (s.new (.map [] 0)))
 | some _=>none
def Lh (P:Program) (G:AG) (fr:List AV) (s:AS) (o:Oper):Option AR :=
 match o.op with
 | .move x=>Hi s (AA G fr x)
 | .assign x=>Hi s (AA G fr x)
 | .pick c a b=>Hi s (gZ (AA G fr a) (AA G fr b) (AA G fr c))
 | .alloc e=>Xe s (E9 P e)
 | .box _ x=>U5 s (AA G fr x)
 | .build t ps=>Hi s (Ro (GY G fr ps.toList) (Oy P t))
 | .buildSlice t n ps=>Hi s (Ro (GY G fr ps.toList) (G8 P t n))
 | .load t a=>Hi s (Ro (AA G fr a) (FI P s t))
 | .store t a x=>SG (two (AA G fr a) (AA G fr x) (GG P s t))
 | .nilCheck x=>T3 s (AA G fr x)
 | .binOp op t x y _=>Hi s (two (AA G fr x) (AA G fr y) (OV P op t x y))
 | .unOp op _ x=>Vz P s (Op.unary op) (Ro (AA G fr x) JP)
 | .convert src dst x=>Vz P s (convert src dst) (Ro (AA G fr x) JP)
 | .makeInterface t x=>Us t s (AA G fr x) (P.underlying t)
 | .makeFunc f first caps=>func1 f s (PK G fr caps.toList) (PK G fr first.toList)
 | .makeMap _ r=>R6 s r
 | .makeSlice t l c=>V9 (two (AA G fr l) (AA G fr c) (Eh P s t))
 | .slice t x lo hi mx=>ZN P s t (R2 G fr lo) (R2 G fr hi) (R2 G fr mx) (AA G fr x)
 | .fieldAddr t x k=>Hi s (Ro (AA G fr x) fun a=>KC P t a k)
 | .field t x k=>Hi s (Ro (AA G fr x) fun a=>OG P t a k)
 | .indexAddr t x i=>Hi s (two (AA G fr x) (AA G fr i) (B0 P t))
 | .index t x i=>Hi s (two (AA G fr x) (AA G fr i) (NV P t))
 | .lookup t x k ok=>Hi s (two (AA G fr x) (AA G fr k) fun a b=>EO P s t a b ok)
 | .mapUpdate t m k x=>SG (three (AA G fr m) (AA G fr k) (AA G fr x) (Ff P s t))
 | .insert t m k x=>SG (three (AA G fr m) (AA G fr k) (AA G fr x) (Ff P s t))
 | .mapEntry t m k=>V9 (two (AA G fr m) (AA G fr k) (Jq P s t))
 | .entryStore _ m st x=>SG (three (AA G fr m) (AA G fr st) (AA G fr x) (Ha s))
 | .extract x k=>Hi s (Ro (AA G fr x) fun a=>Kg a k)
 | .call cl=>Rf P G fr s o cl
 | .panic x=>rH (AA G fr x)
 | _=>none
theorem Wt (P:Program) (G:AG) (fr:List AV) (s:AS) (o:Oper) (cl:Call):Rf P G fr s o cl=K2 P G fr s o cl:=by
 unfold Rf K2
 cases hc:cl.callee with
 | value f =>
   simp only [Bh]
   cases AP G fr f with
   | none=>rfl
   | some v =>
     cases v with
     | fn g a b =>
       cases g with
       | func g =>
         cases PK G fr cl.args.toList with
         | none=>rfl
         | some as =>
           simp only [sR]
           cases Ie P g<;>rfl
       | _=>rfl
     | _=>rfl
 | invoke r m=>rfl
 | builtin b =>
   cases b<;>try rfl
   · simp only [Ke]
     cases hx:cl.args.toList with
     | nil=>rfl
     | cons x xs =>
       cases xs with
       | nil=>rfl
       | cons y ys =>
         cases ys with
         | cons z zs=>rfl
         | nil =>
           cases ht:cl.argTypes.toList with
           | nil=>rfl
           | cons t ts =>
             cases ts with
             | nil=>rfl
             | cons u us =>
               cases us with
               | cons v vs=>rfl
               | nil =>
                 simp only [pN,Bh]
                 cases AP G fr x<;>cases AP G fr y<;>first | rfl | exact Ve _
   · simp only [Ke]
     cases hx:cl.args.toList with
     | nil=>rfl
     | cons x xs =>
       cases xs with
       | cons y ys=>rfl
       | nil =>
         cases ht:cl.argTypes.toList with
         | nil=>rfl
         | cons t ts =>
           cases ts with
           | cons u us=>rfl
           | nil=>simp only [qK,Bh,Rk];exact JE _ _
   · simp only [Ke,Rk]
     cases (PK G fr cl.args.toList).bind IL with
     | none=>rfl
     | some vs=>exact JE _ _
   · simp only [Ke,Rk]
     cases (PK G fr cl.args.toList).bind IL with
     | none=>rfl
     | some vs=>exact JE _ _
theorem GR (P:Program) (G:AG) (fr:List AV) (s:AS) (o:Oper):Lh P G fr s o=JA P G fr s o:=by
 unfold Lh JA
 cases ho:o.op<;>simp only [Bh,JE,aL,Ve,Rk,Wt]
 case pick c a b =>
   cases AP G fr c with
   | none=>rfl
   | some v =>
     cases v with
     | sc u=>cases u<;>first | rfl | (rename_i t;cases t<;>rfl)
     | _=>rfl
 case alloc e=>cases E9 P e<;>rfl
 case box e x =>
   cases AP G fr x with
   | none=>rfl
   | some v=>cases v<;>rfl
 case store t a x=>cases AP G fr a<;>cases AP G fr x<;>rfl
 case nilCheck x =>
   cases AP G fr x with
   | none=>rfl
   | some v=>simp only [T3];cases notNil v<;>rfl
 case binOp op t x y z=>cases AP G fr x<;>cases AP G fr y<;>first | rfl | (simp only [two,Kl])
 case unOp op t x=>cases (AP G fr x).bind JP with
   | none=>rfl
   | some v=>exact JE _ _
 case convert a b x=>cases (AP G fr x).bind JP with
   | none=>rfl
   | some v=>exact JE _ _
 case makeInterface t x =>
   cases AP G fr x with
   | none=>cases P.underlying t<;>rfl
   | some v =>
     cases P.underlying t with
     | none=>rfl
     | some d=>simp only [Us];cases isIface d<;>rfl
 case makeFunc f a b=>cases PK G fr a.toList<;>cases PK G fr b.toList<;>rfl
 case makeMap t r=>cases r<;>rfl
 case makeSlice t l c=>cases AP G fr l<;>cases AP G fr c<;>rfl
 case slice t x lo hi mx =>
   cases AP G fr x<;>cases R2 G fr lo<;>cases R2 G fr hi<;>cases R2 G fr mx<;>first | rfl | exact JE _ _
 case indexAddr t x i=>cases AP G fr x<;>cases AP G fr i<;>rfl
 case index t x i=>cases AP G fr x<;>cases AP G fr i<;>first | rfl | (simp only [two,TE])
 case lookup t x k ok=>cases AP G fr x<;>cases AP G fr k<;>rfl
 case mapUpdate t m k x=>cases AP G fr m<;>cases AP G fr k<;>cases AP G fr x<;>rfl
 case insert t m k x=>cases AP G fr m<;>cases AP G fr k<;>cases AP G fr x<;>rfl
 case mapEntry t m k=>cases AP G fr m<;>cases AP G fr k<;>rfl
 case entryStore t m k x=>cases AP G fr m<;>cases AP G fr k<;>cases AP G fr x<;>rfl
 case panic x =>
   cases AP G fr x with
   | none=>rfl
   | some v=>cases v<;>rfl
end AI
namespace AI
open Go Go.RowKit
abbrev Rec:=Tk→Option Rs
def Wd (r:Rec) (y:Code):Option Rs→Option Rs
 | some (.code e fr s)=>(match e with
   | .normal=>r (.code y fr s)
   | e=>some (.code e fr s))
 | _=>none
def Vr (r:Rec) (x y:Code) (fr:List AV) (s:AS):Option AV→Option Rs
 | some (.sc (.bool t))=>(match t with
   | true=>r (.code x fr s)
   | false=>r (.code y fr s))
 | _=>none
def TK (id:Nat):Option Rs→Option Rs
 | some (.code e fr s)=>some (.code (DU id e) fr s)
 | _=>none
def Sr:Option Rs→Option Rs
 | some (.code e fr s)=>some (.code e fr s)
 | _=>none
def gG (P:Program) (G:AG) (ops:Array Oper) (q:Nat) (rs:List AF):Option Rs→Option Rs
 | some (.tr t fr s)=>(match Px P G ops t s q rs with
   | true=>some (.code .normal fr s)
   | false=>none)
 | _=>none
def gL (P:Program) (G:AG) (r:Rec) (ops:Array Oper) (fr:List AV) (s:AS):Option (List AF)→Option Rs
 | some rs=>gG P G ops s.nx rs (r (.draw ops ops.toList fr (s.hold rs) s.nx))
 | none=>none
def iH (P:Program) (G:AG) (r:Rec) (ops:Array Oper) (fr:List AV) (s:AS):Bool→Option Rs
 | true=>gL P G r ops fr s (ZQ P ops.toList)
 | false=>none
def N6 (P:Program) (G:AG) (r:Rec) (ops:Array Oper) (fr:List AV) (s:AS):Bool→Option Rs
 | false=>Sr (r (.ops ops ops.toList fr s))
 | true=>iH P G r ops fr s (Hv ops)
def EQ (P:Program) (G:AG) (r:Rec) (fr:List AV) (s:AS):Code→Option Rs
 | .skip=>some (.code .normal fr s)
 | .exit id=>some (.code (.exit id) fr s)
 | .ret=>some (.code .ret fr s)
 | .seq x y=>Wd r y (r (.code x fr s))
 | .cond q x y=>Vr r x y fr s (AA G fr q)
 | .block id c=>TK id (r (.code c fr s))
 | .loop c=>Sr (r (.loop c fr s))
 | .region _ ops d=>N6 P G r ops fr s d
 | _=>none
def QI (r:Rec) (c:Code):Option Rs→Option Rs
 | some (.code e fr s)=>(match e with
   | .normal=>r (.loop c fr s)
   | e=>some (.code e fr s))
 | _=>none
def wF (r:Rec) (ops:Array Oper) (dst:Option Tmp) (l:List Oper) (fr:List AV):Option Rs→Option Rs
 | some (.call c s)=>(match c with
   | .ret v=>r (.ops ops l (Ho fr dst v) s)
   | .pan v=>some (.code (.pan v) fr s))
 | _=>none
def fI (r:Rec) (ops:Array Oper) (fr:List AV) (s:AS):List Oper→Option Rs
 | []=>some (.code .normal fr s)
 | o::l=>wF r ops o.dst l fr (r (.op ops o fr s))
def tS (fr:List AV) (s:AS) (v:AV):Option Rs→Option Rs
 | some (.tr t fr1 s2)=>some (.tr ((fr,s,v)::t) fr1 s2)
 | _=>none
def Zt (r:Rec) (ops:Array Oper) (dst:Option Tmp) (l:List Oper) (fr:List AV) (s:AS) (q:Nat):Option Rs→Option Rs
 | some (.call (.ret v) s1)=>tS fr s v (r (.draw ops l (Ho fr dst v) s1 q))
 | _=>none
def Xq (r:Rec) (ops:Array Oper) (o:Oper) (l:List Oper) (fr:List AV) (s:AS) (q:Nat) (v:AV):Option Rs:=tS fr s v (r (.draw ops l (Ho fr o.dst v) s (q+1)))
def TI (r:Rec) (ops:Array Oper) (o:Oper) (l:List Oper) (fr:List AV) (s:AS) (q:Nat):Bool→Option Rs
 | true=>Xq r ops o l fr s q (Gs ops fr o q)
 | false=>Zt r ops o.dst l fr s q (r (.op ops o fr s))
def Ms (r:Rec) (ops:Array Oper) (fr:List AV) (s:AS) (q:Nat):List Oper→Option Rs
 | []=>some (.tr [] fr s)
 | o::l=>TI r ops o l fr s q (AY o.op)
def iE:Option Rs→Option Rs
 | some (.call c s)=>some (.call c s)
 | _=>none
def qT (r:Rec) (s:AS):Option AR→Option Rs
 | some (.val v s1)=>some (.call (.ret v) s1)
 | some (.pan v)=>some (.call (.pan v) s)
 | some (.ent f args)=>iE (r (.call f args s))
 | none=>none
def Pw (ops:Array Oper) (fr:List AV):Option (Nat×Bool)→Bool
 | none=>true
 | some p=>(match (ops[p.1]?).bind (·.dst) with
   | some d=>(match nth fr d with
     | .sc (.bool b)=>b == p.2
     | _=>false)
   | none=>false)
theorem Wl (ops:Array Oper) (fr:List AV) (o:Oper):Pw ops fr o.guard=Bd ops fr o:=by
 unfold Pw Bd
 cases o.guard with
 | none=>rfl
 | some p =>
   obtain ⟨j,want⟩:=p
   simp only
   cases (ops[j]?).bind (·.dst) with
   | none=>rfl
   | some d =>
     simp only [X0,List.getD_eq_getElem?_getD]
     cases fr[d]? with
     | none=>rfl
     | some v =>
       cases v with
       | sc u=>cases u<;>rfl
       | _=>rfl
def iR (P:Program) (G:AG) (r:Rec) (fr:List AV) (s:AS) (o:Oper):Bool→Option Rs
 | true=>qT r s (Lh P G fr s o)
 | false=>some (.call (.ret (.sc undef)) s)
def iA (k:CR→Option CR):Option Rs→Option Rs
 | some (.call c s)=>(match k c with
   | some c1=>some (.call c1 s)
   | none=>none)
 | _=>none
def dP (s:AS) (n:Nat):Option AV→Option Rs
 | some v=>some (.call (.ret v) (fin v s n))
 | none=>none
def Sz (P:Program) (fn:Func) (n:Nat):Option Rs→Option Rs
 | some (.code e fr s)=>(match e with
   | .normal=>dP s n (DP P s fn fr)
   | .ret=>dP s n (DP P s fn fr)
   | .pan v=>some (.call (.pan v) (s.cut n))
   | .exit _=>none)
 | _=>none
def gW (P:Program) (r:Rec) (fn:Func) (args:List AV) (s:AS):Option Code→Option Rs
 | some c=>Sz P fn s.nx (r (.code c (args++List.replicate (fn.ntmps - args.length) (.sc undef)) s))
 | none=>none
def W6 (P:Program) (r:Rec) (args:List AV) (s:AS):Option Func→Option Rs
 | some fn=>gW P r fn args s fn.body
 | none=>none
def Y4 (P:Program) (r:Rec) (f:FuncId) (args:List AV) (s:AS):Option (FuncId×List AV×(CR→Option CR))→Option Rs
 | some (g,gargs,k)=>iA k (r (.call g gargs s))
 | none=>W6 P r args s P.funcs[f]?
def bG (P:Program) (H:Jh) (r:Rec) (f:FuncId) (args:List AV) (s:AS):Option (CR×AS)→Option Rs
 | some (c,s1)=>some (.call c s1)
 | none=>Y4 P r f args s (H f args)
def step (P:Program) (G:AG) (X:PE) (H:Jh) (r:Rec):Tk→Option Rs
 | .code c fr s=>EQ P G r fr s c
 | .loop c fr s=>QI r c (r (.code c fr s))
 | .ops ops l fr s=>fI r ops fr s l
 | .draw ops l fr s q=>Ms r ops fr s q l
 | .op ops o fr s=>iR P G r fr s o (Pw ops fr o.guard)
 | .call f args s=>bG P H r f args s (X f args s)
end AI
namespace AI
open Go Go.RowKit
noncomputable def lP (l:List AV):Nat→AV:=List.rec (motive:=fun _=>Nat→AV) (fun _=>.sc undef) (fun a _ ih n=>Nat.rec (motive:=fun _=>AV) a (fun k _=>ih k) n) l
theorem aG (l:List AV) (n:Nat):lP l n=nth l n:=by
 induction l generalizing n with
 | nil=>rfl
 | cons a l ih=>cases n with
   | zero=>rfl
   | succ n=>exact ih n
noncomputable def lY (v:AV) (l:List AV):Nat→List AV:=List.rec (motive:=fun _=>Nat→List AV) (fun _=>[]) (fun a t ih n=>Nat.rec (motive:=fun _=>List AV) (v::t) (fun k _=>a::ih k) n) l
theorem eL (v:AV) (l:List AV) (n:Nat):lY v l n=l.set n v:=by
 induction l generalizing n with
 | nil=>rfl
 | cons a l ih=>cases n with
   | zero=>rfl
   | succ n=>show a::lY v l n=_;rw [ih];rfl
noncomputable def gD (fr:List AV) (dst:Option Tmp) (v:AV):List AV:=Option.rec (motive:=fun _=>List AV) fr (fun d=>lY v fr d) dst
theorem XG (fr:List AV) (dst:Option Tmp) (v:AV):gD fr dst v=Ho fr dst v:=by cases dst with
 | none=>rfl
 | some d=>exact eL v fr d
abbrev Sm:=Program→AG→List AV→AS→Oper→Option AR
noncomputable def mK (t:Tmp) (_:AG) (fr:List AV):Option AV:=some (lP fr t)
def bJ (v:Value) (_:AG) (_:List AV):Option AV:=NF v
def iP (g:Nat) (G:AG) (_:List AV):Option AV:=xG (G g)
def tY (f:FuncId) (_:AG) (_:List AV):Option AV:=some (.fn (.func f) [] [])
noncomputable def ZT (x:Operand):AG→List AV→Option AV:=Operand.rec (motive:=fun _=>AG→List AV→Option AV) mK bJ iP tY x
theorem nT (x:Operand) (G:AG) (fr:List AV):ZT x G fr=AA G fr x:=by
 cases x with
 | tmp t=>show some (lP fr t)=some (nth fr t);rw [aG]
 | const v=>rfl
 | global g=>rfl
 | func f=>rfl
noncomputable def PZ {α β:Type} (o:Option α) (f:α→Option β):Option β:=Option.rec (motive:=fun _=>Option β) none f o
theorem dE {α β:Type} (o:Option α) (f:α→Option β):PZ o f=Ro o f:=by cases o<;>rfl
def rV (s:AS) (v:AV):Option AR:=some (.val v s)
noncomputable def Uq (s:AS) (o:Option AV):Option AR:=PZ o (rV s)
theorem cA (s:AS) (o:Option AV):Uq s o=Hi s o:=by cases o<;>rfl
noncomputable def Rm (x:Operand):Sm:=fun _ G fr s _=>Uq s (ZT x G fr)
def aH (c a b:Operand):Sm:=fun _ G fr s _=>Hi s (gZ (AA G fr a) (AA G fr b) (AA G fr c))
def Xv (e:TypeId):Sm:=fun P _ _ s _=>Xe s (E9 P e)
def lJ (_:TypeId) (x:Operand):Sm:=fun _ G fr s _=>U5 s (AA G fr x)
def Xz (t:TypeId) (ps:Array (Nat×Operand)):Sm:=fun P G fr s _=>Hi s (Ro (GY G fr ps.toList) (Oy P t))
def PP (t:TypeId) (n:Nat) (ps:Array (Nat×Operand)):Sm:=fun P G fr s _=>Hi s (Ro (GY G fr ps.toList) (G8 P t n))
noncomputable def UN (t:TypeId) (a:Operand):Sm:=fun P G fr s _=>Uq s (PZ (ZT a G fr) (FI P s t))
def Yw (t:TypeId) (a x:Operand):Sm:=fun P G fr s _=>SG (two (AA G fr a) (AA G fr x) (GG P s t))
def nX (x:Operand):Sm:=fun _ G fr s _=>T3 s (AA G fr x)
noncomputable def ZF (op:BinOp) (t:TypeId) (x y:Operand) (_:TypeId):Sm:=fun P G fr s _=>Uq s (PZ (ZT x G fr) (fun a=>PZ (ZT y G fr) (fun b=>OV P op t x y a b)))
def pV (op:UnOp) (_:TypeId) (x:Operand):Sm:=fun P G fr s _=>Vz P s (Op.unary op) (Ro (AA G fr x) JP)
def aX (src dst:TypeId) (x:Operand):Sm:=fun P G fr s _=>Vz P s (convert src dst) (Ro (AA G fr x) JP)
def Zn (t:TypeId) (x:Operand):Sm:=fun P G fr s _=>Us t s (AA G fr x) (P.underlying t)
def bL (f:Fn) (first caps:Array Operand):Sm:=fun _ G fr s _=>func1 f s (PK G fr caps.toList) (PK G fr first.toList)
def jS (_:TypeId) (r:Option Operand):Sm:=fun _ _ _ s _=>R6 s r
def bE (t:TypeId) (l c:Operand):Sm:=fun P G fr s _=>V9 (two (AA G fr l) (AA G fr c) (Eh P s t))
def Yp (t:TypeId) (x:Operand) (lo hi mx:Option Operand):Sm:=fun P G fr s _=>ZN P s t (R2 G fr lo) (R2 G fr hi) (R2 G fr mx) (AA G fr x)
noncomputable def QO (t:TypeId) (x:Operand) (k:Nat):Sm:=fun P G fr s _=>Uq s (PZ (ZT x G fr) fun a=>KC P t a k)
def X5 (t:TypeId) (x:Operand) (k:Nat):Sm:=fun P G fr s _=>Hi s (Ro (AA G fr x) fun a=>OG P t a k)
noncomputable def Qd (t:TypeId) (x i:Operand):Sm:=fun P G fr s _=>Uq s (PZ (ZT x G fr) (fun a=>PZ (ZT i G fr) (fun b=>B0 P t a b)))
noncomputable def Si (t:TypeId) (x i:Operand):Sm:=fun P G fr s _=>Uq s (PZ (ZT x G fr) (fun a=>PZ (ZT i G fr) (fun b=>NV P t a b)))
def WZ (t:TypeId) (x k:Operand) (ok:Bool):Sm:=fun P G fr s _=>Hi s (two (AA G fr x) (AA G fr k) fun a b=>EO P s t a b ok)
def Y9 (t:TypeId) (m k x:Operand):Sm:=fun P G fr s _=>SG (three (AA G fr m) (AA G fr k) (AA G fr x) (Ff P s t))
def Ym (t:TypeId) (m k:Operand):Sm:=fun P G fr s _=>V9 (two (AA G fr m) (AA G fr k) (Jq P s t))
def VH (_:TypeId) (m st x:Operand):Sm:=fun _ G fr s _=>SG (three (AA G fr m) (AA G fr st) (AA G fr x) (Ha s))
def TX (x:Operand) (k:Nat):Sm:=fun _ G fr s _=>Hi s (Ro (AA G fr x) fun a=>Kg a k)
def cG (cl:Call):Sm:=fun P G fr s o=>Rf P G fr s o cl
def Xi (x:Operand):Sm:=fun _ G fr _ _=>rH (AA G fr x)
def qX:Sm:=fun _ _ _ _ _=>none
noncomputable def YE (op:Op):Sm:=match op with
 | .move x=>Rm x
 | .assign x=>Rm x
 | .pick c a b=>aH c a b
 | .alloc e=>Xv e
 | .box e x=>lJ e x
 | .build t ps=>Xz t ps
 | .buildSlice t n ps=>PP t n ps
 | .load t a=>UN t a
 | .store t a x=>Yw t a x
 | .nilCheck x=>nX x
 | .binOp op t x y z=>ZF op t x y z
 | .unOp op t x=>pV op t x
 | .convert a b x=>aX a b x
 | .makeInterface t x=>Zn t x
 | .makeFunc f a b=>bL f a b
 | .makeMap t r=>jS t r
 | .makeSlice t l c=>bE t l c
 | .slice t x lo hi mx=>Yp t x lo hi mx
 | .fieldAddr t x k=>QO t x k
 | .field t x k=>X5 t x k
 | .indexAddr t x i=>Qd t x i
 | .index t x i=>Si t x i
 | .lookup t x k ok=>WZ t x k ok
 | .mapUpdate t m k x=>Y9 t m k x
 | .insert t m k x=>Y9 t m k x
 | .mapEntry t m k=>Ym t m k
 | .entryStore t m st x=>VH t m st x
 | .extract x k=>TX x k
 | .call cl=>cG cl
 | .panic x=>Xi x
 | _=>qX
theorem Yn (P:Program) (G:AG) (fr:List AV) (s:AS) (o:Oper):YE o.op P G fr s o=Lh P G fr s o:=by
 unfold YE Lh
 cases o.op<;>try rfl
 all_goals simp only [Rm,UN,ZF,QO,Qd,Si,nT,cA,dE]
 all_goals first
   | done
   | (rename_i a b c d e;cases AA G fr c<;>cases AA G fr d<;>rfl)
   | (rename_i a b c;cases AA G fr b<;>cases AA G fr c<;>rfl)
noncomputable def Pk (ops:Array Oper) (fr:List AV) (g:Option (Nat×Bool)):Bool:=Option.rec (motive:=fun _=>Bool) true (fun p=>Pw ops fr (some p)) g
theorem VS (ops:Array Oper) (fr:List AV) (g:Option (Nat×Bool)):Pk ops fr g=Pw ops fr g:=by cases g<;>rfl
noncomputable def Yk (r:Rec) (ops:Array Oper) (dst:Option Tmp) (l:List Oper) (fr:List AV):Option Rs→Option Rs
 | some (.call c s)=>(match c with
   | .ret v=>r (.ops ops l (gD fr dst v) s)
   | .pan v=>some (.code (.pan v) fr s))
 | _=>none
noncomputable def Mq (P:Program) (G:AG) (r:Rec) (fr:List AV) (s:AS) (o:Oper) (b:Bool):Option Rs:=Bool.rec (motive:=fun _=>Option Rs) (some (.call (.ret (.sc undef)) s)) (qT r s (YE o.op P G fr s o)) b
noncomputable def Pm (P:Program) (G:AG) (r:Rec) (ops:Array Oper) (fr:List AV) (s:AS) (l:List Oper):Option Rs:=List.rec (motive:=fun _=>Option Rs) (some (.code .normal fr s)) (fun o l _=>Yk r ops o.dst l fr (Mq P G r fr s o (Pk ops fr o.guard))) l
abbrev Ss:=Program→AG→Rec→List AV→AS→Option Rs
def iT:Ss:=fun _ _ _ fr s=>some (.code .normal fr s)
def jU (id:Nat):Ss:=fun _ _ _ fr s=>some (.code (.exit id) fr s)
def pA:Ss:=fun _ _ _ fr s=>some (.code .ret fr s)
def sN (x y:Code):Ss:=fun _ _ r fr s=>Wd r y (r (.code x fr s))
def kY (q:Operand) (x y:Code):Ss:=fun _ G r fr s=>Vr r x y fr s (AA G fr q)
def aU (id:Nat) (c:Code):Ss:=fun _ _ r fr s=>TK id (r (.code c fr s))
def mF (c:Code):Ss:=fun _ _ r fr s=>Sr (r (.loop c fr s))
def Zf (_:Nat) (ops:Array Oper) (d:Bool):Ss:=fun P G r fr s=>N6 P G r ops fr s d
def uE:Ss:=fun _ _ _ _ _=>none
def UD (c:Code):Ss:=match c with
 | .skip=>iT
 | .exit id=>jU id
 | .ret=>pA
 | .seq x y=>sN x y
 | .cond q x y=>kY q x y
 | .block id c=>aU id c
 | .loop c=>mF c
 | .region id ops d=>Zf id ops d
 | _=>uE
theorem Ut (P:Program) (G:AG) (r:Rec) (fr:List AV) (s:AS) (c:Code):UD c P G r fr s=EQ P G r fr s c:=by cases c<;>rfl
noncomputable def Ph (P:Program) (G:AG) (X:PE) (H:Jh) (r:Rec):Tk→Option Rs
 | .code c fr s=>UD c P G r fr s
 | .loop c fr s=>QI r c (r (.code c fr s))
 | .ops ops l fr s=>Pm P G r ops fr s l
 | .draw ops l fr s q=>Ms r ops fr s q l
 | .op ops o fr s=>Mq P G r fr s o (Pk ops fr o.guard)
 | .call f args s=>bG P H r f args s (X f args s)
noncomputable def tG (P:Program) (G:AG) (X:PE) (H:Jh) (n:Nat):Rec:=Nat.rec (motive:=fun _=>Rec) (fun _=>none) (fun _ ih=>Ph P G X H ih) n
end AI
namespace AI
open Go Go.RowKit
section
variable {P:Program} {G:AG} {X:PE} {H:Jh} {r:Rec}
theorem gV (hr:∀ tk rs,r tk=some rs→Rt P G (XP X) H tk rs) {ops:Array Oper} {o:Oper} {fr:List AV} {s:AS} {rs:Rs} (h:Mq P G r fr s o (Pk ops fr o.guard)=some rs):Rt P G (XP X) H (.op ops o fr s) rs:=by
 rw [VS,Wl] at h
 unfold Mq at h
 cases hw:Bd ops fr o with
 | false=>rw [hw] at h;simp only at h;cases h;exact J.opSkip hw
 | true =>
   rw [hw] at h
   simp only at h
   rw [Yn,GR] at h
   cases ha:JA P G fr s o with
   | none=>rw [ha] at h;cases h
   | some a =>
     rw [ha] at h
     cases a with
     | val v s1=>simp only [qT] at h;cases h;exact J.opVal hw ha
     | pan v=>simp only [qT] at h;cases h;exact J.opPan hw ha
     | ent f args =>
       simp only [qT] at h
       cases hc:r (.call f args s) with
       | none=>rw [hc] at h;cases h
       | some q =>
         rw [hc] at h
         cases q with
         | call c s1=>simp only [iE] at h;cases h;exact J.opCall hw ha (hr _ _ hc)
         | _=>cases h
theorem Xc (hr:∀ tk rs,r tk=some rs→Rt P G (XP X) H tk rs) (tk:Tk) (rs:Rs) (h:Ph P G X H r tk=some rs):Rt P G (XP X) H tk rs:=by
 cases tk with
 | code c fr s =>
   simp only [Ph,Ut] at h
   cases c with
   | skip=>simp only [EQ] at h;cases h;exact J.skip
   | exit id=>simp only [EQ] at h;cases h;exact J.exit
   | ret=>simp only [EQ] at h;cases h;exact J.ret
   | seq x y =>
     simp only [EQ] at h
     cases h1:r (.code x fr s) with
     | none=>rw [h1] at h;cases h
     | some q =>
       rw [h1] at h
       have i1:=hr _ _ h1
       cases q with
       | code e fr1 s1 =>
         cases e with
         | normal =>
           simp only [Wd] at h
           have i2:=hr _ _ h
           cases rs with
           | code e fr' s'=>exact J.seq i1 i2
           | call r s'=>exact i2.elim
           | tr t fr' s'=>exact i2.elim
         | exit id=>simp only [Wd] at h;cases h;exact J.seqX i1 (by simp)
         | ret=>simp only [Wd] at h;cases h;exact J.seqX i1 (by simp)
         | pan v=>simp only [Wd] at h;cases h;exact J.seqX i1 (by simp)
       | _=>cases h
   | cond q x y =>
     simp only [EQ,Bh] at h
     cases hq:AP G fr q with
     | none=>rw [hq] at h;cases h
     | some v =>
       rw [hq] at h
       cases v with
       | sc u =>
         cases u with
         | bool t =>
           cases t with
           | true =>
             simp only [Vr] at h
             have i2:=hr _ _ h
             cases rs with
             | code e fr' s'=>exact J.cond hq i2
             | call r s'=>exact i2.elim
             | tr t fr' s'=>exact i2.elim
           | false =>
             simp only [Vr] at h
             have i2:=hr _ _ h
             cases rs with
             | code e fr' s'=>exact J.cond hq i2
             | call r s'=>exact i2.elim
             | tr t fr' s'=>exact i2.elim
         | _=>cases h
       | _=>cases h
   | block id c =>
     simp only [EQ] at h
     cases h1:r (.code c fr s) with
     | none=>rw [h1] at h;cases h
     | some q =>
       rw [h1] at h
       cases q with
       | code e fr1 s1=>simp only [TK] at h;cases h;exact J.block (hr _ _ h1)
       | _=>cases h
   | loop c =>
     simp only [EQ] at h
     cases h1:r (.loop c fr s) with
     | none=>rw [h1] at h;cases h
     | some q =>
       rw [h1] at h
       cases q with
       | code e fr1 s1=>simp only [Sr] at h;cases h;exact J.loop (hr _ _ h1)
       | _=>cases h
   | region id ops d =>
     simp only [EQ] at h
     cases d with
     | false =>
       simp only [N6] at h
       cases h1:r (.ops ops ops.toList fr s) with
       | none=>rw [h1] at h;cases h
       | some q =>
         rw [h1] at h
         cases q with
         | code e fr1 s1 =>
           simp only [Sr] at h;cases h
           have:=hr _ _ h1 0 (by simp)
           refine J.region ?_
           rw [Array.length_toList] at this
           rw [List.range_eq_range']
           exact this
         | _=>cases h
     | true =>
       simp only [N6] at h
       cases hord:Hv ops with
       | false=>rw [hord] at h;cases h
       | true =>
         rw [hord] at h
         simp only [iH] at h
         cases hrs:ZQ P ops.toList with
         | none=>rw [hrs] at h;cases h
         | some r0 =>
           rw [hrs] at h
           simp only [gL] at h
           cases h1:r (.draw ops ops.toList fr (s.hold r0) s.nx) with
           | none=>rw [h1] at h;cases h
           | some q =>
             rw [h1] at h
             cases q with
             | tr t fr1 s1 =>
               simp only [gG] at h
               cases hst:Px P G ops t s1 s.nx r0 with
               | false=>rw [hst] at h;cases h
               | true=>rw [hst] at h;simp only at h;cases h;exact eW hord hrs (hr _ _ h1) hst
             | _=>cases h
   | _=>simp only [EQ] at h;cases h
 | loop c fr s =>
   simp only [Ph] at h
   cases h1:r (.code c fr s) with
   | none=>rw [h1] at h;cases h
   | some q =>
     rw [h1] at h
     have i1:=hr _ _ h1
     cases q with
     | code e fr1 s1 =>
       cases e with
       | normal =>
         simp only [QI] at h
         have i2:=hr _ _ h
         cases rs with
         | code e fr' s'=>exact J.loopN i1 i2
         | call r s'=>exact i2.elim
         | tr t fr' s'=>exact i2.elim
       | exit id=>simp only [QI] at h;cases h;exact J.loopX i1 (by simp)
       | ret=>simp only [QI] at h;cases h;exact J.loopX i1 (by simp)
       | pan v=>simp only [QI] at h;cases h;exact J.loopX i1 (by simp)
     | _=>cases h
 | ops ops l fr s =>
   simp only [Ph] at h
   cases l with
   | nil=>simp only [Pm] at h;cases h;intro k _;exact J.opsNil
   | cons o l =>
     simp only [Pm] at h
     cases h1:Mq P G r fr s o (Pk ops fr o.guard) with
     | none=>rw [h1] at h;cases h
     | some q =>
       rw [h1] at h
       have i1:=gV hr h1
       cases q with
       | call c s1 =>
         cases c with
         | ret v =>
           simp only [Yk,XG] at h
           have i2:=hr _ _ h
           cases rs with
           | code e fr' s' =>
             intro k hk
             obtain ⟨hk1,hk2⟩:ops.toList[k]?=some o∧l=ops.toList.drop (k+1):=by
               constructor
               · have:=congrArg (fun x=>x[0]?) hk
                 simpa using this.symm
               · have:=congrArg List.tail hk
                 rw [List.tail_drop] at this
                 exact this
             rw [List.length_cons,List.range'_succ]
             exact J.opsCons (by rw [← Array.getElem?_toList];exact hk1) i1 (i2 (k+1) hk2)
           | call r s'=>exact i2.elim
           | tr t fr' s'=>exact i2.elim
         | pan v =>
           simp only [Yk] at h
           cases h
           intro k hk
           have hk1:ops.toList[k]?=some o:=by
             have:=congrArg (fun x=>x[0]?) hk
             simpa using this.symm
           rw [List.length_cons,List.range'_succ]
           exact J.opsPan (by rw [← Array.getElem?_toList];exact hk1) i1
       | _=>cases h
 | draw ops l fr s q0 =>
   simp only [Ph] at h
   cases l with
   | nil=>simp only [Ms] at h;cases h;exact I5.nil
   | cons o l =>
     simp only [Ms] at h
     cases ha:AY o.op with
     | true =>
       rw [ha] at h
       simp only [TI,Xq] at h
       cases h2:r (.draw ops l (Ho fr o.dst (Gs ops fr o q0)) s (q0+1)) with
       | none=>rw [h2] at h;cases h
       | some q =>
         rw [h2] at h
         cases q with
         | tr t fr1 s2=>simp only [tS] at h;cases h;exact I5.alloc ha (hr _ _ h2)
         | _=>cases h
     | false =>
       rw [ha] at h
       simp only [TI] at h
       cases h1:r (.op ops o fr s) with
       | none=>rw [h1] at h;cases h
       | some q =>
         rw [h1] at h
         cases q with
         | call c s1 =>
           cases c with
           | ret v =>
             simp only [Zt] at h
             cases h2:r (.draw ops l (Ho fr o.dst v) s1 q0) with
             | none=>rw [h2] at h;cases h
             | some q =>
               rw [h2] at h
               cases q with
               | tr t fr1 s2=>simp only [tS] at h;cases h;exact I5.cons ha (hr _ _ h1) (hr _ _ h2)
               | _=>cases h
           | pan v=>cases h
         | _=>cases h
 | op ops o fr s=>exact gV hr h
 | call f args s =>
   simp only [Ph] at h
   cases hx:X f args s with
   | some q=>rw [hx] at h;obtain ⟨c,s1⟩:=q;simp only [bG] at h;cases h;exact J.ext hx
   | none =>
     rw [hx] at h
     simp only [bG] at h
     cases hh:H f args with
     | some q =>
       obtain ⟨g,gargs,k⟩:=q
       rw [hh] at h
       simp only [Y4] at h
       cases h1:r (.call g gargs s) with
       | none=>rw [h1] at h;cases h
       | some q =>
         rw [h1] at h
         cases q with
         | call c s1 =>
           simp only [iA] at h
           cases hk:k c with
           | none=>rw [hk] at h;cases h
           | some c1=>rw [hk] at h;simp only at h;cases h;exact J.hook hh (hr _ _ h1) hk
         | _=>cases h
     | none =>
       rw [hh] at h
       simp only [Y4] at h
       cases hf:P.funcs[f]? with
       | none=>rw [hf] at h;cases h
       | some fn =>
         rw [hf] at h
         simp only [W6] at h
         cases hb:fn.body with
         | none=>rw [hb] at h;cases h
         | some c =>
           rw [hb] at h
           simp only [gW] at h
           cases h1:r (.code c (args++List.replicate (fn.ntmps - args.length) (.sc undef)) s) with
           | none=>rw [h1] at h;cases h
           | some q =>
             rw [h1] at h
             have i1:=hr _ _ h1
             cases q with
             | code e fr1 s1 =>
               cases e with
               | normal =>
                 simp only [Sz] at h
                 cases ha:DP P s1 fn fr1 with
                 | none=>rw [ha] at h;cases h
                 | some v=>rw [ha] at h;simp only [dP] at h;cases h;exact J.body hf hb i1 (.inl rfl) ha (Y8 _ _ _)
               | ret =>
                 simp only [Sz] at h
                 cases ha:DP P s1 fn fr1 with
                 | none=>rw [ha] at h;cases h
                 | some v=>rw [ha] at h;simp only [dP] at h;cases h;exact J.body hf hb i1 (.inr rfl) ha (Y8 _ _ _)
               | pan v=>simp only [Sz] at h;cases h;exact J.bodyP hf hb i1
               | exit id=>simp only [Sz] at h;cases h
             | _=>cases h
theorem nL (n:Nat) (tk:Tk) (rs:Rs) (h:tG P G X H n tk=some rs):Rt P G (XP X) H tk rs:=by
 induction n generalizing tk rs with
 | zero=>cases h
 | succ n ih=>exact Xc ih tk rs h
end
mutual
def plain:AV→Bool
 | .sc _=>true
 | .agg cs=>AW cs
 | .Br cs=>AW cs
 | .sl o _ cs=>(match o with | .row _ _=>false | _=>true)&&AW cs
 | .ifc _ v=>plain v
 | .el cs=>AW cs
 | .fn _ a b=>AW a&&AW b
 | .any=>true
 | _=>false
def AW:List AV→Bool
 | []=>true
 | a::l=>plain a&&AW l
end
mutual
def I6:AV→AV
 | .agg cs=>.agg (LG cs)
 | .Br cs=>.Br (LG cs)
 | .sl o n cs=>.sl (match o with | .row _ _=>.lost | o=>o) n (LG cs)
 | .ifc t v=>.ifc t (I6 v)
 | .el cs=>.el (LG cs)
 | a=>a
def LG:List AV→List AV
 | []=>[]
 | a::l=>I6 a::LG l
end
mutual
def KQ:AV→Bool
 | .sc _=>true
 | .agg cs=>EW cs
 | .Br cs=>EW cs
 | .sl _ _ cs=>EW cs
 | .ifc _ v=>KQ v
 | .el cs=>EW cs
 | .any=>true
 | _=>false
def EW:List AV→Bool
 | []=>true
 | a::l=>KQ a&&EW l
end
section
variable {c c':Cx} {w w':World}
mutual
theorem Rp.plain (hv:∀ g i v,HU c w g i v→HU c' w' g i v):∀ {a:AV} {v:Value},AI.plain a=true→Rp c w a v→Rp c' w' a v:=by
 intro a v hp h
 cases h with
 | sc h1=>exact .sc h1
 | agg h1=>exact .agg (BD.plain hv hp h1)
 | Br h1=>exact .Br (BD.plain hv hp h1)
 | @sl0 own A cap h1 =>
   simp only [AI.plain,Bool.and_eq_true] at hp
   cases own with
   | full=>exact .sl0 h1
   | lost=>exact .sl0 h1
   | row r sz=>cases hp.1
 | @sl1 own n cap g o cs hn h1 ho =>
   simp only [AI.plain,Bool.and_eq_true] at hp
   refine .sl1 hn (AH.plain hv hp.2 h1) ?_
   cases own with
   | full=>exact ho
   | lost=>trivial
   | row r sz=>cases hp.1
 | msl hn h1=>cases hp
 | el h1=>exact .el (AH.plain hv hp h1)
 | ptr h1=>cases hp
 | fn h1 h2 =>
   simp only [AI.plain,Bool.and_eq_true] at hp
   exact .fn (BD.plain hv hp.1 h1) (BD.plain hv hp.2 h2)
 | ifc h1=>exact .ifc (Rp.plain hv hp h1)
 | mp h1=>cases hp
 | any h1=>exact .any h1
theorem BD.plain (hv:∀ g i v,HU c w g i v→HU c' w' g i v):∀ {a:List AV} {v:List Value},AI.AW a=true→BD c w a v→BD c' w' a v:=by
 intro a v hp h
 cases h with
 | nil=>exact .nil
 | cons h1 t =>
   simp only [AI.AW,Bool.and_eq_true] at hp
   exact .cons (Rp.plain hv hp.1 h1) (BD.plain hv hp.2 t)
theorem AH.plain (hv:∀ g i v,HU c w g i v→HU c' w' g i v):∀ {a:List AV} {g o:Nat},AI.AW a=true→AH c w g o a→AH c' w' g o a:=by
 intro a g o hp h
 cases h with
 | nil=>exact .nil
 | cons hvv h1 t =>
   simp only [AI.AW,Bool.and_eq_true] at hp
   exact .cons (hv _ _ _ hvv) (Rp.plain hv hp.1 h1) (AH.plain hv hp.2 t)
end
mutual
theorem Rp.I6 (hv:∀ g i v,HU c w g i v→HU c' w' g i v):∀ {a:AV} {v:Value},KQ a=true→Rp c w a v→Rp c' w' (AI.I6 a) v:=by
 intro a v hp h
 cases h with
 | sc h1=>exact .sc h1
 | agg h1=>exact .agg (BD.I6 hv hp h1)
 | Br h1=>exact .Br (BD.I6 hv hp h1)
 | @sl0 own A cap h1 =>
   cases own with
   | full=>exact .sl0 h1
   | lost=>exact .sl0 h1
   | row r sz=>exact .sl0 trivial
 | @sl1 own n cap g o cs hn h1 ho =>
   have h2:=AH.I6 hv hp h1
   refine .sl1 hn h2 ?_
   cases own with
   | full=>exact ho
   | lost=>trivial
   | row r sz=>trivial
 | msl hn h1=>cases hp
 | el h1=>exact .el (AH.I6 hv hp h1)
 | ptr h1=>cases hp
 | fn h1 h2=>cases hp
 | ifc h1=>exact .ifc (Rp.I6 hv hp h1)
 | mp h1=>cases hp
 | any h1=>exact .any h1
theorem BD.I6 (hv:∀ g i v,HU c w g i v→HU c' w' g i v):∀ {a:List AV} {v:List Value},EW a=true→BD c w a v→BD c' w' (AI.LG a) v:=by
 intro a v hp h
 cases h with
 | nil=>exact .nil
 | cons h1 t =>
   simp only [AI.EW,Bool.and_eq_true] at hp
   exact .cons (Rp.I6 hv hp.1 h1) (BD.I6 hv hp.2 t)
theorem AH.I6 (hv:∀ g i v,HU c w g i v→HU c' w' g i v):∀ {a:List AV} {g o:Nat},EW a=true→AH c w g o a→AH c' w' g o (AI.LG a):=by
 intro a g o hp h
 cases h with
 | nil=>exact .nil
 | cons hvv h1 t =>
   simp only [AI.EW,Bool.and_eq_true] at hp
   exact .cons (hv _ _ _ hvv) (Rp.I6 hv hp.1 h1) (AH.I6 hv hp.2 t)
end
end
def s0:AS:=⟨[],0,[],0⟩
theorem R5 {P:Program} {G:AG} (hG:∀ g cs,G g=some cs→AW cs=true) {f:FuncId} {args:List AV} {v:AV} {s1:AS} (h:Sound P G (.call f args s0 (.ret v) s1)) (hp:AW args=true) (hb:KQ v=true) (s:AS):Sound P G (.call f args s (.ret (I6 v)) s):=by
 intro cx w vs hs hargs
 have hvis:∀ g i x,HU cx w g i x→HU ⟨w.heap.size,[],[],cx.PH⟩ w g i x:=by
   intro g i x hx
   refine ⟨hx.1,fun hsh=>?_,hx.2.2⟩
   rcases hsh with hsh | ⟨r,n,cap,sz,hr,_⟩ | hsh
   · cases hsh
   · simp at hr
   · exact hx.2.1 hsh
 have hst:St G ⟨w.heap.size,[],[],cx.PH⟩ w s0 :=
   ⟨rfl,trivial,(fun i j g h1=>by simp at h1),(fun g hg=>by cases hg),(fun id g b h1=>by simp at h1),rfl,(fun r g n cap sz hr=>by simp at hr),(fun r n hr=>by cases hr),(fun g hg=>by cases hg),(fun g i hb=>hs.Lr hb),(fun r r' g n cap sz n' cap' sz' hr=>by simp at hr),(fun g cs hg=>AH.plain hvis (hG g cs hg) (hs.glob g cs hg)),Nat.le_refl _⟩
 refine (h _ w vs hst (BD.plain hvis hp hargs)).mono ?_
 rintro e w' ⟨c',hx,_,u,rfl,hu⟩
 have hbel:=hx.below
 obtain ⟨x2,st2⟩:=hs.same (w':=w') ⟨hbel.os,hbel.tape,hbel.output,hbel.size,fun k hk _=>hbel.block k hk⟩
 refine ⟨cx,x2,st2,u,rfl,Rp.I6 (fun g i x hv=>⟨hv.1,fun hsh=>hv.2.1 (.inr (.inr ?_)),hv.2.2⟩) hb hu⟩
 rw [hx.bad]
 exact hsh
theorem Tg {P:Program} {G:AG} (hG:∀ g cs,G g=some cs→AW cs=true) {f:FuncId} {args cs cs':List AV} {v:AV} {s1:AS} (h:Sound P G (.call f (.ptr 0 0::args) ⟨[(0,.cells cs)],1,[],0⟩ (.ret v) s1)) (hs1:s1.get 0=some (.cells cs')) (hp:AW args=true) (hcs:AW cs=true) (hb:KQ v=true) (hb':EW cs'=true) (s:AS) (id:Nat) (hid:s.get id=some (.cells cs)) :
   Sound P G (.call f (.ptr id 0::args) s (.ret (I6 v)) (s.put id (.cells (LG cs')))):=by
 intro cx w vs hs hargs
 cases hargs with
 | @cons _ pv _ avs hptr hrest =>
   cases hptr with
   | @ptr _ _ g hphi =>
     have hgm:some g∈cx.Bw:=List.mem_of_getElem? hphi
     have hvis:∀ k i x,HU cx w k i x→HU ⟨0,[some g],[],fun k i=>k≠g∧cx.PH k i⟩ w k i x:=by
       intro k i x hx
       refine ⟨hx.1,fun hsh=>?_,hx.2.2⟩
       rcases hsh with hsh | ⟨r,n,cap,sz,hr,_⟩ | hsh
       · have:k=g:=by simpa using hsh
         subst this
         exact hx.2.1 (.inl hgm)
       · simp at hr
       · exact hx.2.1 hsh.2
     obtain ⟨us,T,hw,hur⟩:=Jj hs hphi hid
     have hst:St G ⟨0,[some g],[],fun k i=>k≠g∧cx.PH k i⟩ w ⟨[(0,.cells cs)],1,[],0⟩:=by
       refine ⟨rfl,⟨by simp,trivial⟩,(fun i j g' h1 h2=>by have e1:=(List.getElem?_eq_some_iff.1 h1).1;have e2:=(List.getElem?_eq_some_iff.1 h2).1;simp at e1 e2;omega),(fun g hg=>Nat.zero_le _),(fun id' g' b h1 h2=>?_),rfl,(fun r g n cap sz hr=>by simp at hr),(fun r n hr=>by cases hr),(fun g' hg=>?_),(fun k i hb=>hs.Lr hb.2),(fun r r' g n cap sz n' cap' sz' hr=>by simp at hr),(fun g cs hg=>AH.plain hvis (hG g cs hg) (hs.glob g cs hg)),Nat.zero_le _⟩
       · simp only [AS.get,look] at h2
         split at h2
         · rename_i hb'
           cases h2
           have:=(beq_true hb').symm
           subst this
           simp at h1
           subst h1
           exact ⟨_,hw,.cells (BD.plain hvis hcs hur)⟩
         · cases h2
       · have:g'=g:=by simpa using hg
         subst this
         exact hs.GN hgm
     refine (h _ w _ hst (.cons (.ptr rfl) (BD.plain hvis hp hrest))).mono ?_
     rintro e w' ⟨c',hx,hst',u,rfl,hu⟩
     have hphi':c'.Bw[0]?=some (some g):=hx.get (c:=⟨0,[some g],[],fun k i=>k≠g∧cx.PH k i⟩) rfl
     obtain ⟨us',T',hw',hur'⟩:=Jj hst' hphi' hs1
     have hvis':∀ k i x,HU c' w' k i x→HU cx w' k i x:=by
       intro k i x hv
       refine ⟨hv.1,fun hsh=>?_,hv.2.2⟩
       by_cases hk:k=g
       · subst hk;exact hv.2.1 (.inl (List.mem_of_getElem? hphi'))
       · refine hv.2.1 (.inr (.inr ?_))
         rw [hx.bad]
         exact ⟨hk,hsh⟩
     have hbel:=hx.below
     have hchg:MG w w' (fun x=>x=g):=⟨hbel.os,hbel.tape,hbel.output,hbel.size,fun k hk hne=>hx.M4 k hk (by simpa using hne) (fun r n cap sz=>by simp)⟩
     obtain ⟨x2,st2⟩:=hs.uR hphi hchg hw' (DM.cells (BD.I6 hvis' hb' hur'))
     exact ⟨cx,x2,st2,u,rfl,Rp.I6 hvis' hb hu⟩
end AI
namespace AI
open Go Go.RowKit
mutual
def under (n m:Nat):AV→Bool
 | .sc _=>true
 | .agg cs=>CH n m cs
 | .Br cs=>CH n m cs
 | .sl o _ cs=>(match o with | .row r _=>decide (r < m) | _=>true)&&CH n m cs
 | .msl id _ _=>decide (id < n)
 | .el cs=>CH n m cs
 | .ptr id _=>decide (id < n)
 | .fn _ a b=>CH n m a&&CH n m b
 | .ifc _ v=>under n m v
 | .mp id=>decide (id < n)
 | .any=>true
def CH (n m:Nat):List AV→Bool
 | []=>true
 | a::l=>under n m a&&CH n m l
end
mutual
theorem IK (n m:Nat):∀ {a:AV},plain a=true→under n m a=true
 | .sc _,_=>rfl
 | .agg cs,h=>by simp only [plain] at h;simp only [under];exact Cp n m h
 | .Br cs,h=>by simp only [plain] at h;simp only [under];exact Cp n m h
 | .sl o k cs,h=>by
   simp only [plain,Bool.and_eq_true] at h
   simp only [under,Bool.and_eq_true]
   refine ⟨?_,Cp n m h.2⟩
   cases o with
   | row r sz=>cases h.1
   | _=>rfl
 | .msl _ _ _,h=>by cases h
 | .el cs,h=>by simp only [plain] at h;simp only [under];exact Cp n m h
 | .ptr _ _,h=>by cases h
 | .fn _ a b,h=>by
   simp only [plain,Bool.and_eq_true] at h
   simp only [under,Bool.and_eq_true]
   exact ⟨Cp n m h.1,Cp n m h.2⟩
 | .ifc _ v,h=>by simp only [plain] at h;simp only [under];exact IK n m h
 | .mp _,h=>by cases h
 | .any,_=>rfl
theorem Cp (n m:Nat):∀ {l:List AV},AW l=true→CH n m l=true
 | [],_=>rfl
 | a::l,h=>by
   simp only [AW,Bool.and_eq_true] at h
   simp only [CH,Bool.and_eq_true]
   exact ⟨IK n m h.1,Cp n m h.2⟩
end
def Cx.upto (c:Cx) (n m:Nat):Cx:=⟨c.base,c.Bw.take n,c.rows.take m,c.bad⟩
theorem CM {α:Type} {l:List α} {n i:Nat} {x:α} (h:(l.take n)[i]?=some x):l[i]?=some x∧i < n:=by
 rw [List.getElem?_take] at h
 split at h
 · rename_i hi;exact ⟨h,hi⟩
 · cases h
theorem Js {α:Type} {l:List α} {n i:Nat} {x:α} (h:l[i]?=some x) (hi:i < n):(l.take n)[i]?=some x:=by
 rw [List.getElem?_take,if_pos hi];exact h
section
variable {c:Cx} {w:World} {n m:Nat}
theorem X1 {g i:Nat} (h:(c.upto n m).PH g i):c.PH g i:=by
 rcases h with h | ⟨r,n,cap,sz,hr,h⟩ | h
 · exact .inl (List.mem_of_mem_take h)
 · exact .inr (.inl ⟨r,n,cap,sz,(CM hr).1,h⟩)
 · exact .inr (.inr h)
theorem Mv {g i:Nat} {v:Value} (h:HU c w g i v):HU (c.upto n m) w g i v:=⟨h.1,fun hs=>h.2.1 (X1 hs),h.2.2⟩
mutual
theorem Rp.upto:∀ {a:AV} {v:Value},under n m a=true→Rp c w a v→Rp (c.upto n m) w a v:=by
 intro a v hp h
 cases h with
 | sc h1=>exact .sc h1
 | agg h1=>exact .agg (BD.upto hp h1)
 | Br h1=>exact .Br (BD.upto hp h1)
 | @sl0 own A cap h1 =>
   simp only [AI.under,Bool.and_eq_true] at hp
   cases own with
   | full=>exact .sl0 h1
   | lost=>exact .sl0 trivial
   | row r sz =>
     have hr:r < m:=of_decide_eq_true hp.1
     refine .sl0 ⟨h1.1,?_⟩
     have:=h1.2
     simp only [Cx.upto,List.length_take]
     omega
 | @sl1 own k cap g o cs hn h1 ho =>
   simp only [AI.under,Bool.and_eq_true] at hp
   refine .sl1 hn (AH.upto hp.2 h1) ?_
   cases own with
   | full=>exact ho
   | lost=>trivial
   | row r sz =>
     have hr:r < m:=of_decide_eq_true hp.1
     refine ⟨ho.1,ho.2.1,?_,fun e=>ho.2.2.2.1 (CM e).1,fun g' n' c' s' e=>ho.2.2.2.2 g' n' c' s' (CM e).1⟩
     have:=ho.2.2.1
     simp only [Cx.upto,List.length_take]
     omega
 | msl hn h1=>exact .msl hn (Js h1 (of_decide_eq_true hp))
 | el h1=>exact .el (AH.upto hp h1)
 | ptr h1=>exact .ptr (Js h1 (of_decide_eq_true hp))
 | fn h1 h2 =>
   simp only [AI.under,Bool.and_eq_true] at hp
   exact .fn (BD.upto hp.1 h1) (BD.upto hp.2 h2)
 | ifc h1=>exact .ifc (Rp.upto hp h1)
 | mp h1=>exact .mp (Js h1 (of_decide_eq_true hp))
 | any h1=>exact .any h1
theorem BD.upto:∀ {a:List AV} {v:List Value},CH n m a=true→BD c w a v→BD (c.upto n m) w a v:=by
 intro a v hp h
 cases h with
 | nil=>exact .nil
 | cons h1 t =>
   simp only [AI.CH,Bool.and_eq_true] at hp
   exact .cons (Rp.upto hp.1 h1) (BD.upto hp.2 t)
theorem AH.upto:∀ {a:List AV} {g o:Nat},CH n m a=true→AH c w g o a→AH (c.upto n m) w g o a:=by
 intro a g o hp h
 cases h with
 | nil=>exact .nil
 | cons hvv h1 t =>
   simp only [AI.CH,Bool.and_eq_true] at hp
   exact .cons (Mv hvv) (Rp.upto hp.1 h1) (AH.upto hp.2 t)
end
end
def Mn:AV→Bool
 | .sc v=>N1 v
 | _=>true
theorem Lq {c:Cx} {w:World} {a:AV} {v:Value} (h:Rp c w a v) (hd:Mn a=true):N1 v=true:=by
 cases h<;>first | rfl | exact hd | assumption | (cases hd;done)
def T5:AV→AV
 | .sl _ n cs=>.sl .lost n cs
 | a=>a
inductive Fg (n m:Nat):List AV→List AV→Prop where
 | nil:Fg n m [] []
 | M4 {a:AV} {l k:List AV} (h:under n m a=true) (t:Fg n m l k):Fg n m (a::l) (a::k)
 | drop {a:AV} {l k:List AV} (h:Mn a=true) (t:Fg n m l k):Fg n m (a::l) (.any::k)
 | lost {o:Own} {j:Nat} {cs l k:List AV} (h:CH n m cs=true) (t:Fg n m l k):Fg n m (.sl o j cs::l) (.sl .lost j cs::k)
theorem Fg.ok {n m:Nat} {l k:List AV} (h:Fg n m l k) {c:Cx} {w:World} {vs:List Value} (hr:BD c w l vs):BD (c.upto n m) w k vs:=by
 induction h generalizing vs with
 | nil=>cases hr;exact .nil
 | M4 h _ ih=>cases hr with | cons h1 t=>exact .cons (h1.upto h) (ih t)
 | drop h _ ih=>cases hr with | cons h1 t=>exact .cons (.any (Lq h1 h)) (ih t)
 | @lost o j cs l k h _ ih =>
   cases hr with
   | cons h1 t =>
     refine .cons ?_ (ih t)
     cases h1 with
     | sl0 _=>exact .sl0 trivial
     | sl1 hn hc ho=>exact .sl1 hn (hc.upto h) trivial
def Mu (n m:Nat):List (Value×AV×Nat)→Bool
 | []=>true
 | e::l=>under n m e.2.1&&Mu n m l
def Re (n m:Nat):AF→Bool
 | .cells cs=>CH n m cs
 | .map es _=>Mu n m es
theorem FV.upto {c:Cx} {w:World} {n m:Nat}:∀ {es:List (Value×AV×Nat)} {fs:List MapEntry},Mu n m es=true→FV c w es fs→FV (c.upto n m) w es fs:=by
 intro es
 induction es with
 | nil=>intro fs _ h;cases h;exact .nil
 | cons e es ih =>
   intro fs hu h
   obtain ⟨x,a,b⟩:=e
   simp only [Mu,Bool.and_eq_true] at hu
   cases h with | cons h1 t=>exact .cons (h1.upto hu.1) (ih hu.2 t)
theorem DM.upto {c:Cx} {w:World} {n m:Nat} {b:AF} {o:Obj} (hb:Re n m b=true) (h:DM c w b o):DM (c.upto n m) w b o:=by
 cases h with
 | cells h1=>exact .cells (h1.upto hb)
 | map h1=>exact .map (h1.upto hb)
def Fits (n m:Nat) (a b:AV):Prop:=∀ (c:Cx) (w:World) (v:Value),Rp c w a v→Rp (c.upto n m) w b v
def Fu (n m:Nat) (a b:List AV):Prop:=∀ (c:Cx) (w:World) (v:List Value),BD c w a v→BD (c.upto n m) w b v
def K5 (n m:Nat) (a b:List AV):Prop:=∀ (c:Cx) (w:World) (g o:Nat),AH c w g o a→AH (c.upto n m) w g o b
def Jn (n m:Nat) (a b:AF):Prop:=∀ (c:Cx) (w:World) (o:Obj),DM c w a o→DM (c.upto n m) w b o
theorem Fits.under {n m:Nat} {a:AV} (h:AI.under n m a=true):Fits n m a a:=fun _ _ _ hr=>hr.upto h
theorem Fu.under {n m:Nat} {a:List AV} (h:AI.CH n m a=true):Fu n m a a:=fun _ _ _ hr=>hr.upto h
theorem K5.under {n m:Nat} {a:List AV} (h:AI.CH n m a=true):K5 n m a a:=fun _ _ _ _ hr=>hr.upto h
theorem Jn.under {n m:Nat} {b:AF} (h:Re n m b=true):Jn n m b b:=fun _ _ _ hr=>hr.upto h
theorem Fits.plain {n m:Nat} {a:AV} (h:AI.plain a=true):Fits n m a a:=.under (IK n m h)
theorem Fu.plain {n m:Nat} {a:List AV} (h:AW a=true):Fu n m a a:=.under (Cp n m h)
theorem K5.plain {n m:Nat} {a:List AV} (h:AW a=true):K5 n m a a:=.under (Cp n m h)
theorem Fits.sc {n m:Nat} {v:Value}:Fits n m (.sc v) (.sc v):=.under rfl
theorem Fits.drop {n m:Nat} {a:AV} (h:Mn a=true):Fits n m a .any:=fun _ _ _ hr=>.any (Lq hr h)
theorem Fits.agg {n m:Nat} {a b:List AV} (h:Fu n m a b):Fits n m (.agg a) (.agg b):=fun _ _ _ hr=>by cases hr with | agg h1=>exact .agg (h _ _ _ h1)
theorem Fits.Br {n m:Nat} {a b:List AV} (h:Fu n m a b):Fits n m (.Br a) (.Br b):=fun _ _ _ hr=>by cases hr with | Br h1=>exact .Br (h _ _ _ h1)
theorem Fits.lost {n m:Nat} {o:Own} {k:Nat} {a b:List AV} (h:K5 n m a b) (e:a=[]→b=[]):Fits n m (.sl o k a) (.sl .lost k b):=fun _ _ _ hr=>by
 cases hr with
 | sl0 _=>rw [e rfl];exact .sl0 trivial
 | sl1 hn hc ho=>exact .sl1 hn (h _ _ _ _ hc) trivial
theorem Fu.nil {n m:Nat}:Fu n m [] []:=fun _ _ _ hr=>by cases hr;exact .nil
theorem Fu.cons {n m:Nat} {a b:AV} {l k:List AV} (h:Fits n m a b) (t:Fu n m l k):Fu n m (a::l) (b::k):=fun _ _ _ hr=>by cases hr with | cons h1 t1=>exact .cons (h _ _ _ h1) (t _ _ _ t1)
theorem K5.nil {n m:Nat}:K5 n m [] []:=fun _ _ _ _ hr=>by cases hr;exact .nil
theorem K5.cons {n m:Nat} {a b:AV} {l k:List AV} (h:Fits n m a b) (t:K5 n m l k):K5 n m (a::l) (b::k):=fun _ _ _ _ hr=>by cases hr with | cons hv h1 t1=>exact .cons (Mv hv) (h _ _ _ h1) (t _ _ _ _ t1)
theorem Jn.cells {n m:Nat} {a b:List AV} (h:Fu n m a b):Jn n m (.cells a) (.cells b):=fun _ _ _ hr=>by cases hr with | cells h1=>exact .cells (h _ _ _ h1)
theorem bK {G:AG} (hG:∀ g cs,G g=some cs→AW cs=true) {s s' s2:AS} {fr' fr2:List AV} (hn:s2.nx=s.nx) (hr:s2.nr=s.nr)
   (hd:E5 s2.h s2.nx) (hbox:∀ id b,look id s2.h=some b→∃ b',look id s'.h=some b'∧Jn s.nx s.nr b' b) (hF:∀ r n,Cf r s2.F=some n→Cf r s'.F=some n∧r < s.nr)
   (hf:Fu s.nx s.nr fr' fr2) (cx:Cx) (w:World) (c':Cx) (w':World) (vs:List Value) (hx:Ext cx w c' w') (hs:St G cx w s) (hs':St G c' w' s') (hfr:BD c' w' fr' vs) :
   ∃ c2,Ext cx w c2 w'∧St G c2 w' s2∧BD c2 w' fr2 vs:=by
 have hphi:c'.Bw.take s.nx=cx.Bw:=by
   obtain ⟨t,ht⟩:=hx.Bw
   rw [← ht,hs.len,List.take_left]
 have hrl:(c'.rows.take s.nr).length=cx.rows.length:=by
   have:=hx.rlen
   rw [List.length_take,hs.rlen];omega
 refine ⟨c'.upto s.nx s.nr,⟨?_,?_,fun r x hr' h=>?_,fun g i v hv=>Mv (hx.vis g i v hv),hx.below,hx.base,hx.bad,fun g hg=>hx.pnew g (List.mem_of_mem_take hg),fun r g n cap sz h=>hx.rnew r g n cap sz (CM h).1,hx.M4⟩,?_,hf _ _ _ hfr⟩
 · show cx.Bw <+: c'.Bw.take s.nx
   rw [hphi]
   exact List.prefix_refl _
 · show cx.rows.length≤(c'.rows.take s.nr).length
   omega
 · exact hx.rows r x hr' (CM h).1
 · refine ⟨?_,hd,fun i j g h1 h2=>hs'.nodup i j g (CM h1).1 (CM h2).1,fun g hg=>hs'.low g (List.mem_of_mem_take hg),fun id g b h1 h2=>?_,?_,fun r g n cap sz h=>?_,fun r n h=>?_,fun g hg=>hs'.plow g (List.mem_of_mem_take hg),hs'.blow,fun r r' g n cap sz n' cap' sz' h h'=>hs'.rdist r r' g n cap sz n' cap' sz' (CM h).1 (CM h').1,fun g cs hg=>(hs'.glob g cs hg).upto (Cp _ _ (hG g cs hg)),hs'.bsz⟩
   · show s2.nx=(c'.Bw.take s.nx).length
     rw [hphi,hn,hs.len]
   · obtain ⟨b',h3,h4⟩:=hbox id b h2
     obtain ⟨o,ho,hb⟩:=hs'.box id g b' (CM h1).1 h3
     exact ⟨o,ho,h4 _ _ _ hb⟩
   · show s2.nr=(c'.rows.take s.nr).length
     rw [hrl,hr,hs.rlen]
   · obtain ⟨a1,a2,a3,a4⟩:=hs'.row r g n cap sz (CM h).1
     exact ⟨a1,a2,fun hm=>a3 (List.mem_of_mem_take hm),a4⟩
   · obtain ⟨h1,h2⟩:=hF r n h
     rcases hs'.rfree r n h1 with ⟨h3,h4⟩ | ⟨g,cap,sz,h3⟩
     · exact .inl ⟨Js h3 h2,h4⟩
     · exact .inr ⟨g,cap,sz,Js h3 h2⟩
end AI
namespace AI
open Go Go.RowKit
section
variable {P:Program} {G:AG} {X:Lk} {H:Jh}
def W (P:Program) (G:AG) (X:Lk) (H:Jh) (c:Code) (fr:List AV) (s:AS) (Q:AX→List AV→AS→Prop):Prop:=∃ e fr' s',J P G X H (.code c fr s e fr' s')∧Q e fr' s'
def WL (P:Program) (G:AG) (X:Lk) (H:Jh) (c:Code) (fr:List AV) (s:AS) (Q:AX→List AV→AS→Prop):Prop:=∃ e fr' s',J P G X H (.loop c fr s e fr' s')∧Q e fr' s'
def WC (P:Program) (G:AG) (X:Lk) (H:Jh) (f:FuncId) (args:List AV) (s:AS) (Q:CR→AS→Prop):Prop:=∃ r s',J P G X H (.call f args s r s')∧Q r s'
def gJ (P:Program) (G:AG) (X:Lk) (H:Jh) (y:Code) (Q:AX→List AV→AS→Prop):AX→List AV→AS→Prop
 | .normal,fr,s=>W P G X H y fr s Q
 | e,fr,s=>Q e fr s
def CK (id:Nat) (Q:AX→List AV→AS→Prop):AX→List AV→AS→Prop:=fun e fr s=>Q (DU id e) fr s
def Md (P:Program) (fn:Func) (n:Nat) (Q:CR→AS→Prop):AX→List AV→AS→Prop
 | .normal,fr,s=>∃ v,DP P s fn fr=some v∧Q (.ret v) (s.cut n)
 | .ret,fr,s=>∃ v,DP P s fn fr=some v∧Q (.ret v) (s.cut n)
 | .pan v,_,s=>Q (.pan v) (s.cut n)
 | _,_,_=>False
theorem W.mono {c:Code} {fr:List AV} {s:AS} {Q R:AX→List AV→AS→Prop} (h:W P G X H c fr s Q) (k:∀ e fr s,Q e fr s→R e fr s):W P G X H c fr s R:=by
 obtain ⟨e,fr',s',h1,h2⟩:=h
 exact ⟨e,fr',s',h1,k _ _ _ h2⟩
theorem WC.mono {f:FuncId} {args:List AV} {s:AS} {Q R:CR→AS→Prop} (h:WC P G X H f args s Q) (k:∀ r s,Q r s→R r s):WC P G X H f args s R:=by
 obtain ⟨r,s',h1,h2⟩:=h
 exact ⟨r,s',h1,k _ _ h2⟩
theorem qG {x y:Code} {fr:List AV} {s:AS} {Q:AX→List AV→AS→Prop} (h:W P G X H x fr s (gJ P G X H y Q)):W P G X H (.seq x y) fr s Q:=by
 obtain ⟨e,fr1,s1,h1,h2⟩:=h
 cases e with
 | normal =>
   obtain ⟨e2,fr2,s2,h3,h4⟩:=h2
   exact ⟨e2,fr2,s2,.seq h1 h3,h4⟩
 | exit id=>exact ⟨_,_,_,.seqX h1 (by simp),h2⟩
 | ret=>exact ⟨_,_,_,.seqX h1 (by simp),h2⟩
 | pan v=>exact ⟨_,_,_,.seqX h1 (by simp),h2⟩
theorem fL {q:Operand} {x y:Code} {fr:List AV} {s:AS} {Q:AX→List AV→AS→Prop} (hq:AP G fr q=some (.sc (.bool true))) (h:W P G X H x fr s Q):W P G X H (.cond q x y) fr s Q:=by
 obtain ⟨e,fr1,s1,h1,h2⟩:=h
 exact ⟨e,fr1,s1,.cond hq h1,h2⟩
theorem bV {q:Operand} {x y:Code} {fr:List AV} {s:AS} {Q:AX→List AV→AS→Prop} (hq:AP G fr q=some (.sc (.bool false))) (h:W P G X H y fr s Q):W P G X H (.cond q x y) fr s Q:=by
 obtain ⟨e,fr1,s1,h1,h2⟩:=h
 exact ⟨e,fr1,s1,.cond hq h1,h2⟩
theorem U9 {id:Nat} {c:Code} {fr:List AV} {s:AS} {Q:AX→List AV→AS→Prop} (h:W P G X H c fr s (CK id Q)):W P G X H (.block id c) fr s Q:=by
 obtain ⟨e,fr1,s1,h1,h2⟩:=h
 exact ⟨_,fr1,s1,.block h1,h2⟩
theorem nS {c:Code} {fr:List AV} {s:AS} {Q:AX→List AV→AS→Prop} (h:WL P G X H c fr s Q):W P G X H (.loop c) fr s Q:=by
 obtain ⟨e,fr1,s1,h1,h2⟩:=h
 exact ⟨_,fr1,s1,.loop h1,h2⟩
theorem drop_cons {α:Type} {o:α} {l m:List α} {k:Nat} (h:o::l=m.drop k):m[k]?=some o∧l=m.drop (k+1):=by
 constructor
 · have:=congrArg (fun x=>x[0]?) h
   simpa using this.symm
 · have:=congrArg List.tail h
   rw [List.tail_drop] at this
   exact this
theorem AJ {f:FuncId} {fn:Func} {c:Code} {args:List AV} {s:AS} {Q:CR→AS→Prop} (hf:P.funcs[f]?=some fn) (hb:fn.body=some c) (h:W P G X H c (args++List.replicate (fn.ntmps - args.length) (.sc undef)) s (Md P fn s.nx Q)):WC P G X H f args s Q:=by
 obtain ⟨e,fr1,s1,h1,h2⟩:=h
 cases e with
 | normal=>obtain ⟨v,h3,h4⟩:=h2;exact ⟨_,_,.body hf hb h1 (.inl rfl) h3 (.inl rfl),h4⟩
 | ret=>obtain ⟨v,h3,h4⟩:=h2;exact ⟨_,_,.body hf hb h1 (.inr rfl) h3 (.inl rfl),h4⟩
 | pan v=>exact ⟨_,_,.bodyP hf hb h1,h2⟩
 | exit id=>exact h2.elim
end
end AI
