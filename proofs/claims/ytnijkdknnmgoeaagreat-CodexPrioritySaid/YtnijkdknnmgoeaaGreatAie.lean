/- The same runs in small steps, for the kernel. -/
import Derived.Test.YtnijkdknnmgoeaaGreatAid
namespace AI
open Go Go.RowKit

def nth : List AV → Nat → AV
  | [], _ => .sc undef
  | a :: _, 0 => a
  | _ :: l, n + 1 => nth l n
theorem nth_eq (l : List AV) (n : Nat) : nth l n = l.getD n (.sc undef) := by
  induction l generalizing n with
  | nil => simp [nth]
  | cons a l ih => cases n <;> simp [nth, ih]
def evG : Option (List AV) → Option AV
  | some cs => some (.el cs)
  | none => none
def aevalF (G : Glob) (fr : List AV) : Operand → Option AV
  | .tmp t => some (nth fr t)
  | .const v => ofVal v
  | .global g => evG (G g)
  | .func f => some (.fn (.func f) [] [])
theorem aevalF_eq (G : Glob) (fr : List AV) (x : Operand) : aevalF G fr x = aeval G fr x := by
  cases x with
  | tmp t => simp only [aevalF, aeval, nth_eq]
  | const v => rfl
  | global g => simp only [aevalF, aeval]; cases G g <;> rfl
  | func f => rfl
def val1 (s : AS) : Option AV → Option AR
  | some v => some (.val v s)
  | none => none
theorem val1_eq (s : AS) (o : Option AV) : val1 s o = o.map (fun v => .val v s) := by cases o <;> rfl
def valU : Option AS → Option AR
  | some s => some (.val (.sc undef) s)
  | none => none
theorem valU_eq (o : Option AS) : valU o = o.map (fun s => .val (.sc undef) s) := by cases o <;> rfl
def valP : Option (AV × AS) → Option AR
  | some r => some (.val r.1 r.2)
  | none => none
theorem valP_eq (o : Option (AV × AS)) : valP o = o.map (fun r => .val r.1 r.2) := by cases o <;> rfl
def bnd {α β : Type} (o : Option α) (f : α → Option β) : Option β := match o with
  | some a => f a
  | none => none
theorem bnd_eq {α β : Type} (o : Option α) (f : α → Option β) : bnd o f = o.bind f := by cases o <;> rfl
def two {β : Type} (a b : Option AV) (f : AV → AV → Option β) : Option β := match a with
  | some x => (match b with
    | some y => f x y
    | none => none)
  | none => none
def three {β : Type} (a b d : Option AV) (f : AV → AV → AV → Option β) : Option β := match a with
  | some x => (match b with
    | some y => (match d with
      | some z => f x y z
      | none => none)
    | none => none)
  | none => none
def pick1 (x y : Option AV) : Option AV → Option AV
  | some (.sc (.bool t)) => (match t with | true => x | false => y)
  | _ => none
def newBox (s : AS) : Option AV → Option AR
  | some z => some (.val (.ptr s.nx 0) (s.new (.cells (cellsOf z))))
  | none => none
def check1 (s : AS) : Option AV → Option AR
  | some v => (match notNil v with | true => some (.val v s) | false => none)
  | none => none
def iface1 (t : TypeId) (s : AS) (v : Option AV) : Option TypeDesc → Option AR
  | some d => (match v with
    | some v => (match isIface d with | true => none | false => some (.val (.ifc t v) s))
    | none => none)
  | none => none
def func1 (f : Fn) (s : AS) (b : Option (List AV)) : Option (List AV) → Option AR
  | some a => (match b with
    | some b => some (.val (.fn f a b) s)
    | none => none)
  | none => none
def slice1 (P : Program) (s : AS) (t : TypeId) (l h m : Option (Option AV)) : Option AV → Option AR
  | some a => (match l with
    | some l => (match h with
      | some h => (match m with
        | some m => val1 s (aslice P t a l h m)
        | none => none)
      | none => none)
    | none => none)
  | none => none
def pan1 : Option AV → Option AR
  | some (.ifc t v) => some (.pan (.ifc t v))
  | _ => none
def ent1 (P : Program) (as : Option (List AV)) : Option AV → Option AR
  | some (.fn (.func g) first caps) => (match as with
    | some as => (match callable P g with | true => some (.ent g (first ++ as ++ caps)) | false => none)
    | none => none)
  | _ => none
def len1 (P : Program) (G : Glob) (fr : List AV) (s : AS) : List Operand → List TypeId → Option AR
  | [x], [t] => val1 s (bnd (aevalF G fr x) (alen P s t))
  | _, _ => none
def app1 (P : Program) (G : Glob) (fr : List AV) (s : AS) : List Operand → List TypeId → Option AR
  | [x, y], [t, tx] => valP (two (aevalF G fr x) (aevalF G fr y) (aappend P s t tx))
  | _, _ => none
def pure1 (P : Program) (s : AS) (f : List Value → Sem Value) : Option (List Value) → Option AR
  | some vs => val1 s (apure P (f vs))
  | none => none
def pure2 (P : Program) (s : AS) (f : Value → Sem Value) : Option Value → Option AR
  | some v => val1 s (apure P (f v))
  | none => none
def builtin1 (P : Program) (G : Glob) (fr : List AV) (s : AS) (o : Oper) (cl : Call) : Builtin → Option AR
  | .len => len1 P G fr s cl.args.toList cl.argTypes.toList
  | .append => app1 P G fr s cl.args.toList cl.argTypes.toList
  | .max => pure1 P s (fun vs => Builtin.max_ cl.argTypes o.type vs.toArray) (bnd (evs G fr cl.args.toList) toScs)
  | .min => pure1 P s (fun vs => Builtin.min_ cl.argTypes o.type vs.toArray) (bnd (evs G fr cl.args.toList) toScs)
  | _ => none
def acallF (P : Program) (G : Glob) (fr : List AV) (s : AS) (o : Oper) (cl : Call) : Option AR :=
  match cl.callee with
  | .builtin b => builtin1 P G fr s o cl b
  | .value f => ent1 P (evs G fr cl.args.toList) (aevalF G fr f)
  | _ => none
def makeMap1 (s : AS) : Option Operand → Option AR
  | none => some (.val (.mp s.nx) (s.new (.map [] 0)))
  | some _ => none
def aopF (P : Program) (G : Glob) (fr : List AV) (s : AS) (o : Oper) : Option AR :=
  match o.op with
  | .move x => val1 s (aevalF G fr x)
  | .assign x => val1 s (aevalF G fr x)
  | .pick c a b => val1 s (pick1 (aevalF G fr a) (aevalF G fr b) (aevalF G fr c))
  | .alloc e => newBox s (azero P e)
  | .box _ x => newBox s (aevalF G fr x)
  | .build t ps => val1 s (bnd (evParts G fr ps.toList) (abuild P t))
  | .buildSlice t n ps => val1 s (bnd (evParts G fr ps.toList) (abuildSlice P t n))
  | .load t a => val1 s (bnd (aevalF G fr a) (aload P s t))
  | .store t a x => valU (two (aevalF G fr a) (aevalF G fr x) (astore P s t))
  | .nilCheck x => check1 s (aevalF G fr x)
  | .binOp op t x y _ => val1 s (two (aevalF G fr x) (aevalF G fr y) (abinF P op t x y))
  | .unOp op _ x => pure2 P s (Op.unary op) (bnd (aevalF G fr x) toSc)
  | .convert src dst x => pure2 P s (convert src dst) (bnd (aevalF G fr x) toSc)
  | .makeInterface t x => iface1 t s (aevalF G fr x) (P.underlying t)
  | .makeFunc f first caps => func1 f s (evs G fr caps.toList) (evs G fr first.toList)
  | .makeMap _ r => makeMap1 s r
  | .makeSlice t l c => valP (two (aevalF G fr l) (aevalF G fr c) (amakeSlice P s t))
  | .slice t x lo hi mx => slice1 P s t (evo G fr lo) (evo G fr hi) (evo G fr mx) (aevalF G fr x)
  | .fieldAddr t x k => val1 s (bnd (aevalF G fr x) fun a => afieldAt P t a k)
  | .field t x k => val1 s (bnd (aevalF G fr x) fun a => afield P t a k)
  | .indexAddr t x i => val1 s (two (aevalF G fr x) (aevalF G fr i) (aindexAt P t))
  | .index t x i => val1 s (two (aevalF G fr x) (aevalF G fr i) (aindexF P t))
  | .lookup t x k ok => val1 s (two (aevalF G fr x) (aevalF G fr k) fun a b => alookup P s t a b ok)
  | .mapUpdate t m k x => valU (three (aevalF G fr m) (aevalF G fr k) (aevalF G fr x) (amapSet P s t))
  | .insert t m k x => valU (three (aevalF G fr m) (aevalF G fr k) (aevalF G fr x) (amapSet P s t))
  | .mapEntry t m k => valP (two (aevalF G fr m) (aevalF G fr k) (amapEntry P s t))
  | .entryStore _ m st x => valU (three (aevalF G fr m) (aevalF G fr st) (aevalF G fr x) (aentryStore s))
  | .extract x k => val1 s (bnd (aevalF G fr x) fun a => aextract a k)
  | .call cl => acallF P G fr s o cl
  | .panic x => pan1 (aevalF G fr x)
  | _ => none
theorem acallF_eq (P : Program) (G : Glob) (fr : List AV) (s : AS) (o : Oper) (cl : Call) : acallF P G fr s o cl = acall P G fr s o cl := by
  unfold acallF acall
  cases hc : cl.callee with
  | value f =>
    simp only [aevalF_eq]
    cases aeval G fr f with
    | none => rfl
    | some v =>
      cases v with
      | fn g a b =>
        cases g with
        | func g =>
          cases evs G fr cl.args.toList with
          | none => rfl
          | some as =>
            simp only [ent1]
            cases callable P g <;> rfl
        | _ => rfl
      | _ => rfl
  | invoke r m => rfl
  | builtin b =>
    cases b <;> try rfl
    · simp only [builtin1]
      cases hx : cl.args.toList with
      | nil => rfl
      | cons x xs =>
        cases xs with
        | nil => rfl
        | cons y ys =>
          cases ys with
          | cons z zs => rfl
          | nil =>
            cases ht : cl.argTypes.toList with
            | nil => rfl
            | cons t ts =>
              cases ts with
              | nil => rfl
              | cons u us =>
                cases us with
                | cons v vs => rfl
                | nil =>
                  simp only [app1, aevalF_eq]
                  cases aeval G fr x <;> cases aeval G fr y <;> first | rfl | exact valP_eq _
    · simp only [builtin1]
      cases hx : cl.args.toList with
      | nil => rfl
      | cons x xs =>
        cases xs with
        | cons y ys => rfl
        | nil =>
          cases ht : cl.argTypes.toList with
          | nil => rfl
          | cons t ts =>
            cases ts with
            | cons u us => rfl
            | nil => simp only [len1, aevalF_eq, bnd_eq]; exact val1_eq _ _
    · simp only [builtin1, bnd_eq]
      cases (evs G fr cl.args.toList).bind toScs with
      | none => rfl
      | some vs => exact val1_eq _ _
    · simp only [builtin1, bnd_eq]
      cases (evs G fr cl.args.toList).bind toScs with
      | none => rfl
      | some vs => exact val1_eq _ _
theorem aopF_eq (P : Program) (G : Glob) (fr : List AV) (s : AS) (o : Oper) : aopF P G fr s o = aop P G fr s o := by
  unfold aopF aop
  cases ho : o.op <;> simp only [aevalF_eq, val1_eq, valU_eq, valP_eq, bnd_eq, acallF_eq]
  case pick c a b =>
    cases aeval G fr c with
    | none => rfl
    | some v =>
      cases v with
      | sc u => cases u <;> first | rfl | (rename_i t; cases t <;> rfl)
      | _ => rfl
  case alloc e => cases azero P e <;> rfl
  case box e x => cases aeval G fr x <;> rfl
  case store t a x => cases aeval G fr a <;> cases aeval G fr x <;> rfl
  case nilCheck x =>
    cases aeval G fr x with
    | none => rfl
    | some v => simp only [check1]; cases notNil v <;> rfl
  case binOp op t x y z => cases aeval G fr x <;> cases aeval G fr y <;> first | rfl | (simp only [two, abinF_eq])
  case unOp op t x => cases (aeval G fr x).bind toSc with
    | none => rfl
    | some v => exact val1_eq _ _
  case convert a b x => cases (aeval G fr x).bind toSc with
    | none => rfl
    | some v => exact val1_eq _ _
  case makeInterface t x =>
    cases aeval G fr x with
    | none => cases P.underlying t <;> rfl
    | some v =>
      cases P.underlying t with
      | none => rfl
      | some d => simp only [iface1]; cases isIface d <;> rfl
  case makeFunc f a b => cases evs G fr a.toList <;> cases evs G fr b.toList <;> rfl
  case makeMap t r => cases r <;> rfl
  case makeSlice t l c => cases aeval G fr l <;> cases aeval G fr c <;> rfl
  case slice t x lo hi mx =>
    cases aeval G fr x <;> cases evo G fr lo <;> cases evo G fr hi <;> cases evo G fr mx <;> first | rfl | exact val1_eq _ _
  case indexAddr t x i => cases aeval G fr x <;> cases aeval G fr i <;> rfl
  case index t x i => cases aeval G fr x <;> cases aeval G fr i <;> first | rfl | (simp only [two, aindexF_eq])
  case lookup t x k ok => cases aeval G fr x <;> cases aeval G fr k <;> rfl
  case mapUpdate t m k x => cases aeval G fr m <;> cases aeval G fr k <;> cases aeval G fr x <;> rfl
  case insert t m k x => cases aeval G fr m <;> cases aeval G fr k <;> cases aeval G fr x <;> rfl
  case mapEntry t m k => cases aeval G fr m <;> cases aeval G fr k <;> rfl
  case entryStore t m k x => cases aeval G fr m <;> cases aeval G fr k <;> cases aeval G fr x <;> rfl
  case panic x =>
    cases aeval G fr x with
    | none => rfl
    | some v => cases v <;> rfl
end AI
/- The runner in small steps. -/
namespace AI
open Go Go.RowKit

abbrev Rec := Tk → Option Rs
def seqK (r : Rec) (y : Code) : Option Rs → Option Rs
  | some (.code e fr s) => (match e with
    | .normal => r (.code y fr s)
    | e => some (.code e fr s))
  | _ => none
def condK (r : Rec) (x y : Code) (fr : List AV) (s : AS) : Option AV → Option Rs
  | some (.sc (.bool t)) => (match t with
    | true => r (.code x fr s)
    | false => r (.code y fr s))
  | _ => none
def blockK (id : Nat) : Option Rs → Option Rs
  | some (.code e fr s) => some (.code (unblock id e) fr s)
  | _ => none
def codeK : Option Rs → Option Rs
  | some (.code e fr s) => some (.code e fr s)
  | _ => none
def drawK (P : Program) (G : Glob) (ops : Array Oper) (q : Nat) (rs : List ABlk) : Option Rs → Option Rs
  | some (.tr t fr s) => (match stable P G ops t s q rs with
    | true => some (.code .normal fr s)
    | false => none)
  | _ => none
def holdC (P : Program) (G : Glob) (r : Rec) (ops : Array Oper) (fr : List AV) (s : AS) : Option (List ABlk) → Option Rs
  | some rs => drawK P G ops s.nx rs (r (.draw ops ops.toList fr (s.hold rs) s.nx))
  | none => none
def drawC (P : Program) (G : Glob) (r : Rec) (ops : Array Oper) (fr : List AV) (s : AS) : Bool → Option Rs
  | true => holdC P G r ops fr s (rsv P ops.toList)
  | false => none
def regionC (P : Program) (G : Glob) (r : Rec) (ops : Array Oper) (fr : List AV) (s : AS) : Bool → Option Rs
  | false => codeK (r (.ops ops ops.toList fr s))
  | true => drawC P G r ops fr s (ordOk ops)
def stepCode (P : Program) (G : Glob) (r : Rec) (fr : List AV) (s : AS) : Code → Option Rs
  | .skip => some (.code .normal fr s)
  | .exit id => some (.code (.exit id) fr s)
  | .ret => some (.code .ret fr s)
  | .seq x y => seqK r y (r (.code x fr s))
  | .cond q x y => condK r x y fr s (aevalF G fr q)
  | .block id c => blockK id (r (.code c fr s))
  | .loop c => codeK (r (.loop c fr s))
  | .region _ ops d => regionC P G r ops fr s d
  | _ => none
def loopK (r : Rec) (c : Code) : Option Rs → Option Rs
  | some (.code e fr s) => (match e with
    | .normal => r (.loop c fr s)
    | e => some (.code e fr s))
  | _ => none
def opsK (r : Rec) (ops : Array Oper) (dst : Option Tmp) (l : List Oper) (fr : List AV) : Option Rs → Option Rs
  | some (.call c s) => (match c with
    | .ret v => r (.ops ops l (aput fr dst v) s)
    | .pan v => some (.code (.pan v) fr s))
  | _ => none
def stepOps (r : Rec) (ops : Array Oper) (fr : List AV) (s : AS) : List Oper → Option Rs
  | [] => some (.code .normal fr s)
  | o :: l => opsK r ops o.dst l fr (r (.op ops o fr s))
def trK (fr : List AV) (s : AS) (v : AV) : Option Rs → Option Rs
  | some (.tr t fr1 s2) => some (.tr ((fr, s, v) :: t) fr1 s2)
  | _ => none
def traceK (r : Rec) (ops : Array Oper) (dst : Option Tmp) (l : List Oper) (fr : List AV) (s : AS) (q : Nat) : Option Rs → Option Rs
  | some (.call (.ret v) s1) => trK fr s v (r (.draw ops l (aput fr dst v) s1 q))
  | _ => none
def allocK (r : Rec) (ops : Array Oper) (o : Oper) (l : List Oper) (fr : List AV) (s : AS) (q : Nat) (v : AV) : Option Rs := trK fr s v (r (.draw ops l (aput fr o.dst v) s (q + 1)))
def traceC (r : Rec) (ops : Array Oper) (o : Oper) (l : List Oper) (fr : List AV) (s : AS) (q : Nat) : Bool → Option Rs
  | true => allocK r ops o l fr s q (allocV ops fr o q)
  | false => traceK r ops o.dst l fr s q (r (.op ops o fr s))
def stepDraw (r : Rec) (ops : Array Oper) (fr : List AV) (s : AS) (q : Nat) : List Oper → Option Rs
  | [] => some (.tr [] fr s)
  | o :: l => traceC r ops o l fr s q (isAlloc o.op)
def callK : Option Rs → Option Rs
  | some (.call c s) => some (.call c s)
  | _ => none
def opK (r : Rec) (s : AS) : Option AR → Option Rs
  | some (.val v s1) => some (.call (.ret v) s1)
  | some (.pan v) => some (.call (.pan v) s)
  | some (.ent f args) => callK (r (.call f args s))
  | none => none
def guardF (ops : Array Oper) (fr : List AV) : Option (Nat × Bool) → Bool
  | none => true
  | some p => (match (ops[p.1]?).bind (·.dst) with
    | some d => (match nth fr d with
      | .sc (.bool b) => b == p.2
      | _ => false)
    | none => false)
theorem guardF_eq (ops : Array Oper) (fr : List AV) (o : Oper) : guardF ops fr o.guard = awanted ops fr o := by
  unfold guardF awanted
  cases o.guard with
  | none => rfl
  | some p =>
    obtain ⟨j, want⟩ := p
    simp only
    cases (ops[j]?).bind (·.dst) with
    | none => rfl
    | some d =>
      simp only [nth_eq, List.getD_eq_getElem?_getD]
      cases fr[d]? with
      | none => rfl
      | some v =>
        cases v with
        | sc u => cases u <;> rfl
        | _ => rfl
def stepOp (P : Program) (G : Glob) (r : Rec) (fr : List AV) (s : AS) (o : Oper) : Bool → Option Rs
  | true => opK r s (aopF P G fr s o)
  | false => some (.call (.ret (.sc undef)) s)
def hookK (k : CR → Option CR) : Option Rs → Option Rs
  | some (.call c s) => (match k c with
    | some c1 => some (.call c1 s)
    | none => none)
  | _ => none
def resK (s : AS) (n : Nat) : Option AV → Option Rs
  | some v => some (.call (.ret v) (fin v s n))
  | none => none
def bodyK (P : Program) (fn : Func) (n : Nat) : Option Rs → Option Rs
  | some (.code e fr s) => (match e with
    | .normal => resK s n (aresults P s fn fr)
    | .ret => resK s n (aresults P s fn fr)
    | .pan v => some (.call (.pan v) (s.cut n))
    | .exit _ => none)
  | _ => none
def bodyC (P : Program) (r : Rec) (fn : Func) (args : List AV) (s : AS) : Option Code → Option Rs
  | some c => bodyK P fn s.nx (r (.code c (args ++ List.replicate (fn.ntmps - args.length) (.sc undef)) s))
  | none => none
def fnC (P : Program) (r : Rec) (args : List AV) (s : AS) : Option Func → Option Rs
  | some fn => bodyC P r fn args s fn.body
  | none => none
def hookC (P : Program) (r : Rec) (f : FuncId) (args : List AV) (s : AS) : Option (FuncId × List AV × (CR → Option CR)) → Option Rs
  | some (g, gargs, k) => hookK k (r (.call g gargs s))
  | none => fnC P r args s P.funcs[f]?
def extC (P : Program) (H : Hook) (r : Rec) (f : FuncId) (args : List AV) (s : AS) : Option (CR × AS) → Option Rs
  | some (c, s1) => some (.call c s1)
  | none => hookC P r f args s (H f args)
def step (P : Program) (G : Glob) (X : ExtsF) (H : Hook) (r : Rec) : Tk → Option Rs
  | .code c fr s => stepCode P G r fr s c
  | .loop c fr s => loopK r c (r (.code c fr s))
  | .ops ops l fr s => stepOps r ops fr s l
  | .draw ops l fr s q => stepDraw r ops fr s q l
  | .op ops o fr s => stepOp P G r fr s o (guardF ops fr o.guard)
  | .call f args s => extC P H r f args s (X f args s)
def goF (P : Program) (G : Glob) (X : ExtsF) (H : Hook) : Nat → Rec
  | 0 => fun _ => none
  | n + 1 => step P G X H (goF P G X H n)
end AI
/- The runner once more, by recursors and closed branches: quick for the kernel. -/
namespace AI
open Go Go.RowKit

noncomputable def nthR (l : List AV) : Nat → AV := List.rec (motive := fun _ => Nat → AV) (fun _ => .sc undef) (fun a _ ih n => Nat.rec (motive := fun _ => AV) a (fun k _ => ih k) n) l
theorem nthR_eq (l : List AV) (n : Nat) : nthR l n = nth l n := by
  induction l generalizing n with
  | nil => rfl
  | cons a l ih => cases n with
    | zero => rfl
    | succ n => exact ih n
noncomputable def setR (v : AV) (l : List AV) : Nat → List AV := List.rec (motive := fun _ => Nat → List AV) (fun _ => []) (fun a t ih n => Nat.rec (motive := fun _ => List AV) (v :: t) (fun k _ => a :: ih k) n) l
theorem setR_eq (v : AV) (l : List AV) (n : Nat) : setR v l n = l.set n v := by
  induction l generalizing n with
  | nil => rfl
  | cons a l ih => cases n with
    | zero => rfl
    | succ n => show a :: setR v l n = _; rw [ih]; rfl
noncomputable def aputR (fr : List AV) (dst : Option Tmp) (v : AV) : List AV := Option.rec (motive := fun _ => List AV) fr (fun d => setR v fr d) dst
theorem aputR_eq (fr : List AV) (dst : Option Tmp) (v : AV) : aputR fr dst v = aput fr dst v := by cases dst with
  | none => rfl
  | some d => exact setR_eq v fr d
abbrev Sm := Program → Glob → List AV → AS → Oper → Option AR
def evTmp (t : Tmp) (_ : Glob) (fr : List AV) : Option AV := some (nth fr t)
noncomputable def evTmpR (t : Tmp) (_ : Glob) (fr : List AV) : Option AV := some (nthR fr t)
def evConst (v : Value) (_ : Glob) (_ : List AV) : Option AV := ofVal v
def evGlob (g : Nat) (G : Glob) (_ : List AV) : Option AV := evG (G g)
def evFn (f : FuncId) (_ : Glob) (_ : List AV) : Option AV := some (.fn (.func f) [] [])
noncomputable def evR (x : Operand) : Glob → List AV → Option AV := Operand.rec (motive := fun _ => Glob → List AV → Option AV) evTmpR evConst evGlob evFn x
theorem evR_eq (x : Operand) (G : Glob) (fr : List AV) : evR x G fr = aevalF G fr x := by
  cases x with
  | tmp t => show some (nthR fr t) = some (nth fr t); rw [nthR_eq]
  | const v => rfl
  | global g => rfl
  | func f => rfl
noncomputable def optR {α β : Type} (o : Option α) (f : α → Option β) : Option β := Option.rec (motive := fun _ => Option β) none f o
theorem optR_eq {α β : Type} (o : Option α) (f : α → Option β) : optR o f = bnd o f := by cases o <;> rfl
def mkVal (s : AS) (v : AV) : Option AR := some (.val v s)
noncomputable def valR (s : AS) (o : Option AV) : Option AR := optR o (mkVal s)
theorem valR_eq (s : AS) (o : Option AV) : valR s o = val1 s o := by cases o <;> rfl
noncomputable def semMove (x : Operand) : Sm := fun _ G fr s _ => valR s (evR x G fr)
def semPick (c a b : Operand) : Sm := fun _ G fr s _ => val1 s (pick1 (aevalF G fr a) (aevalF G fr b) (aevalF G fr c))
def semAlloc (e : TypeId) : Sm := fun P _ _ s _ => newBox s (azero P e)
def semBox (_ : TypeId) (x : Operand) : Sm := fun _ G fr s _ => newBox s (aevalF G fr x)
def semBuild (t : TypeId) (ps : Array (Nat × Operand)) : Sm := fun P G fr s _ => val1 s (bnd (evParts G fr ps.toList) (abuild P t))
def semBuildSlice (t : TypeId) (n : Nat) (ps : Array (Nat × Operand)) : Sm := fun P G fr s _ => val1 s (bnd (evParts G fr ps.toList) (abuildSlice P t n))
noncomputable def semLoad (t : TypeId) (a : Operand) : Sm := fun P G fr s _ => valR s (optR (evR a G fr) (aload P s t))
def semStore (t : TypeId) (a x : Operand) : Sm := fun P G fr s _ => valU (two (aevalF G fr a) (aevalF G fr x) (astore P s t))
def semNil (x : Operand) : Sm := fun _ G fr s _ => check1 s (aevalF G fr x)
noncomputable def semBin (op : BinOp) (t : TypeId) (x y : Operand) (_ : TypeId) : Sm := fun P G fr s _ => valR s (optR (evR x G fr) (fun a => optR (evR y G fr) (fun b => abinF P op t x y a b)))
def semUn (op : UnOp) (_ : TypeId) (x : Operand) : Sm := fun P G fr s _ => pure2 P s (Op.unary op) (bnd (aevalF G fr x) toSc)
def semConv (src dst : TypeId) (x : Operand) : Sm := fun P G fr s _ => pure2 P s (convert src dst) (bnd (aevalF G fr x) toSc)
def semIface (t : TypeId) (x : Operand) : Sm := fun P G fr s _ => iface1 t s (aevalF G fr x) (P.underlying t)
def semFunc (f : Fn) (first caps : Array Operand) : Sm := fun _ G fr s _ => func1 f s (evs G fr caps.toList) (evs G fr first.toList)
def semMap (_ : TypeId) (r : Option Operand) : Sm := fun _ _ _ s _ => makeMap1 s r
def semMake (t : TypeId) (l c : Operand) : Sm := fun P G fr s _ => valP (two (aevalF G fr l) (aevalF G fr c) (amakeSlice P s t))
def semSlice (t : TypeId) (x : Operand) (lo hi mx : Option Operand) : Sm := fun P G fr s _ => slice1 P s t (evo G fr lo) (evo G fr hi) (evo G fr mx) (aevalF G fr x)
noncomputable def semFieldA (t : TypeId) (x : Operand) (k : Nat) : Sm := fun P G fr s _ => valR s (optR (evR x G fr) fun a => afieldAt P t a k)
def semField (t : TypeId) (x : Operand) (k : Nat) : Sm := fun P G fr s _ => val1 s (bnd (aevalF G fr x) fun a => afield P t a k)
noncomputable def semIndexA (t : TypeId) (x i : Operand) : Sm := fun P G fr s _ => valR s (optR (evR x G fr) (fun a => optR (evR i G fr) (fun b => aindexAt P t a b)))
noncomputable def semIndex (t : TypeId) (x i : Operand) : Sm := fun P G fr s _ => valR s (optR (evR x G fr) (fun a => optR (evR i G fr) (fun b => aindexF P t a b)))
def semLookup (t : TypeId) (x k : Operand) (ok : Bool) : Sm := fun P G fr s _ => val1 s (two (aevalF G fr x) (aevalF G fr k) fun a b => alookup P s t a b ok)
def semSet (t : TypeId) (m k x : Operand) : Sm := fun P G fr s _ => valU (three (aevalF G fr m) (aevalF G fr k) (aevalF G fr x) (amapSet P s t))
def semEntry (t : TypeId) (m k : Operand) : Sm := fun P G fr s _ => valP (two (aevalF G fr m) (aevalF G fr k) (amapEntry P s t))
def semEStore (_ : TypeId) (m st x : Operand) : Sm := fun _ G fr s _ => valU (three (aevalF G fr m) (aevalF G fr st) (aevalF G fr x) (aentryStore s))
def semExtract (x : Operand) (k : Nat) : Sm := fun _ G fr s _ => val1 s (bnd (aevalF G fr x) fun a => aextract a k)
def semCall (cl : Call) : Sm := fun P G fr s o => acallF P G fr s o cl
def semPanic (x : Operand) : Sm := fun _ G fr _ _ => pan1 (aevalF G fr x)
def semNo : Sm := fun _ _ _ _ _ => none
noncomputable def opSem (op : Op) : Sm := match op with
  | .move x => semMove x
  | .assign x => semMove x
  | .pick c a b => semPick c a b
  | .alloc e => semAlloc e
  | .box e x => semBox e x
  | .build t ps => semBuild t ps
  | .buildSlice t n ps => semBuildSlice t n ps
  | .load t a => semLoad t a
  | .store t a x => semStore t a x
  | .nilCheck x => semNil x
  | .binOp op t x y z => semBin op t x y z
  | .unOp op t x => semUn op t x
  | .convert a b x => semConv a b x
  | .makeInterface t x => semIface t x
  | .makeFunc f a b => semFunc f a b
  | .makeMap t r => semMap t r
  | .makeSlice t l c => semMake t l c
  | .slice t x lo hi mx => semSlice t x lo hi mx
  | .fieldAddr t x k => semFieldA t x k
  | .field t x k => semField t x k
  | .indexAddr t x i => semIndexA t x i
  | .index t x i => semIndex t x i
  | .lookup t x k ok => semLookup t x k ok
  | .mapUpdate t m k x => semSet t m k x
  | .insert t m k x => semSet t m k x
  | .mapEntry t m k => semEntry t m k
  | .entryStore t m st x => semEStore t m st x
  | .extract x k => semExtract x k
  | .call cl => semCall cl
  | .panic x => semPanic x
  | _ => semNo
theorem opSem_eq (P : Program) (G : Glob) (fr : List AV) (s : AS) (o : Oper) : opSem o.op P G fr s o = aopF P G fr s o := by
  unfold opSem aopF
  cases o.op <;> try rfl
  all_goals simp only [semMove, semLoad, semBin, semFieldA, semIndexA, semIndex, evR_eq, valR_eq, optR_eq]
  all_goals first
    | done
    | (rename_i a b c d e; cases aevalF G fr c <;> cases aevalF G fr d <;> rfl)
    | (rename_i a b c; cases aevalF G fr b <;> cases aevalF G fr c <;> rfl)
noncomputable def guardR (ops : Array Oper) (fr : List AV) (g : Option (Nat × Bool)) : Bool := Option.rec (motive := fun _ => Bool) true (fun p => guardF ops fr (some p)) g
theorem guardR_eq (ops : Array Oper) (fr : List AV) (g : Option (Nat × Bool)) : guardR ops fr g = guardF ops fr g := by cases g <;> rfl
noncomputable def opsKR (r : Rec) (ops : Array Oper) (dst : Option Tmp) (l : List Oper) (fr : List AV) : Option Rs → Option Rs
  | some (.call c s) => (match c with
    | .ret v => r (.ops ops l (aputR fr dst v) s)
    | .pan v => some (.code (.pan v) fr s))
  | _ => none
noncomputable def stepOpR (P : Program) (G : Glob) (r : Rec) (fr : List AV) (s : AS) (o : Oper) (b : Bool) : Option Rs := Bool.rec (motive := fun _ => Option Rs) (some (.call (.ret (.sc undef)) s)) (opK r s (opSem o.op P G fr s o)) b
noncomputable def stepOpsR (P : Program) (G : Glob) (r : Rec) (ops : Array Oper) (fr : List AV) (s : AS) (l : List Oper) : Option Rs := List.rec (motive := fun _ => Option Rs) (some (.code .normal fr s)) (fun o l _ => opsKR r ops o.dst l fr (stepOpR P G r fr s o (guardR ops fr o.guard))) l
abbrev Ss := Program → Glob → Rec → List AV → AS → Option Rs
def ssSkip : Ss := fun _ _ _ fr s => some (.code .normal fr s)
def ssExit (id : Nat) : Ss := fun _ _ _ fr s => some (.code (.exit id) fr s)
def ssRet : Ss := fun _ _ _ fr s => some (.code .ret fr s)
def ssSeq (x y : Code) : Ss := fun _ _ r fr s => seqK r y (r (.code x fr s))
def ssCond (q : Operand) (x y : Code) : Ss := fun _ G r fr s => condK r x y fr s (aevalF G fr q)
def ssBlock (id : Nat) (c : Code) : Ss := fun _ _ r fr s => blockK id (r (.code c fr s))
def ssLoop (c : Code) : Ss := fun _ _ r fr s => codeK (r (.loop c fr s))
def ssRegion (_ : Nat) (ops : Array Oper) (d : Bool) : Ss := fun P G r fr s => regionC P G r ops fr s d
def ssNo : Ss := fun _ _ _ _ _ => none
def codeSem (c : Code) : Ss := match c with
  | .skip => ssSkip
  | .exit id => ssExit id
  | .ret => ssRet
  | .seq x y => ssSeq x y
  | .cond q x y => ssCond q x y
  | .block id c => ssBlock id c
  | .loop c => ssLoop c
  | .region id ops d => ssRegion id ops d
  | _ => ssNo
theorem codeSem_eq (P : Program) (G : Glob) (r : Rec) (fr : List AV) (s : AS) (c : Code) : codeSem c P G r fr s = stepCode P G r fr s c := by cases c <;> rfl
/-- two steps of the runner at an operation are one here -/
noncomputable def stepR (P : Program) (G : Glob) (X : ExtsF) (H : Hook) (r : Rec) : Tk → Option Rs
  | .code c fr s => codeSem c P G r fr s
  | .loop c fr s => loopK r c (r (.code c fr s))
  | .ops ops l fr s => stepOpsR P G r ops fr s l
  | .draw ops l fr s q => stepDraw r ops fr s q l
  | .op ops o fr s => stepOpR P G r fr s o (guardR ops fr o.guard)
  | .call f args s => extC P H r f args s (X f args s)
noncomputable def goR (P : Program) (G : Glob) (X : ExtsF) (H : Hook) (n : Nat) : Rec := Nat.rec (motive := fun _ => Rec) (fun _ => none) (fun _ ih => stepR P G X H ih) n
end AI
/- The quick runner is right. Calls with nothing but plain arguments: what they give in one state they give in every state. -/
namespace AI
open Go Go.RowKit

section
variable {P : Program} {G : Glob} {X : ExtsF} {H : Hook} {r : Rec}
theorem op_ok (hr : ∀ tk rs, r tk = some rs → Rt P G (XP X) H tk rs) {ops : Array Oper} {o : Oper} {fr : List AV} {s : AS} {rs : Rs} (h : stepOpR P G r fr s o (guardR ops fr o.guard) = some rs) : Rt P G (XP X) H (.op ops o fr s) rs := by
  rw [guardR_eq, guardF_eq] at h
  unfold stepOpR at h
  cases hw : awanted ops fr o with
  | false => rw [hw] at h; simp only at h; cases h; exact J.opSkip hw
  | true =>
    rw [hw] at h
    simp only at h
    rw [opSem_eq, aopF_eq] at h
    cases ha : aop P G fr s o with
    | none => rw [ha] at h; cases h
    | some a =>
      rw [ha] at h
      cases a with
      | val v s1 => simp only [opK] at h; cases h; exact J.opVal hw ha
      | pan v => simp only [opK] at h; cases h; exact J.opPan hw ha
      | ent f args =>
        simp only [opK] at h
        cases hc : r (.call f args s) with
        | none => rw [hc] at h; cases h
        | some q =>
          rw [hc] at h
          cases q with
          | call c s1 => simp only [callK] at h; cases h; exact J.opCall hw ha (hr _ _ hc)
          | _ => cases h
theorem stepR_ok (hr : ∀ tk rs, r tk = some rs → Rt P G (XP X) H tk rs) (tk : Tk) (rs : Rs) (h : stepR P G X H r tk = some rs) : Rt P G (XP X) H tk rs := by
  cases tk with
  | code c fr s =>
    simp only [stepR, codeSem_eq] at h
    cases c with
    | skip => simp only [stepCode] at h; cases h; exact J.skip
    | exit id => simp only [stepCode] at h; cases h; exact J.exit
    | ret => simp only [stepCode] at h; cases h; exact J.ret
    | seq x y =>
      simp only [stepCode] at h
      cases h1 : r (.code x fr s) with
      | none => rw [h1] at h; cases h
      | some q =>
        rw [h1] at h
        have i1 := hr _ _ h1
        cases q with
        | code e fr1 s1 =>
          cases e with
          | normal =>
            simp only [seqK] at h
            have i2 := hr _ _ h
            cases rs with
            | code e fr' s' => exact J.seq i1 i2
            | call r s' => exact i2.elim
            | tr t fr' s' => exact i2.elim
          | exit id => simp only [seqK] at h; cases h; exact J.seqX i1 (by simp)
          | ret => simp only [seqK] at h; cases h; exact J.seqX i1 (by simp)
          | pan v => simp only [seqK] at h; cases h; exact J.seqX i1 (by simp)
        | _ => cases h
    | cond q x y =>
      simp only [stepCode, aevalF_eq] at h
      cases hq : aeval G fr q with
      | none => rw [hq] at h; cases h
      | some v =>
        rw [hq] at h
        cases v with
        | sc u =>
          cases u with
          | bool t =>
            cases t with
            | true =>
              simp only [condK] at h
              have i2 := hr _ _ h
              cases rs with
              | code e fr' s' => exact J.cond hq i2
              | call r s' => exact i2.elim
              | tr t fr' s' => exact i2.elim
            | false =>
              simp only [condK] at h
              have i2 := hr _ _ h
              cases rs with
              | code e fr' s' => exact J.cond hq i2
              | call r s' => exact i2.elim
              | tr t fr' s' => exact i2.elim
          | _ => cases h
        | _ => cases h
    | block id c =>
      simp only [stepCode] at h
      cases h1 : r (.code c fr s) with
      | none => rw [h1] at h; cases h
      | some q =>
        rw [h1] at h
        cases q with
        | code e fr1 s1 => simp only [blockK] at h; cases h; exact J.block (hr _ _ h1)
        | _ => cases h
    | loop c =>
      simp only [stepCode] at h
      cases h1 : r (.loop c fr s) with
      | none => rw [h1] at h; cases h
      | some q =>
        rw [h1] at h
        cases q with
        | code e fr1 s1 => simp only [codeK] at h; cases h; exact J.loop (hr _ _ h1)
        | _ => cases h
    | region id ops d =>
      simp only [stepCode] at h
      cases d with
      | false =>
        simp only [regionC] at h
        cases h1 : r (.ops ops ops.toList fr s) with
        | none => rw [h1] at h; cases h
        | some q =>
          rw [h1] at h
          cases q with
          | code e fr1 s1 =>
            simp only [codeK] at h; cases h
            have := hr _ _ h1 0 (by simp)
            refine J.region ?_
            rw [Array.length_toList] at this
            rw [List.range_eq_range']
            exact this
          | _ => cases h
      | true =>
        simp only [regionC] at h
        cases hord : ordOk ops with
        | false => rw [hord] at h; cases h
        | true =>
          rw [hord] at h
          simp only [drawC] at h
          cases hrs : rsv P ops.toList with
          | none => rw [hrs] at h; cases h
          | some r0 =>
            rw [hrs] at h
            simp only [holdC] at h
            cases h1 : r (.draw ops ops.toList fr (s.hold r0) s.nx) with
            | none => rw [h1] at h; cases h
            | some q =>
              rw [h1] at h
              cases q with
              | tr t fr1 s1 =>
                simp only [drawK] at h
                cases hst : stable P G ops t s1 s.nx r0 with
                | false => rw [hst] at h; cases h
                | true => rw [hst] at h; simp only at h; cases h; exact draw_of hord hrs (hr _ _ h1) hst
              | _ => cases h
    | _ => simp only [stepCode] at h; cases h
  | loop c fr s =>
    simp only [stepR] at h
    cases h1 : r (.code c fr s) with
    | none => rw [h1] at h; cases h
    | some q =>
      rw [h1] at h
      have i1 := hr _ _ h1
      cases q with
      | code e fr1 s1 =>
        cases e with
        | normal =>
          simp only [loopK] at h
          have i2 := hr _ _ h
          cases rs with
          | code e fr' s' => exact J.loopN i1 i2
          | call r s' => exact i2.elim
          | tr t fr' s' => exact i2.elim
        | exit id => simp only [loopK] at h; cases h; exact J.loopX i1 (by simp)
        | ret => simp only [loopK] at h; cases h; exact J.loopX i1 (by simp)
        | pan v => simp only [loopK] at h; cases h; exact J.loopX i1 (by simp)
      | _ => cases h
  | ops ops l fr s =>
    simp only [stepR] at h
    cases l with
    | nil => simp only [stepOpsR] at h; cases h; intro k _; exact J.opsNil
    | cons o l =>
      simp only [stepOpsR] at h
      cases h1 : stepOpR P G r fr s o (guardR ops fr o.guard) with
      | none => rw [h1] at h; cases h
      | some q =>
        rw [h1] at h
        have i1 := op_ok hr h1
        cases q with
        | call c s1 =>
          cases c with
          | ret v =>
            simp only [opsKR, aputR_eq] at h
            have i2 := hr _ _ h
            cases rs with
            | code e fr' s' =>
              intro k hk
              obtain ⟨hk1, hk2⟩ : ops.toList[k]? = some o ∧ l = ops.toList.drop (k + 1) := by
                constructor
                · have := congrArg (fun x => x[0]?) hk
                  simpa using this.symm
                · have := congrArg List.tail hk
                  rw [List.tail_drop] at this
                  exact this
              rw [List.length_cons, List.range'_succ]
              exact J.opsCons (by rw [← Array.getElem?_toList]; exact hk1) i1 (i2 (k + 1) hk2)
            | call r s' => exact i2.elim
            | tr t fr' s' => exact i2.elim
          | pan v =>
            simp only [opsKR] at h
            cases h
            intro k hk
            have hk1 : ops.toList[k]? = some o := by
              have := congrArg (fun x => x[0]?) hk
              simpa using this.symm
            rw [List.length_cons, List.range'_succ]
            exact J.opsPan (by rw [← Array.getElem?_toList]; exact hk1) i1
        | _ => cases h
  | draw ops l fr s q0 =>
    simp only [stepR] at h
    cases l with
    | nil => simp only [stepDraw] at h; cases h; exact TrOk.nil
    | cons o l =>
      simp only [stepDraw] at h
      cases ha : isAlloc o.op with
      | true =>
        rw [ha] at h
        simp only [traceC, allocK] at h
        cases h2 : r (.draw ops l (aput fr o.dst (allocV ops fr o q0)) s (q0 + 1)) with
        | none => rw [h2] at h; cases h
        | some q =>
          rw [h2] at h
          cases q with
          | tr t fr1 s2 => simp only [trK] at h; cases h; exact TrOk.alloc ha (hr _ _ h2)
          | _ => cases h
      | false =>
        rw [ha] at h
        simp only [traceC] at h
        cases h1 : r (.op ops o fr s) with
        | none => rw [h1] at h; cases h
        | some q =>
          rw [h1] at h
          cases q with
          | call c s1 =>
            cases c with
            | ret v =>
              simp only [traceK] at h
              cases h2 : r (.draw ops l (aput fr o.dst v) s1 q0) with
              | none => rw [h2] at h; cases h
              | some q =>
                rw [h2] at h
                cases q with
                | tr t fr1 s2 => simp only [trK] at h; cases h; exact TrOk.cons ha (hr _ _ h1) (hr _ _ h2)
                | _ => cases h
            | pan v => cases h
          | _ => cases h
  | op ops o fr s => exact op_ok hr h
  | call f args s =>
    simp only [stepR] at h
    cases hx : X f args s with
    | some q => rw [hx] at h; obtain ⟨c, s1⟩ := q; simp only [extC] at h; cases h; exact J.ext hx
    | none =>
      rw [hx] at h
      simp only [extC] at h
      cases hh : H f args with
      | some q =>
        obtain ⟨g, gargs, k⟩ := q
        rw [hh] at h
        simp only [hookC] at h
        cases h1 : r (.call g gargs s) with
        | none => rw [h1] at h; cases h
        | some q =>
          rw [h1] at h
          cases q with
          | call c s1 =>
            simp only [hookK] at h
            cases hk : k c with
            | none => rw [hk] at h; cases h
            | some c1 => rw [hk] at h; simp only at h; cases h; exact J.hook hh (hr _ _ h1) hk
          | _ => cases h
      | none =>
        rw [hh] at h
        simp only [hookC] at h
        cases hf : P.funcs[f]? with
        | none => rw [hf] at h; cases h
        | some fn =>
          rw [hf] at h
          simp only [fnC] at h
          cases hb : fn.body with
          | none => rw [hb] at h; cases h
          | some c =>
            rw [hb] at h
            simp only [bodyC] at h
            cases h1 : r (.code c (args ++ List.replicate (fn.ntmps - args.length) (.sc undef)) s) with
            | none => rw [h1] at h; cases h
            | some q =>
              rw [h1] at h
              have i1 := hr _ _ h1
              cases q with
              | code e fr1 s1 =>
                cases e with
                | normal =>
                  simp only [bodyK] at h
                  cases ha : aresults P s1 fn fr1 with
                  | none => rw [ha] at h; cases h
                  | some v => rw [ha] at h; simp only [resK] at h; cases h; exact J.body hf hb i1 (.inl rfl) ha (fin_or _ _ _)
                | ret =>
                  simp only [bodyK] at h
                  cases ha : aresults P s1 fn fr1 with
                  | none => rw [ha] at h; cases h
                  | some v => rw [ha] at h; simp only [resK] at h; cases h; exact J.body hf hb i1 (.inr rfl) ha (fin_or _ _ _)
                | pan v => simp only [bodyK] at h; cases h; exact J.bodyP hf hb i1
                | exit id => simp only [bodyK] at h; cases h
              | _ => cases h
theorem goR_ok (n : Nat) (tk : Tk) (rs : Rs) (h : goR P G X H n tk = some rs) : Rt P G (XP X) H tk rs := by
  induction n generalizing tk rs with
  | zero => cases h
  | succ n ih => exact stepR_ok ih tk rs h
end

mutual
/-- nothing of memory that can be written -/
def plain : AV → Bool
  | .sc _ => true
  | .agg cs => plainL cs
  | .tup cs => plainL cs
  | .sl o _ cs => (match o with | .row _ _ => false | _ => true) && plainL cs
  | .ifc _ v => plain v
  | .el cs => plainL cs
  | .fn _ a b => plainL a && plainL b
  | .any => true
  | _ => false
def plainL : List AV → Bool
  | [] => true
  | a :: l => plain a && plainL l
end
mutual
/-- the value, with slices that nobody grows any more -/
def lose : AV → AV
  | .agg cs => .agg (loseL cs)
  | .tup cs => .tup (loseL cs)
  | .sl o n cs => .sl (match o with | .row _ _ => .lost | o => o) n (loseL cs)
  | .ifc t v => .ifc t (lose v)
  | .el cs => .el (loseL cs)
  | a => a
def loseL : List AV → List AV
  | [] => []
  | a :: l => lose a :: loseL l
end
mutual
def boxless : AV → Bool
  | .sc _ => true
  | .agg cs => boxlessL cs
  | .tup cs => boxlessL cs
  | .sl _ _ cs => boxlessL cs
  | .ifc _ v => boxless v
  | .el cs => boxlessL cs
  | .any => true
  | _ => false
def boxlessL : List AV → Bool
  | [] => true
  | a :: l => boxless a && boxlessL l
end
theorem loseL_len (l : List AV) : (loseL l).length = l.length := by
  induction l with
  | nil => rfl
  | cons a l ih => simp [loseL, ih]
section
variable {c c' : Cx} {w w' : World}
mutual
theorem Rp.plain (hv : ∀ g i v, Vis c w g i v → Vis c' w' g i v) : ∀ {a : AV} {v : Value}, AI.plain a = true → Rp c w a v → Rp c' w' a v := by
  intro a v hp h
  cases h with
  | sc h1 => exact .sc h1
  | agg h1 => exact .agg (RpL.plain hv hp h1)
  | tup h1 => exact .tup (RpL.plain hv hp h1)
  | sl0 h1 => exact .sl0 h1
  | @sl1 own n cap g o cs hn h1 ho =>
    simp only [AI.plain, Bool.and_eq_true] at hp
    refine .sl1 hn (CellsAt.plain hv hp.2 h1) ?_
    cases own with
    | full => exact ho
    | lost => trivial
    | row r sz => cases hp.1
  | msl hn h1 => cases hp
  | el h1 => exact .el (CellsAt.plain hv hp h1)
  | ptr h1 => cases hp
  | fn h1 h2 =>
    simp only [AI.plain, Bool.and_eq_true] at hp
    exact .fn (RpL.plain hv hp.1 h1) (RpL.plain hv hp.2 h2)
  | ifc h1 => exact .ifc (Rp.plain hv hp h1)
  | mp h1 => cases hp
  | any h1 => exact .any h1
theorem RpL.plain (hv : ∀ g i v, Vis c w g i v → Vis c' w' g i v) : ∀ {a : List AV} {v : List Value}, AI.plainL a = true → RpL c w a v → RpL c' w' a v := by
  intro a v hp h
  cases h with
  | nil => exact .nil
  | cons h1 t =>
    simp only [AI.plainL, Bool.and_eq_true] at hp
    exact .cons (Rp.plain hv hp.1 h1) (RpL.plain hv hp.2 t)
theorem CellsAt.plain (hv : ∀ g i v, Vis c w g i v → Vis c' w' g i v) : ∀ {a : List AV} {g o : Nat}, AI.plainL a = true → CellsAt c w g o a → CellsAt c' w' g o a := by
  intro a g o hp h
  cases h with
  | nil => exact .nil
  | cons hvv h1 t =>
    simp only [AI.plainL, Bool.and_eq_true] at hp
    exact .cons (hv _ _ _ hvv) (Rp.plain hv hp.1 h1) (CellsAt.plain hv hp.2 t)
end
mutual
theorem Rp.lose (hv : ∀ g i v, Vis c w g i v → Vis c' w' g i v) : ∀ {a : AV} {v : Value}, boxless a = true → Rp c w a v → Rp c' w' (AI.lose a) v := by
  intro a v hp h
  cases h with
  | sc h1 => exact .sc h1
  | agg h1 => exact .agg (RpL.lose hv hp h1)
  | tup h1 => exact .tup (RpL.lose hv hp h1)
  | @sl0 own A cap h1 =>
    cases own with
    | full => exact .sl0 h1
    | lost => exact .sl0 h1
    | row r sz => exact h1.elim
  | @sl1 own n cap g o cs hn h1 ho =>
    have h2 := CellsAt.lose hv hp h1
    refine .sl1 hn h2 ?_
    cases own with
    | full => exact ho
    | lost => trivial
    | row r sz => trivial
  | msl hn h1 => cases hp
  | el h1 => exact .el (CellsAt.lose hv hp h1)
  | ptr h1 => cases hp
  | fn h1 h2 => cases hp
  | ifc h1 => exact .ifc (Rp.lose hv hp h1)
  | mp h1 => cases hp
  | any h1 => exact .any h1
theorem RpL.lose (hv : ∀ g i v, Vis c w g i v → Vis c' w' g i v) : ∀ {a : List AV} {v : List Value}, boxlessL a = true → RpL c w a v → RpL c' w' (AI.loseL a) v := by
  intro a v hp h
  cases h with
  | nil => exact .nil
  | cons h1 t =>
    simp only [AI.boxlessL, Bool.and_eq_true] at hp
    exact .cons (Rp.lose hv hp.1 h1) (RpL.lose hv hp.2 t)
theorem CellsAt.lose (hv : ∀ g i v, Vis c w g i v → Vis c' w' g i v) : ∀ {a : List AV} {g o : Nat}, boxlessL a = true → CellsAt c w g o a → CellsAt c' w' g o (AI.loseL a) := by
  intro a g o hp h
  cases h with
  | nil => exact .nil
  | cons hvv h1 t =>
    simp only [AI.boxlessL, Bool.and_eq_true] at hp
    exact .cons (hv _ _ _ hvv) (Rp.lose hv hp.1 h1) (CellsAt.lose hv hp.2 t)
end
end
def s0 : AS := ⟨[], 0, [], 0⟩
/-- what a call with plain arguments gives from nothing it gives from everywhere -/
theorem closed_call {P : Program} {G : Glob} (hG : ∀ g cs, G g = some cs → plainL cs = true) {f : FuncId} {args : List AV} {v : AV} {s1 : AS} (h : Sound P G (.call f args s0 (.ret v) s1)) (hp : plainL args = true) (hb : boxless v = true) (s : AS) : Sound P G (.call f args s (.ret (lose v)) s) := by
  intro cx w vs hs hargs
  have hvis : ∀ g i x, Vis cx w g i x → Vis ⟨w.heap.size, [], [], cx.shy⟩ w g i x := by
    intro g i x hx
    refine ⟨hx.1, fun hsh => ?_, hx.2.2⟩
    rcases hsh with hsh | ⟨r, lo, hi, hr, _⟩ | hsh
    · cases hsh
    · simp at hr
    · exact hx.2.1 hsh
  have hst : St G ⟨w.heap.size, [], [], cx.shy⟩ w s0 :=
    ⟨rfl, trivial, (fun i j g h1 => by simp at h1), (fun g hg => by cases hg), (fun id g b h1 => by simp at h1), rfl, (fun r g lo hi hr => by simp at hr), (fun r hr => by cases hr), (fun g hg => by cases hg), (fun g i hb => hs.shy_lt hb), (fun r r' g lo hi lo' hi' hr => by simp at hr), (fun g cs hg => CellsAt.plain hvis (hG g cs hg) (hs.glob g cs hg)), Nat.le_refl _⟩
  refine (h _ w vs hst (RpL.plain hvis hp hargs)).mono ?_
  rintro e w' ⟨c', hx, _, u, rfl, hu⟩
  have hbel := hx.below
  obtain ⟨x2, st2⟩ := hs.same (w' := w') ⟨hbel.os, hbel.tape, hbel.output, hbel.size, fun k hk _ => hbel.block k hk⟩
  refine ⟨cx, x2, st2, u, rfl, Rp.lose (fun g i x hv => ⟨hv.1, fun hsh => hv.2.1 (.inr (.inr ?_)), hv.2.2⟩) hb hu⟩
  rw [hx.bad]
  exact hsh
/-- a block's contents, with slices that nobody grows any more -/
def loseB : ABlk → ABlk
  | .cells cs => .cells (loseL cs)
  | b => b
/-- what a method gives when its receiver is the only box, it gives in every state where the receiver is the same -/
theorem closed_meth {P : Program} {G : Glob} (hG : ∀ g cs, G g = some cs → plainL cs = true) {f : FuncId} {args cs cs' : List AV} {v : AV} {s1 : AS} (h : Sound P G (.call f (.ptr 0 0 :: args) ⟨[(0, .cells cs)], 1, [], 0⟩ (.ret v) s1)) (hs1 : s1.get 0 = some (.cells cs')) (hp : plainL args = true) (hcs : plainL cs = true) (hb : boxless v = true) (hb' : boxlessL cs' = true) (s : AS) (id : Nat) (hid : s.get id = some (.cells cs)) :
    Sound P G (.call f (.ptr id 0 :: args) s (.ret (lose v)) (s.put id (.cells (loseL cs')))) := by
  intro cx w vs hs hargs
  cases hargs with
  | @cons _ pv _ avs hptr hrest =>
    cases hptr with
    | @ptr _ _ g hphi =>
      have hgm : some g ∈ cx.phi := List.mem_of_getElem? hphi
      have hvis : ∀ k i x, Vis cx w k i x → Vis ⟨0, [some g], [], fun k i => k ≠ g ∧ cx.shy k i⟩ w k i x := by
        intro k i x hx
        refine ⟨hx.1, fun hsh => ?_, hx.2.2⟩
        rcases hsh with hsh | ⟨r, lo, hi, hr, _⟩ | hsh
        · have : k = g := by simpa using hsh
          subst this
          exact hx.2.1 (.inl hgm)
        · simp at hr
        · exact hx.2.1 hsh.2
      obtain ⟨us, T, hw, hur⟩ := box_cells hs hphi hid
      have hst : St G ⟨0, [some g], [], fun k i => k ≠ g ∧ cx.shy k i⟩ w ⟨[(0, .cells cs)], 1, [], 0⟩ := by
        refine ⟨rfl, ⟨by simp, trivial⟩, (fun i j g' h1 h2 => by have e1 := (List.getElem?_eq_some_iff.1 h1).1; have e2 := (List.getElem?_eq_some_iff.1 h2).1; simp at e1 e2; omega), (fun g hg => Nat.zero_le _), (fun id' g' b h1 h2 => ?_), rfl, (fun r g lo hi hr => by simp at hr), (fun r hr => by cases hr), (fun g' hg => ?_), (fun k i hb => hs.shy_lt hb.2), (fun r r' g lo hi lo' hi' hr => by simp at hr), (fun g cs hg => CellsAt.plain hvis (hG g cs hg) (hs.glob g cs hg)), Nat.zero_le _⟩
        · simp only [AS.get, look] at h2
          split at h2
          · rename_i hb'
            cases h2
            have := (beq_true hb').symm
            subst this
            simp at h1
            subst h1
            exact ⟨_, hw, .cells (RpL.plain hvis hcs hur)⟩
          · cases h2
        · have : g' = g := by simpa using hg
          subst this
          exact hs.phi_lt hgm
      refine (h _ w _ hst (.cons (.ptr rfl) (RpL.plain hvis hp hrest))).mono ?_
      rintro e w' ⟨c', hx, hst', u, rfl, hu⟩
      have hphi' : c'.phi[0]? = some (some g) := hx.get (c := ⟨0, [some g], [], fun k i => k ≠ g ∧ cx.shy k i⟩) rfl
      obtain ⟨us', T', hw', hur'⟩ := box_cells hst' hphi' hs1
      have hvis' : ∀ k i x, Vis c' w' k i x → Vis cx w' k i x := by
        intro k i x hv
        refine ⟨hv.1, fun hsh => ?_, hv.2.2⟩
        by_cases hk : k = g
        · subst hk; exact hv.2.1 (.inl (List.mem_of_getElem? hphi'))
        · refine hv.2.1 (.inr (.inr ?_))
          rw [hx.bad]
          exact ⟨hk, hsh⟩
      have hbel := hx.below
      have hchg : Chg w w' (fun x => x = g) := ⟨hbel.os, hbel.tape, hbel.output, hbel.size, fun k hk hne => hx.keep k hk (by simpa using hne) (fun r lo hi => by simp)⟩
      obtain ⟨x2, st2⟩ := hs.put2 hphi hchg hw' (BlkOk.cells (RpL.lose hvis' hb' hur'))
      exact ⟨cx, x2, st2, u, rfl, Rp.lose hvis' hb hu⟩
end AI
/- A table of calls that are known, and runs that lean on it. -/
namespace AI
open Go Go.RowKit

/-- equality of values, quick at strings -/
def eqV : Value → Value → Bool
  | .string a, .string b => eqB a.data.toList b.data.toList
  | .int k a, .int k' b => (match sameKind k k' with | true => eqI a b | false => false)
  | a, b => beqV a b
theorem eqV_ok {a b : Value} (h : eqV a b = true) : a = b := by
  unfold eqV at h
  split at h
  · rename_i x y
    rw [eqB_eq, beq_iff_eq] at h
    have : x = y := ByteArray.ext (Array.ext' h)
    rw [this]
  · split at h
    · rename_i hk
      rw [eqI_eq, beq_iff_eq] at h
      rw [sameKind_ok hk, h]
    · cases h
  · exact beqV_ok h
def eqOwn : Own → Own → Bool
  | .full, .full => true
  | .lost, .lost => true
  | _, _ => false
theorem eqOwn_ok {a b : Own} (h : eqOwn a b = true) : a = b := by cases a <;> cases b <;> first | rfl | cases h
mutual
/-- equality of plain values -/
def eqA : AV → AV → Bool
  | .sc a, .sc b => eqV a b
  | .agg a, .agg b => eqL a b
  | .tup a, .tup b => eqL a b
  | .sl o n a, .sl p m b => (match eqOwn o p with
    | true => (match Nat.beq n m with | true => eqL a b | false => false)
    | false => false)
  | .ifc t a, .ifc u b => (match Nat.beq t u with | true => eqA a b | false => false)
  | _, _ => false
def eqL : List AV → List AV → Bool
  | [], [] => true
  | a :: as, b :: bs => (match eqA a b with | true => eqL as bs | false => false)
  | _, _ => false
end
mutual
theorem eqA_ok : ∀ {a b : AV}, eqA a b = true → a = b
  | .sc a, b, h => by
    cases b <;> first
      | (simp only [eqA] at h; rw [eqV_ok h])
      | (simp [eqA] at h; done)
  | .agg a, b, h => by
    cases b <;> first
      | (simp only [eqA] at h; rw [eqL_ok h])
      | (simp [eqA] at h; done)
  | .tup a, b, h => by
    cases b <;> first
      | (simp only [eqA] at h; rw [eqL_ok h])
      | (simp [eqA] at h; done)
  | .sl o n a, b, h => by
    cases b <;> first
      | (simp only [eqA] at h
         split at h
         · rename_i h1
           split at h
           · rename_i h2; rw [eqOwn_ok h1, beq_true h2, eqL_ok h]
           · cases h
         · cases h)
      | (simp [eqA] at h; done)
  | .ifc t a, b, h => by
    cases b <;> first
      | (simp only [eqA] at h
         split at h
         · rename_i h1; rw [beq_true h1, eqA_ok h]
         · cases h)
      | (simp [eqA] at h; done)
  | .msl _ _ _, b, h => by simp [eqA] at h
  | .el _, b, h => by simp [eqA] at h
  | .ptr _ _, b, h => by simp [eqA] at h
  | .fn _ _ _, b, h => by simp [eqA] at h
  | .mp _, b, h => by simp [eqA] at h
  | .any, b, h => by simp [eqA] at h
theorem eqL_ok : ∀ {a b : List AV}, eqL a b = true → a = b
  | [], b, h => by cases b <;> first | rfl | (simp [eqL] at h; done)
  | a :: as, b, h => by
    cases b <;> first
      | (simp [eqL] at h; done)
      | (simp only [eqL] at h
         split at h
         · rename_i h1; rw [eqA_ok h1, eqL_ok h]
         · cases h)
end
/-- a known call: the function, the arguments behind the receiver, what the receiver holds before and behind the call, the result -/
structure Ent where
  f : Nat
  args : List AV
  box : Option (List AV × List AV)
  v : AV
def EntOk (P : Program) (G : Glob) (e : Ent) : Prop := match e.box with
  | none => ∀ s, Sound P G (.call e.f e.args s (.ret e.v) s)
  | some (cs, cs') => ∀ s id, s.get id = some (.cells cs) → Sound P G (.call e.f (.ptr id 0 :: e.args) s (.ret e.v) (s.put id (.cells cs')))
def boxHit (id : Nat) (s : AS) (args : List AV) (e : Ent) : Option (List AV × List AV) → Option (CR × AS)
  | some (cs, cs') => (match s.get id with
    | some (.cells ds) => (match eqL ds.reverse cs.reverse with
      | true => (match eqL args e.args with
        | true => some (.ret e.v, s.put id (.cells cs'))
        | false => none)
      | false => none)
    | _ => none)
  | none => none
def hit (args : List AV) (s : AS) (e : Ent) : Option (CR × AS) :=
  match args with
  | .ptr id 0 :: rest => boxHit id s rest e e.box
  | args => (match e.box with
    | none => (match eqL args.reverse e.args.reverse with
      | true => some (.ret e.v, s)
      | false => none)
    | some _ => none)
def find (f : Nat) (args : List AV) (s : AS) : List Ent → Option (CR × AS)
  | [] => none
  | e :: l => (match Nat.beq e.f f with
    | true => (match hit args s e with
      | some r => some r
      | none => find f args s l)
    | false => find f args s l)
theorem hit_ok {P : Program} {G : Glob} {args : List AV} {s s' : AS} {e : Ent} {r : CR} (he : EntOk P G e) (h : hit args s e = some (r, s')) : Sound P G (.call e.f args s r s') := by
  unfold hit at h
  split at h
  · rename_i id rest
    unfold EntOk at he
    cases hb : e.box with
    | none => rw [hb] at h; cases h
    | some q =>
      obtain ⟨cs, cs'⟩ := q
      rw [hb] at h he
      simp only [boxHit] at h
      split at h
      · rename_i ds hg
        split at h
        · rename_i h1
          split at h
          · rename_i h2
            cases h
            have e1 := List.reverse_inj.1 (eqL_ok h1)
            have e2 := eqL_ok h2
            subst e1
            rw [e2]
            exact he s id hg
          · cases h
        · cases h
      · cases h
  · unfold EntOk at he
    cases hb : e.box with
    | some q => rw [hb] at h; cases h
    | none =>
      rw [hb] at h he
      simp only at h
      split at h
      · rename_i h1
        cases h
        have e1 := List.reverse_inj.1 (eqL_ok h1)
        rw [e1]
        exact he _
      · cases h
theorem find_ok {P : Program} {G : Glob} {f : Nat} {args : List AV} {s s' : AS} {l : List Ent} {r : CR} (hl : ∀ e ∈ l, EntOk P G e) (h : find f args s l = some (r, s')) : Sound P G (.call f args s r s') := by
  induction l with
  | nil => cases h
  | cons e l ih =>
    simp only [find] at h
    split at h
    · rename_i hf
      split at h
      · rename_i q hh
        cases h
        have := hit_ok (hl e List.mem_cons_self) hh
        rw [beq_true hf] at this
        exact this
      · exact ih (fun e he => hl e (List.mem_cons_of_mem _ he)) h
    · exact ih (fun e he => hl e (List.mem_cons_of_mem _ he)) h
/-- the run gives what the entry says -/
def runIs (e : Ent) : Option Rs → Bool
  | some (.call (.ret v) s) => (match boxless v with
    | true => (match eqA (lose v) e.v with
      | true => (match e.box with
        | none => true
        | some (_, cs') => (match s.get 0 with
          | some (.cells ds) => (match boxlessL ds with
            | true => eqL (loseL ds) cs'
            | false => false)
          | _ => false))
      | false => false)
    | false => false)
  | _ => false
def startOf (e : Ent) : Tk := match e.box with
  | none => .call e.f e.args s0
  | some (cs, _) => .call e.f (.ptr 0 0 :: e.args) ⟨[(0, .cells cs)], 1, [], 0⟩
def entPlain (e : Ent) : Bool := plainL e.args && (match e.box with
  | none => true
  | some (cs, _) => plainL cs)
theorem ent_ok {P : Program} {G : Glob} {X : ExtsF} {H : Hook} (hg : Given P G (XP X) H) (hG : ∀ g cs, G g = some cs → plainL cs = true) {n : Nat} {e : Ent} (hp : entPlain e = true) (h : runIs e (goR P G X H n (startOf e)) = true) : EntOk P G e := by
  unfold entPlain at hp
  rw [Bool.and_eq_true] at hp
  cases hr : goR P G X H n (startOf e) with
  | none => rw [hr] at h; cases h
  | some rs =>
    rw [hr] at h
    have hrt := goR_ok n _ _ hr
    cases rs with
    | code e fr s => cases h
    | tr t fr s => cases h
    | call c s =>
      cases c with
      | pan v => cases h
      | ret v =>
        simp only [runIs] at h
        split at h
        · rename_i hb
          split at h
          · rename_i he
            have ev := eqA_ok he
            unfold EntOk
            cases hbx : e.box with
            | none =>
              intro s'
              unfold startOf at hrt
              rw [hbx] at hrt
              have := closed_call hG (sound hg hrt) hp.1 hb s'
              rw [ev] at this
              exact this
            | some q =>
              obtain ⟨cs, cs'⟩ := q
              intro s' id hid
              unfold startOf at hrt
              rw [hbx] at hrt h hp
              simp only at h hp
              split at h
              · rename_i ds hds
                split at h
                · rename_i hbd
                  have ec := eqL_ok h
                  have := closed_meth hG (sound hg hrt) hds hp.1 hp.2 hb hbd s' id hid
                  rw [ev, ec] at this
                  exact this
                · cases h
              · cases h
          · cases h
        · cases h
theorem AllOk.cons {P : Program} {G : Glob} {e : Ent} {l : List Ent} (he : EntOk P G e) (hl : ∀ e ∈ l, EntOk P G e) : ∀ e' ∈ e :: l, EntOk P G e' := fun e' h => by
  rcases List.mem_cons.1 h with h | h
  · rw [h]; exact he
  · exact hl e' h
/-- several entries at once -/
noncomputable def runAll (P : Program) (G : Glob) (X : ExtsF) (H : Hook) (n : Nat) : List Ent → Bool
  | [] => true
  | e :: l => (match entPlain e with
    | true => (match runIs e (goR P G X H n (startOf e)) with
      | true => runAll P G X H n l
      | false => false)
    | false => false)
def runAllR (P : Program) (G : Glob) (X : ExtsF) (H : Hook) (n : Nat) : List Ent → Prop
  | [] => True
  | e :: l => (entPlain e = true ∧ runIs e (goR P G X H n (startOf e)) = true) ∧ runAllR P G X H n l
theorem all_ok {P : Program} {G : Glob} {X : ExtsF} {H : Hook} (hg : Given P G (XP X) H) (hG : ∀ g cs, G g = some cs → plainL cs = true) {n : Nat} {l : List Ent} (h : runAllR P G X H n l) : ∀ e ∈ l, EntOk P G e := by
  induction l with
  | nil => intro e he; cases he
  | cons e l ih => exact AllOk.cons (ent_ok hg hG h.1.1 h.1.2) (ih h.2)
end AI
