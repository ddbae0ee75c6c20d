/- Part of a proof: see the last text. -/
import Derived.Test.YtnijkdknnmgoeaaGreatCmc
import Derived.IntWalk
set_option linter.unusedVariables false
set_option linter.unusedSimpArgs false
set_option linter.defProp false
noncomputable section
namespace AI
open Go Go.RowKit
def jG{P:Program}{G:Bh}{c:Cx}{w:World}{s s':AS}{t:TypeId}{l k r:AV}{vl vk:Value}(hs:St G c w s)(h:Iq P s t l k=some (r,s'))(hl:Rp c w l vl)(hk:Rp c w k vk) :
   ∃u w' c',(Instr.makeSlice t vl vk).run P w=.ok u w'/\Ext c w c' w'/\St G c' w' s'/\Rp c' w' r u:=by
 unfold Iq at h;split at h;rename_i elem hu;split at h;rename_i e n m he hn hm;split at h;rename_i z hz;split at h;rename_i zs hzs;split at h;rename_i hc;cases h;obtain⟨rfl,h24,h48,KS⟩:=hc;obtain⟨k1,i1,rfl,h1,e1⟩:=PO hn hl;obtain⟨k2,i2,rfl,h2,e2⟩:=PO hm hk;have w1:IntKind.i64.wrap i1=i1:=IntWalk.i64_in _ (by omega);have w2:IntKind.i64.wrap i2=i2:=IntWalk.i64_in _ (by omega);have zM:C8 c w zs z.cells.toList:=To hzs c w;have hin:=tY zM (n*e.size) (λ_ hn=>by rw[hn] at KS;cases KS);simp only[Array.toArray_toList] at hin
 have aeE:(Array.range (n*e.size)).map (λi=>z.cells[i % z.cells.size]!)=((List.range (n*e.size)).map λi=>z.cells[i % z.cells.size]!).toArray:=by
   apply Array.ext';simp
 obtain⟨x,st⟩:=hs.new (b:=.cells ((List.range (n*e.size)).map λi=>zs.getD (i % zs.length) (.sc undef))) (o:=.cells ((List.range (n*e.size)).map λi=>z.cells[i % z.cells.size]!).toArray elem (0,0)) (.cells hin);refine⟨.slice (some ⟨w.heap.size,0,none⟩) n n,_,_,?_,x,st,.G2 (Nat.le_refl _) (by simp[hs.len])⟩
 have hb:¬281474976710656 < (e.bytes:Int)*i2:=by
   have e3:(e.bytes:Int)*i2=((n*e.bytes:Nat):Int):=by
     rw[show i2=(n:Int) from by omega,Int.natCast_mul,Int.mul_comm]
   rw[e3];generalize n*e.bytes=q at h48;omega
 have hn2:¬i2 < 0:=by omega
 have hn1:¬i1 < 0:=by omega
 have hle:¬i2 < i1:=by omega
 simp only[Instr.makeSlice,Sem.run_bind,run_underlying hu,Result.andThen_ok,asInt,asIntOf,Sem.run_pure,typeInfo,run_program,he,w1,w2,hn1,hn2,gt_iff_lt,show(2:Int) ^ 48=281474976710656 from rfl,hb,decide_false,Bool.or_false,hle,Bool.false_eq_true,if_false,run_askRoom,e2,Dr he,newRow,e1];split;rename_i h0;have m5:Array.range 0=#[]:=rfl;simp[h0,m5];simp only[Sem.run_bind,zeroValue,typeInfo,run_program,Result.andThen_ok,he,hz,Sem.run_pure,run_newObj,aeE];cases h;cases h;cases h;cases h;cases h
def Sw(P:Program)(s:AS)(t:TypeId)(x k:AV):Option (AV×AS) :=
 match P.underlying t with
 | some (.map kt et)=>match P.underlying kt,TG k,x with
   | some kd,some key,.mp id=>if plainKey kd=true then
       (match s.get id with
       | some (.map es cl)=>match Wd kd key es 0 with
         | some (some (j,v))=>match es[j]? with
           | some e=>some (.Bj [v,.sc (.int .i64 e.2.2)],(s.put id (.map (es.set j (key,v,e.2.2)) cl)))
           | none=>none
         | some none=>match JF P et with
           | some z=>some (.Bj [z,.sc (.int .i64 cl)],(s.put id (.map (es++[(key,z,cl)]) (cl+1))))
           | none=>none
         | none=>none
       | _=>none) else none
   | _,_,_=>none
 | _=>none
def pB{P:Program}{G:Bh}{c:Cx}{w:World}{s s':AS}{t:TypeId}{x k r:AV}{vx vk:Value}(hs:St G c w s)(h:Sw P s t x k=some (r,s'))(hx:Rp c w x vx)(hk:Rp c w k vk) :
   ∃u w',(Instr.mapEntry t vx vk).run P w=.ok u w'/\Ext c w c w'/\St G c w' s'/\Rp c w' r u:=by
 unfold Sw at h;split at h;rename_i kt et hu;split at h;rename_i kd key id kG afT;have:=Vg afT hk;subst this;split at h;rename_i hp;split at h;rename_i es cl hb;cases hx with
 | @mp _ g hid =>
   obtain⟨fs,hw,he⟩:=Yo hs hid hb;split at h;rename_i j v hf;split at h;rename_i e hej;cases h;rcases SA he hf with ⟨h1,_⟩ | ⟨j',a',v',e',f,h1,h2,h3,h4,h5,h6,h7,h8,h9,h10⟩
   cases h1;injection h1 with h1
   injection h1 with h1 h1'
   rw[Nat.zero_add] at h1;subst h1 h1';rw[hej] at h4;cases h4;rw[Nat.zero_add] at h2;have acY:fs.toArray.modify j (λe=>{ e with key:=vk })=(fs.set j ⟨vk,v',e.2.2⟩).toArray:=WI h5 (by rw[<- h9,<- h7])
   obtain⟨x1,st⟩:=hs.put (b:=.map (es.set j (vk,v,e.2.2)) cl) (o:=.map (fs.set j ⟨vk,v',e.2.2⟩).toArray cl) hid (X1 w g _) (XW w hw) (.map (he.set h3 j));refine⟨.tuple #[v',.int .i64 e.2.2],_,?_,x1,st,.Bj (vs:=[v',.int .i64 e.2.2]) (.cons (h3.mono x1) (.cons (.sc rfl) .nil))⟩;have aey:=eB h10;have u9:=run_findKey (P:=P) kG h2 w;simp only[Instr.mapEntry,Sem.run_bind,run_underlying hu,Result.andThen_ok,Ks hw,run_checkKey _ kG hp,u9,List.getElem?_toArray,h5,Option.map_some,Option.getD_some,h8,h9,Instr.keyThatStays,aey,if_true,Sem.run_pure,acY,QH _ hw,goInt];cases h;rename_i hf;split at h;rename_i z hz;cases h;rcases SA he hf with ⟨_,h2⟩ | ⟨j',a',v',e',f,h1,_⟩
   obtain⟨zv,zM,hzp⟩:=Yb hz c w w;obtain⟨x1,st⟩:=hs.put (b:=.map (es++[(vk,z,cl)]) (cl+1)) (o:=.map (fs++[(⟨vk,zv,cl⟩:MapEntry)]).toArray (cl+1)) hid (X1 w g _) (XW w hw) (.map (he.snoc hzp));refine⟨.tuple #[zv,.int .i64 cl],_,?_,x1,st,.Bj (vs:=[zv,.int .i64 cl]) (.cons (hzp.mono x1) (.cons (.sc rfl) .nil))⟩;have u9:=run_findKey (P:=P) kG h2 w;have adK:fs.toArray.push (⟨vk,zv,cl⟩:MapEntry)=(fs++[(⟨vk,zv,cl⟩:MapEntry)]).toArray:=by simp
   simp only[Instr.mapEntry,Sem.run_bind,run_underlying hu,Result.andThen_ok,Ks hw,run_checkKey _ kG hp,u9,zM,adK,QH _ hw,Sem.run_pure,goInt];cases h1;cases h;cases h
 cases h;cases h;cases h;cases h
def uB(b:Int):List (Value×AV×Nat)->Nat->Option Nat
 | [],_=>none
 | e::es,i=>if (e.2.2:Int) == b then some i else uB b es (i+1)
def aeC{c:Cx}{w:World}{b:Int}{es:List (Value×AV×Nat)}{fs:List MapEntry}(h:Mk c w es fs):fs.findIdx? (λe=>(e.born:Int) == b)=uB b es 0:=by
 have key:∀(es:List (Value×AV×Nat)) (fs:List MapEntry) (i:Nat),Mk c w es fs->uB b es i=(fs.findIdx? (λe=>(e.born:Int) == b)).map (·+i):=by
   intro es fs i h
   induction h generalizing i with
   | nil=>rfl
   | cons _ _ ih =>
     simp only[uB,List.findIdx?_cons];split;simp;rw[ih,Option.map_map];congr 1;funext x;simp;omega
 rw[key es fs 0 h];simp
def O1(s:AS)(x st v:AV):Option AS :=
 match x,st with
 | .mp id,.sc (.int _ b)=>match s.get id with
   | some (.map es cl)=>match uB b es 0 with
     | some j=>match es[j]? with
       | some e=>some (s.put id (.map (es.set j (e.1,v,e.2.2)) cl))
       | none=>none
     | none=>none
   | _=>none
 | _,_=>none
def Mk.get{c:Cx}{w:World}{es:List (Value×AV×Nat)}{fs:List MapEntry}(h:Mk c w es fs){j:Nat}{e:Value×AV×Nat}(he:es[j]?=some e):∃f,fs[j]?=some f/\f.key=e.1/\f.born=e.2.2:=by
 induction h generalizing j with
 | nil=>simp at he
 | cons h1 _ ih =>
   cases j with
   | zero=>simp at he;subst he;exact⟨_,rfl,rfl,rfl⟩
   | succ j=>simpa using ih (by simpa using he)
def gI{P:Program}{G:Bh}{c:Cx}{w:World}{s s':AS}{t:TypeId}{x st v:AV}{vx vs vv:Value}(hs:St G c w s)(h:O1 s x st v=some s')(hx:Rp c w x vx)(HK:Rp c w st vs)(hv:Rp c w v vv) :
   ∃w',(Instr.entryStore t vx vs vv).run P w=.ok () w'/\Ext c w c w'/\St G c w' s':=by
 unfold O1 at h;split at h;rename_i id k b;split at h;rename_i es cl hb;split at h;rename_i j hj;split at h;rename_i e hej;cases h;cases HK;cases hx with
 | @mp _ g hid =>
   obtain⟨fs,hw,he⟩:=Yo hs hid hb;obtain⟨f,hf,u9,hfb⟩:=he.get hej;have acY:fs.toArray.modify j (λe=>{ e with val:=vv })=(fs.set j ⟨e.1,vv,e.2.2⟩).toArray:=WI hf (by rw[<- u9,<- hfb])
   obtain⟨x1,st⟩:=hs.put (b:=.map (es.set j (e.1,v,e.2.2)) cl) (o:=.map (fs.set j ⟨e.1,vv,e.2.2⟩).toArray cl) hid (X1 w g _) (XW w hw) (.map (he.set hv j));refine⟨_,?_,x1,st⟩
   have pL:fs.toArray.findIdx? (λe=>(e.born:Int) == b)=some j:=by
     rw[List.findIdx?_toArray,aeC he,hj]
   simp only[Instr.entryStore,Sem.run_bind,Result.andThen_ok,Ks hw,asInt,asIntOf,Sem.run_pure,pL,acY];exact QH _ hw
 cases h;cases h;cases h;cases h
end AI
namespace AI
open Go Go.RowKit
def Bp(G:Bh)(fr:List AV):Operand->Option AV
 | .tmp t=>some (fr.getD t (.sc undef))
 | .const v=>Z8 v
 | .global g=>(G g).map .el
 | .func f=>some (.fn (.func f) [] [])
def QU{G:Bh}{c:Cx}{w:World}{s:AS}{fr:List AV}{a:Act}{x:Operand}{v:AV}(hs:St G c w s)(hf:C8 c w fr a.tmps.toList)(h:Bp G fr x=some v):Rp c w v (a.eval x):=by
 cases x with
 | tmp t =>
   simp only[Bp,Option.some.injEq] at h;subst h;simp only[Act.eval];rw[List.getD_eq_getElem?_getD];cases hg:fr[t]? with
   | some b =>
     obtain⟨u,hu,hr⟩:=hf.get hg;rw[Array.getElem?_toList] at hu;simp[hu,hr]
   | none =>
     have hl:=hf.len;have h1:=List.getElem?_eq_none_iff.1 hg;have h2:a.tmps[t]?=none:=Array.getElem?_eq_none (by rw[<- Array.length_toList];omega);simp only[Array.getD_eq_getD_getElem?,h2,Option.getD_none];exact .sc rfl
 | const v=>exact sZ h c w
 | global g =>
   simp only[Bp] at h;cases hg:G g with
   | none=>rw[hg] at h;cases h
   | some cs=>rw[hg] at h;cases h;exact .el (hs.RN g cs hg)
 | func f=>simp only[Bp,Option.some.injEq] at h;subst h;exact .fn (us:=[]) (vs:=[]) .nil .nil
def jW(G:Bh)(fr:List AV):List Operand->Option (List AV)
 | []=>some []
 | x::xs=>match Bp G fr x,jW G fr xs with
   | some a,some as=>some (a::as)
   | _,_=>none
abbrev oX(G:Bh)(c:Cx)(w:World)(fr:List AV)(ρ:Operand->Value)(x:Operand):Prop:=∀v,Bp G fr x=some v->Rp c w v (ρ x)
def fK{G:Bh}{c:Cx}{w:World}{fr:List AV}{ρ:Operand->Value}{xs:List Operand}{vs:List AV}(Kd:∀x∈xs,oX G c w fr ρ x)(h:jW G fr xs=some vs):C8 c w vs (xs.map ρ):=by
 induction xs generalizing vs with
 | nil=>simp[jW] at h;subst h;exact .nil
 | cons x xs ih =>
   simp only[jW] at h;split at h;rename_i b bs h1 h2;cases h;exact .cons (Kd x List.mem_cons_self b h1) (ih (λy hy=>Kd y (List.mem_cons_of_mem _ hy)) h2);cases h
def OI(G:Bh)(fr:List AV):List (Nat×Operand)->Option (List (Nat×AV))
 | []=>some []
 | x::xs=>match Bp G fr x.2,OI G fr xs with
   | some a,some as=>some ((x.1,a)::as)
   | _,_=>none
def dB{G:Bh}{c:Cx}{w:World}{fr:List AV}{ρ:Operand->Value}{xs:List (Nat×Operand)}{vs:List (Nat×AV)}(Kd:∀x∈xs,oX G c w fr ρ x.2)(h:OI G fr xs=some vs):PL c w vs (xs.map λx=>(x.1,ρ x.2)):=by
 induction xs generalizing vs with
 | nil=>simp[OI] at h;subst h;exact .nil
 | cons x xs ih =>
   simp only[OI] at h;split at h;rename_i b bs h1 h2;cases h;exact .cons (Kd x List.mem_cons_self b h1) (ih (λy hy=>Kd y (List.mem_cons_of_mem _ hy)) h2);cases h
def qM(G:Bh)(fr:List AV):Option Operand->Option (Option AV)
 | none=>some none
 | some x=>(Bp G fr x).map some
def xT{G:Bh}{c:Cx}{w:World}{fr:List AV}{ρ:Operand->Value}{x:Option Operand}{v:Option AV}(Kd:∀y∈x.toArray,oX G c w fr ρ y)(h:qM G fr x=some v):RO c w v (x.map ρ):=by
 cases x with
 | none=>simp[qM] at h;subst h;exact .none
 | some x =>
   simp only[qM] at h;cases hx:Bp G fr x with
   | none=>rw[hx] at h;cases h
   | some b=>rw[hx] at h;cases h;exact .some (Kd x (by simp) b hx)
inductive AR where
 | val (v:AV) (s:AS)
 | ent (f:FuncId) (args:List AV)
 | Mq (v:AV)
def UW(P:Program)(g:FuncId):Bool:=match P.funcs[g]? with
 | some fn=>fn.name != "runtime.NumGoroutine"&&fn.body.isSome
 | none=>false
def notNil:AV->Bool
 | .ptr _ _ | .el _=>true
 | .fn (.func _) _ _=>true
 | _=>false
def isIface:TypeDesc->Bool
 | .interface _=>true
 | _=>false
def VT(P:Program)(G:Bh)(fr:List AV)(s:AS)(o:Oper)(cl:Call):Option AR :=
 match cl.callee with
 | .builtin .len=>match cl.args.toList,cl.argTypes.toList with
   | [x],[t]=>((Bp G fr x).bind (aK P s t)).map λv=>.val v s
   | _,_=>none
 | .builtin .append=>match cl.args.toList,cl.argTypes.toList with
   | [x,y],[t,tx]=>match Bp G fr x,Bp G fr y with
     | some a,some b=>(PR P s t tx a b).map λr=>.val r.1 r.2
     | _,_=>none
   | _,_=>none
 | .builtin .max=>((jW G fr cl.args.toList).bind Ri).bind λvs=>(aC P (Builtin.max_ cl.argTypes o.type vs.toArray)).map λv=>.val v s
 | .builtin .min=>((jW G fr cl.args.toList).bind Ri).bind λvs=>(aC P (Builtin.min_ cl.argTypes o.type vs.toArray)).map λv=>.val v s
 | .value f=>match Bp G fr f,jW G fr cl.args.toList with
   | some (.fn (.func g) first Q8),some as=>if UW P g=true then some (.ent g (first++as++Q8)) else none
   | _,_=>none
 | _=>none
def SW(P:Program)(G:Bh)(fr:List AV)(s:AS)(o:Oper):Option AR :=
 match o.op with
 | .move x=>(Bp G fr x).map λv=>.val v s
 | .assign x=>(Bp G fr x).map λv=>.val v s
 | .pick c a b=>match Bp G fr c with
   | some (.sc (.bool t))=>(if t then Bp G fr a else Bp G fr b).map λv=>.val v s
   | _=>none
 | .alloc e=>(JF P e).map λz=>.val (.ptr s.nx 0) (s.new (.cells (cellsOf z)))
 | .box _ x=>(Bp G fr x).bind λz=>match UL z with
   | true=>none
   | false=>some (.val (.ptr s.nx 0) (s.new (.cells (cellsOf z))))
 | .build t ps=>((OI G fr ps.toList).bind (iO P t)).map λv=>.val v s
 | .buildSlice t n ps=>((OI G fr ps.toList).bind (O3 P t n)).map λv=>.val v s
 | .load t a=>((Bp G fr a).bind (Lk P s t)).map λv=>.val v s
 | .store t a x=>match Bp G fr a,Bp G fr x with
   | some a,some x=>(MX P s t a x).map λs'=>.val (.sc undef) s'
   | _,_=>none
 | .nilCheck x=>match Bp G fr x with
   | some v=>if notNil v=true then some (.val v s) else none
   | none=>none
 | .binOp op t x y _=>match Bp G fr x,Bp G fr y with
   | some a,some b=>(L2 P op t x y a b).map λv=>.val v s
   | _,_=>none
 | .unOp op _ x=>((Bp G fr x).bind TG).bind λv=>(aC P (Op.unary op v)).map λv=>.val v s
 | .convert src dst x=>((Bp G fr x).bind TG).bind λv=>(aC P (convert src dst v)).map λv=>.val v s
 | .makeInterface t x=>match Bp G fr x,P.underlying t with
   | some v,some d=>if isIface d=true then none else some (.val (.TW t v) s)
   | _,_=>none
 | .makeFunc f first Q8=>match jW G fr first.toList,jW G fr Q8.toList with
   | some a,some b=>some (.val (.fn f a b) s)
   | _,_=>none
 | .makeMap _ none=>some (.val (.mp s.nx) (s.new (.map [] 0)))
 | .makeSlice t l c=>match Bp G fr l,Bp G fr c with
   | some a,some b=>(Iq P s t a b).map λr=>.val r.1 r.2
   | _,_=>none
 | .slice t x lo hi mx=>match Bp G fr x,qM G fr lo,qM G fr hi,qM G fr mx with
   | some a,some l,some h,some m=>(KL P t a l h m).map λv=>.val v s
   | _,_,_,_=>none
 | .fieldAddr t x k=>((Bp G fr x).bind λa=>U1 P t a k).map λv=>.val v s
 | .field t x k=>((Bp G fr x).bind λa=>fF P t a k).map λv=>.val v s
 | .indexAddr t x i=>match Bp G fr x,Bp G fr i with
   | some a,some b=>(BW P t a b).map λv=>.val v s
   | _,_=>none
 | .index t x i=>match Bp G fr x,Bp G fr i with
   | some a,some b=>(Oq P t a b).map λv=>.val v s
   | _,_=>none
 | .lookup t x k ok=>match Bp G fr x,Bp G fr k with
   | some a,some b=>(H3 P s t a b ok).map λv=>.val v s
   | _,_=>none
 | .mapUpdate t m k x=>match Bp G fr m,Bp G fr k,Bp G fr x with
   | some a,some b,some v=>(K9 P s t a b v).map λs'=>.val (.sc undef) s'
   | _,_,_=>none
 | .insert t m k x=>match Bp G fr m,Bp G fr k,Bp G fr x with
   | some a,some b,some v=>(K9 P s t a b v).map λs'=>.val (.sc undef) s'
   | _,_,_=>none
 | .mapEntry t m k=>match Bp G fr m,Bp G fr k with
   | some a,some b=>(Sw P s t a b).map λr=>.val r.1 r.2
   | _,_=>none
 | .entryStore _ m st x=>match Bp G fr m,Bp G fr st,Bp G fr x with
   | some a,some b,some v=>(O1 s a b v).map λs'=>.val (.sc undef) s'
   | _,_,_=>none
 | .extract x k=>((Bp G fr x).bind λa=>UM a k).map λv=>.val v s
 | .call cl=>VT P G fr s o cl
 | .panic x=>match Bp G fr x with
   | some (.TW t v)=>some (.Mq (.TW t v))
   | _=>none
 | _=>none
def cX(_P:Program)(G:Bh)(c:Cx)(w:World)(r:Result Next):AR->Prop
 | .val v s'=>∃u w' c',(r=.ok (.value u) w'\/(r=.ok .skip w'/\u=undef))/\Ext c w c' w'/\St G c' w' s'/\Rp c' w' v u
 | .ent f args=>∃vs,r=.ok (.enter f vs.toArray) w/\C8 c w args vs
 | .Mq v=>∃u,r=.halt (.panic u) w/\Rp c w v u
def EK{P:Program}{G:Bh}{c:Cx}{w:World}{s:AS}{v:AV}{m:Sem Value}(hs:St G c w s)(h:∃u,m.run P w=.ok u w/\Rp c w v u):cX P G c w ((do pure (Next.value (<- m)):Sem Next).run P w) (.val v s):=by
 obtain⟨u,h1,h2⟩:=h;exact⟨u,w,c,.inl (by simp[h1]),Ext.refl c w,hs,h2⟩
def QC{P:Program}{G:Bh}{c:Cx}{w:World}{s':AS}{v:AV}{m:Sem Value}(h:∃u w' c',m.run P w=.ok u w'/\Ext c w c' w'/\St G c' w' s'/\Rp c' w' v u):cX P G c w ((do pure (Next.value (<- m)):Sem Next).run P w) (.val v s'):=by
 obtain⟨u,w',c',h1,h2⟩:=h;exact⟨u,w',c',.inl (by simp[h1]),h2⟩
def Vm{P:Program}{G:Bh}{c:Cx}{w:World}{s':AS}{m:Sem Unit}(h:∃w',m.run P w=.ok () w'/\Ext c w c w'/\St G c w' s'):cX P G c w ((do m;pure Next.skip:Sem Next).run P w) (.val (.sc undef) s'):=by
 obtain⟨w',h1,h2,h3⟩:=h;exact⟨undef,w',c,.inr ⟨by simp[h1],rfl⟩,h2,h3,.sc rfl⟩
def map_some{α β:Type}{o:Option α}{f:α->β}{b:β}(h:o.map f=some b):∃a,o=some a/\f a=b:=by
 cases o with
 | none=>cases h
 | some a=>exact⟨a,rfl,by simpa using h⟩
def bind_some{α β:Type}{o:Option α}{f:α->Option β}{b:β}(h:o.bind f=some b):∃a,o=some a/\f a=some b:=by
 cases o with
 | none=>cases h
 | some a=>exact⟨a,rfl,by simpa using h⟩
end AI
namespace AI
open Go Go.RowKit
def uA{P:Program}{g:FuncId}(h:UW P g=true)(args:Array Value)(w:World):(callFunc g args).run P w=.ok (.enter g args) w:=by
 unfold UW at h;split at h;rename_i fn hf;simp only[Bool.and_eq_true,bne_iff_ne,ne_eq] at h;obtain⟨b,hb⟩:=Option.isSome_iff_exists.1 h.2;simp[callFunc,hf,h.1,hb];cases h
def adt{P:Program}{G:Bh}{c:Cx}{w:World}{s:AS}{fr:List AV}{ρ:Operand->Value}{o:Oper}{cl:Call}{r:AR}(hs:St G c w s)(Kd:∀x∈cl.operands,oX G c w fr ρ x)(h:VT P G fr s o cl=some r) :
   cX P G c w ((do let d <- resolve ρ cl o.type;invoke d.target d.args:Sem Next).run P w) r:=by
 have G6:∀x∈cl.args.toList,oX G c w fr ρ x:=λx hx=>Kd x (by simp only[Call.operands,Array.mem_append];exact .inr (Array.mem_toList_iff.1 hx));unfold VT at h;split at h;rename_i Iv;split at h;rename_i x t hx ht;obtain⟨v,h1,rfl⟩:=map_some h;obtain⟨b,h2,h3⟩:=bind_some h1;have e1:cl.args=#[x]:=by apply Array.ext';rw[hx]
 have e2:cl.argTypes=#[t]:=by apply Array.ext';rw[ht]
 have:=EK hs (ahP (ty:=o.type) hs h3 (G6 x (by rw[hx];simp) _ h2));simpa[resolve,Iv,e1,e2,invoke,builtin] using this
 cases h;rename_i Iv;split at h;rename_i x y t tx hx ht;split at h;rename_i b d h2 h3;obtain⟨v,h1,rfl⟩:=map_some h;have e1:cl.args=#[x,y]:=by apply Array.ext';rw[hx]
 have e2:cl.argTypes=#[t,tx]:=by apply Array.ext';rw[ht]
 have:=QC (yP (ty:=o.type) hs h1 (G6 x (by rw[hx];simp) _ h2) (G6 y (by rw[hx];simp) _ h3));simpa[resolve,Iv,e1,e2,invoke,builtin] using this
 cases h;cases h;rename_i Iv;obtain⟨vs,h1,h2⟩:=bind_some h;obtain⟨v,h3,rfl⟩:=map_some h2;obtain⟨as,h4,h5⟩:=bind_some h1;have e:=g7 h5 (fK G6 h4);have e1:cl.args.map ρ=vs.toArray:=by apply Array.ext';rw[<- e];simp
 have:=EK hs (Ye h3 c w w);simpa[resolve,Iv,e1,invoke,builtin] using this
 rename_i Iv;obtain⟨vs,h1,h2⟩:=bind_some h;obtain⟨v,h3,rfl⟩:=map_some h2;obtain⟨as,h4,h5⟩:=bind_some h1;have e:=g7 h5 (fK G6 h4);have e1:cl.args.map ρ=vs.toArray:=by apply Array.ext';rw[<- e];simp
 have:=EK hs (Ye h3 c w w);simpa[resolve,Iv,e1,invoke,builtin] using this
 rename_i f Iv;split at h;rename_i g first Q8 as h1 h2
 split at h;rename_i hc;cases h;have hr:=Kd f (by simp[Call.operands,Iv]) _ h1;have G6:=fK G6 h2;generalize hv:ρ f=v at hr;cases hr with
 | @fn _ _ _ us vs q1 q2 =>
   refine⟨us++cl.args.toList.map ρ++vs,?_,(q1.append G6).append q2⟩
   have e3:(us++cl.args.toList.map ρ++vs).toArray=us.toArray++Array.map ρ cl.args++vs.toArray:=by
     apply Array.ext';simp
   rw[e3];simp only[resolve,Iv,hv,Sem.run_bind,Deferred.ofValue,Sem.run_pure,Result.andThen_ok,invoke,uA hc]
 cases h;cases h;cases h
def mT{P:Program}{G:Bh}{c:Cx}{w:World}{s:AS}{fr:List AV}{ρ:Operand->Value}{o:Oper}{r:AR}(hs:St G c w s)(Kd:∀x∈o.op.operands,oX G c w fr ρ x)(hρ:∀k,ρ (.const k)=k)(h:SW P G fr s o=some r) :
   cX P G c w ((execOp ρ o).run P w) r:=by
 unfold SW at h;split at h;rename_i x ho;obtain⟨v,h1,rfl⟩:=map_some h;simp only[execOp,ho];exact⟨_,w,c,.inl rfl,Ext.refl c w,hs,Kd x (by rw[ho];simp[Op.operands]) v h1⟩;rename_i x ho;obtain⟨v,h1,rfl⟩:=map_some h;simp only[execOp,ho];exact⟨_,w,c,.inl rfl,Ext.refl c w,hs,Kd x (by rw[ho];simp[Op.operands]) v h1⟩;rename_i x y z ho;split at h;rename_i t hc;obtain⟨v,h1,rfl⟩:=map_some h;have hb:=Kd x (by rw[ho];simp[Op.operands]) _ hc;generalize hv:ρ x=vx at hb;cases hb;simp only[execOp,ho,hv];refine⟨if t then ρ y else ρ z,w,c,.inl (by simp[asBool]),Ext.refl c w,hs,?_⟩
 cases t;exact Kd z (by rw[ho];simp[Op.operands]) v h1;exact Kd y (by rw[ho];simp[Op.operands]) v h1;cases h;rename_i e ho;obtain⟨z,h1,rfl⟩:=map_some h;obtain⟨zv,zM,hzp⟩:=Yb h1 c w w;obtain⟨v',w',c',h2,h3⟩:=aaI (P:=P) (t:=e) hs hzp (kQ h1);simp only[execOp,ho];refine QC ⟨v',w',c',?_,h3⟩;simp only[Instr.box,Sem.run_bind] at h2;simp only[Instr.alloc,Sem.run_bind,zM,Result.andThen_ok];exact h2;rename_i e x ho;obtain⟨z,h1,h⟩:=bind_some h;split at h;cases h;rename_i hz;cases h;simp only[execOp,ho];exact QC (aaI (P:=P) (t:=e) hs (Kd x (by rw[ho];simp[Op.operands]) z h1) hz);rename_i t ps ho;obtain⟨v,h1,rfl⟩:=map_some h;obtain⟨qs,h2,h3⟩:=bind_some h1;simp only[execOp,ho];refine EK hs (acv (qs:=ps.map λx=>(x.1,ρ x.2)) h3 (by simpa using dB (ρ:=ρ) (λx hx=>Kd x.2 (by rw[ho];simp only[Op.operands,List.mem_toArray,List.mem_map];exact⟨x,hx,rfl⟩)) h2) w)
 rename_i t n ps ho;obtain⟨v,h1,rfl⟩:=map_some h;obtain⟨qs,h2,h3⟩:=bind_some h1;simp only[execOp,ho];obtain⟨u,w',q1,q2⟩:=gC (qs:=ps.map λx=>(x.1,ρ x.2)) hs h3 (by simpa using dB (ρ:=ρ) (λx hx=>Kd x.2 (by rw[ho];simp only[Op.operands,List.mem_toArray,List.mem_map];exact⟨x,hx,rfl⟩)) h2)
 exact QC ⟨u,w',c,q1,q2⟩;rename_i t x ho;obtain⟨v,h1,rfl⟩:=map_some h;obtain⟨b,h2,h3⟩:=bind_some h1;simp only[execOp,ho];exact EK hs (uE hs h3 (Kd x (by rw[ho];simp[Op.operands]) b h2));rename_i t x y ho;split at h;rename_i b d h2 h3;obtain⟨s',h1,rfl⟩:=map_some h;simp only[execOp,ho];exact Vm (abU hs h1 (Kd x (by rw[ho];simp[Op.operands]) b h2) (Kd y (by rw[ho];simp[Op.operands]) d h3));cases h;rename_i x ho;split at h;rename_i v h1;split at h;rename_i hn;cases h;have hr:=Kd x (by rw[ho];simp[Op.operands]) v h1;simp only[execOp,ho];generalize ρ x=vx at hr;cases hr with
 | ptr q=>exact⟨_,w,c,.inl rfl,Ext.refl c w,hs,.ptr q⟩
 | el q=>exact⟨_,w,c,.inl rfl,Ext.refl c w,hs,.el q⟩
 | @fn f _ _ us vs q1 q2 =>
   cases f with
   | func g=>exact⟨_,w,c,.inl rfl,Ext.refl c w,hs,.fn q1 q2⟩
   | _=>simp[notNil] at hn
 | _=>simp[notNil] at hn
 cases h;cases h;rename_i op t x y yt ho;split at h;rename_i b d h2 h3;obtain⟨v,h1,rfl⟩:=map_some h;simp only[execOp,ho];exact EK hs (ahc h1 (Kd x (by rw[ho];simp[Op.operands]) b h2) (Kd y (by rw[ho];simp[Op.operands]) d h3) (λk hk=>by rw[hk];exact hρ k) w);cases h;rename_i op t x ho;obtain⟨v,h1,h2⟩:=bind_some h;obtain⟨b,h3,h4⟩:=bind_some h1;obtain⟨q,h5,rfl⟩:=map_some h2;have e:=Vg h4 (Kd x (by rw[ho];simp[Op.operands]) b h3);simp only[execOp,ho,e];exact EK hs (Ye h5 c w w);rename_i src dst x ho;obtain⟨v,h1,h2⟩:=bind_some h;obtain⟨b,h3,h4⟩:=bind_some h1;obtain⟨q,h5,rfl⟩:=map_some h2;have e:=Vg h4 (Kd x (by rw[ho];simp[Op.operands]) b h3);simp only[execOp,ho,e];exact EK hs (Ye h5 c w w)
 . rename_i t x ho
   split at h
   . rename_i v d h1 hd
     split at h;cases h
     . rename_i hi
       cases h;simp only[execOp,ho];refine EK hs ⟨.iface t (ρ x),?_,.TW (Kd x (by rw[ho];simp[Op.operands]) v h1)⟩;unfold Instr.makeInterface;rw[Sem.run_bind,run_underlying hd];cases d<;>first | rfl | (simp[isIface] at hi;done)
   cases h
 rename_i f first Q8 ho
 split at h;rename_i b d h2 h3;cases h;simp only[execOp,ho];refine EK hs ⟨.func f (first.map ρ) (Q8.map ρ),rfl,?_⟩
 have:=Rp.fn (f:=f) (fK (ρ:=ρ) (λx hx=>Kd x (by rw[ho];simp only[Op.operands,Array.mem_append];exact .inl (Array.mem_toList_iff.1 hx))) h2) (fK (ρ:=ρ) (λx hx=>Kd x (by rw[ho];simp only[Op.operands,Array.mem_append];exact .inr (Array.mem_toList_iff.1 hx))) h3);rwa[show(first.toList.map ρ).toArray=first.map ρ from by apply Array.ext';simp,show(Q8.toList.map ρ).toArray=Q8.map ρ from by apply Array.ext';simp] at this
 cases h;rename_i t ho;cases h;simp only[execOp,ho];exact QC (rR (P:=P) (t:=t) hs);rename_i t x y ho;split at h;rename_i b d h2 h3;obtain⟨v,h1,rfl⟩:=map_some h;simp only[execOp,ho];exact QC (jG hs h1 (Kd x (by rw[ho];simp[Op.operands]) b h2) (Kd y (by rw[ho];simp[Op.operands]) d h3));cases h;rename_i t x lo hi mx ho;split at h;rename_i b l hh m h2 h3 h4 h5;obtain⟨v,h1,rfl⟩:=map_some h;simp only[execOp,ho];exact EK hs (abu h1 (Kd x (by rw[ho];simp[Op.operands]) b h2) (xT (λy hy=>Kd y (by rw[ho];simp only[Op.operands,Array.mem_append];exact .inl (.inl (.inr hy)))) h3) (xT (λy hy=>Kd y (by rw[ho];simp only[Op.operands,Array.mem_append];exact .inl (.inr hy))) h4) (xT (λy hy=>Kd y (by rw[ho];simp only[Op.operands,Array.mem_append];exact .inr hy)) h5));cases h;rename_i t x k ho;obtain⟨v,h1,rfl⟩:=map_some h;obtain⟨b,h2,h3⟩:=bind_some h1;simp only[execOp,ho];exact EK hs (tV h3 (Kd x (by rw[ho];simp[Op.operands]) b h2));rename_i t x k ho;obtain⟨v,h1,rfl⟩:=map_some h;obtain⟨b,h2,h3⟩:=bind_some h1;simp only[execOp,ho];exact EK hs (abe h3 (Kd x (by rw[ho];simp[Op.operands]) b h2) w);rename_i t x y ho;split at h;rename_i b d h2 h3;obtain⟨v,h1,rfl⟩:=map_some h;simp only[execOp,ho];exact EK hs (tM h1 (Kd x (by rw[ho];simp[Op.operands]) b h2) (Kd y (by rw[ho];simp[Op.operands]) d h3));cases h;rename_i t x y ho;split at h;rename_i b d h2 h3;obtain⟨v,h1,rfl⟩:=map_some h;simp only[execOp,ho];exact EK hs (aa8 h1 (Kd x (by rw[ho];simp[Op.operands]) b h2) (Kd y (by rw[ho];simp[Op.operands]) d h3) w);cases h;rename_i t x k ok ho;split at h;rename_i b d h2 h3;obtain⟨v,h1,rfl⟩:=map_some h;simp only[execOp,ho];exact EK hs (xR hs h1 (Kd x (by rw[ho];simp[Op.operands]) b h2) (Kd k (by rw[ho];simp[Op.operands]) d h3));cases h;rename_i t m k x ho;split at h;rename_i b d e h2 h3 h4;obtain⟨s',h1,rfl⟩:=map_some h;simp only[execOp,ho];exact Vm (dG hs h1 (Kd m (by rw[ho];simp[Op.operands]) b h2) (Kd k (by rw[ho];simp[Op.operands]) d h3) (Kd x (by rw[ho];simp[Op.operands]) e h4));cases h;rename_i t m k x ho;split at h;rename_i b d e h2 h3 h4;obtain⟨s',h1,rfl⟩:=map_some h;simp only[execOp,ho];exact Vm (dG hs h1 (Kd m (by rw[ho];simp[Op.operands]) b h2) (Kd k (by rw[ho];simp[Op.operands]) d h3) (Kd x (by rw[ho];simp[Op.operands]) e h4));cases h;rename_i t m k ho;split at h;rename_i b d h2 h3;obtain⟨v,h1,rfl⟩:=map_some h;simp only[execOp,ho];obtain⟨u,w',q1,q2⟩:=pB hs h1 (Kd m (by rw[ho];simp[Op.operands]) b h2) (Kd k (by rw[ho];simp[Op.operands]) d h3);exact QC ⟨u,w',c,q1,q2⟩;cases h;rename_i t m st x ho;split at h;rename_i b d e h2 h3 h4;obtain⟨s',h1,rfl⟩:=map_some h;simp only[execOp,ho];exact Vm (gI hs h1 (Kd m (by rw[ho];simp[Op.operands]) b h2) (Kd st (by rw[ho];simp[Op.operands]) d h3) (Kd x (by rw[ho];simp[Op.operands]) e h4));cases h;rename_i x k ho;obtain⟨v,h1,rfl⟩:=map_some h;obtain⟨b,h2,h3⟩:=bind_some h1;simp only[execOp,ho];exact EK hs (uL h3 (Kd x (by rw[ho];simp[Op.operands]) b h2) w);rename_i cl ho;simp only[execOp,ho];exact adt hs (λx hx=>Kd x (by rw[ho];exact hx)) h;rename_i x ho;split at h;rename_i t v h1;cases h;have hr:=Kd x (by rw[ho];simp[Op.operands]) _ h1;simp only[execOp,ho];generalize ρ x=vx at hr;cases hr with
 | TW q=>exact⟨_,by simp[Instr.panic],.TW q⟩
 cases h;cases h
def xS{P:Program}{G:Bh}{c:Cx}{w:World}{s:AS}{ρ:Operand->Value}{o:Oper}{e:TypeId}{z:AV}{id:Nat}(hs:St G c w s)(ho:o.op=.alloc e)(hz:JF P e=some z)(hid:c.C6[id]?=some none)(wA:s.get id=some (.cells (cellsOf z))) :
   ∃u w' c',(execOp ρ o).run P w=.ok (.value u) w'/\Mon c w c' w'/\St G c' w' s/\Rp c' w' (.ptr id 0) u/\(∀c0 w0,Ext c0 w0 c w->c0.C6.length<=id->Ext c0 w0 c' w')/\∀i,i≠id->c'.C6[i]?=c.C6[i]?:=by
 obtain⟨zv,zM,hzp⟩:=Yb hz c w w;obtain⟨v',w',c',h2,h3⟩:=abE (P:=P) (t:=e) hs hzp (kQ hz) hid wA;refine⟨v',w',c',?_,h3⟩;simp only[execOp,ho];simp only[Instr.box,Sem.run_bind] at h2;simp only[Instr.alloc,Sem.run_bind,zM,Result.andThen_ok];rw[h2];simp
end AI
namespace AI
open Go Go.RowKit
def WJ(acc:List Nat):List Edge->Nat
 | []=>0
 | e::es=>if Region.binds .any e then WJ acc es ||| 2 ^ e.on ||| acc.getD e.on 0 else WJ acc es
def LS:List Oper->List Nat->List Nat
 | [],acc=>acc
 | o::os,acc=>LS os (acc++[WJ acc o.after.toList])
def Met(L:Nat->Bool)(o:Oper):Prop:=∀e∈o.after,Region.binds .any e=true->L e.on=true
def TJ(ops:List Oper)(L:Nat->Bool):Prop:=∀i o,ops[i]?=some o->L i=true->Met L o
def abK{ops:List Oper}{L:Nat->Bool}(hc:TJ ops L){acc:List Nat}(uF:∀(j:Nat) m,acc[j]?=some m->∀o,ops[j]?=some o->∀i,m.testBit i=true->Met L o->L i=true)(hlen:acc.length<=ops.length)
   (es:List Edge) {i:Nat} (hb:(WJ acc es).testBit i=true) (hm:∀e∈es,Region.binds .any e=true->L e.on=true):L i=true:=by
 induction es with
 | nil=>simp[WJ] at hb
 | cons e es ih =>
   simp only[WJ] at hb;split at hb;rename_i hbe;rw[Nat.testBit_or,Nat.testBit_or,Bool.or_eq_true,Bool.or_eq_true] at hb;have he:=hm e List.mem_cons_self hbe;rcases hb with (hb | hb) | hb
   exact ih hb (λe he=>hm e (List.mem_cons_of_mem _ he));rw[Nat.testBit_two_pow] at hb;have:e.on=i:=by simpa using hb
   rw[<- this];exact he;rw[List.getD_eq_getElem?_getD] at hb;cases hg:acc[e.on]? with
   | none=>rw[hg] at hb;simp at hb
   | some m =>
     rw[hg] at hb;have hl:=(List.getElem?_eq_some_iff.1 hg).1;have jJ:e.on < ops.length:=by omega
     exact uF e.on m hg ops[e.on] (List.getElem?_eq_getElem jJ) i hb (hc e.on _ (List.getElem?_eq_getElem jJ) he)
   exact ih hb (λe he=>hm e (List.mem_cons_of_mem _ he))
def ad1{ops:List Oper}{L:Nat->Bool}(hc:TJ ops L):∀(os:List Oper) (acc:List Nat),(∀k,os[k]?=ops[acc.length+k]?)->acc.length<=ops.length->(∀(j:Nat) m,acc[j]?=some m->∀o,ops[j]?=some o->∀i,m.testBit i=true->Met L o->L i=true) ->
   ∀(j:Nat) m,(LS os acc)[j]?=some m->∀o,ops[j]?=some o->∀i,m.testBit i=true->Met L o->L i=true:=by
 intro os
 induction os with
 | nil=>intro acc _ _ uF;exact uF
 | cons o os ih =>
   intro acc hk hl uF;have h0:ops[acc.length]?=some o:=by have:=hk 0;simpa using this.symm
   have IJ:=(List.getElem?_eq_some_iff.1 h0).1;refine ih (acc++[WJ acc o.after.toList]) (λk=>?_) (by simp;omega) (λj m hj o' ho' i hb hm=>?_);have:=hk (k+1);simp only[List.getElem?_cons_succ] at this;rw[this];congr 1;simp;omega;by_cases hjl:j < acc.length;rw[List.getElem?_append_left hjl] at hj;exact uF j m hj o' ho' i hb hm;have jJ:=(List.getElem?_eq_some_iff.1 hj).1;simp at jJ;have:j=acc.length:=by omega
   subst this;rw[List.getElem?_concat_length] at hj;cases hj;rw[h0] at ho';cases ho';exact abK hc uF hl _ hb (λe he=>hm e (Array.mem_toList_iff.1 he))
def YV(ms:List Nat)(j i:Nat):Bool:=(ms.getD j 0).testBit i
def qD{ops:List Oper}{L:Nat->Bool}(hc:TJ ops L){j i:Nat}{o:Oper}(ho:ops[j]?=some o)(hm:Met L o)(hd:YV (LS ops []) j i=true):L i=true:=by
 unfold YV at hd;rw[List.getD_eq_getElem?_getD] at hd;cases hg:(LS ops [])[j]? with
 | none=>rw[hg] at hd;simp at hd
 | some m =>
   rw[hg] at hd;exact ad1 hc ops [] (λk=>by simp) (by simp) (λj m h=>by simp at h) j m hg o ho i hd hm
def quiet:Op->Bool
 | .move _ | .assign _ | .pick .. | .build .. | .buildSlice .. | .load .. | .nilCheck _ | .binOp .. | .unOp .. | .convert .. | .makeInterface .. | .makeFunc .. | .slice .. | .fieldAddr .. | .field .. | .indexAddr .. | .index .. | .lookup .. | .extract ..=>true
 | .call cl=>(match cl.callee with
   | .builtin .len | .builtin .max | .builtin .min=>true
   | _=>false)
 | _=>false
def BG:Op->Bool
 | .alloc _=>true
 | _=>false
def Ku{op:Op}(h:BG op=true):∃e,op=.alloc e:=by
 unfold BG at h;split at h;exact⟨_,rfl⟩;cases h
def calm(op:Op):Bool:=match BG op with
 | true=>true
 | false=>quiet op
def dV{op:Op}(h:quiet op=true):calm op=true:=by
 unfold calm;cases BG op;exact h;rfl
def WN{op:Op}(h:calm op=true):quiet op=true\/∃e,op=.alloc e:=by
 unfold calm at h;cases ha:BG op with
 | true=>exact .inr (Ku ha)
 | false=>rw[ha] at h;exact .inl h
def u6:List Oper->Nat->Nat
 | _,0=>0
 | [],_+1=>0
 | o::l,n+1=>(match BG o.op with | true=>1 | false=>0)+u6 l n
def rk(ops:Array Oper)(i:Nat):Nat:=u6 ops.toList i
def oC{l:List Oper}{i j:Nat}{o:Oper}(ho:l[i]?=some o)(ha:BG o.op=true)(h:i < j):u6 l i < u6 l j:=by
 induction l generalizing i j with
 | nil=>simp at ho
 | cons x l ih =>
   cases j with
   | zero=>omega
   | succ j =>
     cases i with
     | zero =>
       simp at ho;subst ho;simp only[u6,ha];omega
     | succ i =>
       have:=ih (i:=i) (j:=j) (by simpa using ho) (by omega)
       simp only[u6];omega
def akF{ops:Array Oper}{i j:Nat}{x y:Oper}(hx:ops[i]?=some x)(hy:ops[j]?=some y)(hxa:BG x.op=true)(YY:BG y.op=true)(h:rk ops i=rk ops j):i=j:=by
 have qO:ops.toList[i]?=some x:=by rw[Array.getElem?_toList];exact hx
 have hy':ops.toList[j]?=some y:=by rw[Array.getElem?_toList];exact hy
 unfold rk at h;rcases Nat.lt_trichotomy i j with IJ | he | IJ
 have:=oC qO hxa IJ;omega;exact he;have:=oC hy' YY IJ;omega
def SM(ops:Array Oper)(x y:Oper):Bool :=
 (!calm x.op&&!calm y.op) ||
 (match x.dst with
  | some d=>(y.looksAt ops).contains d||y.dst == some d
  | none=>false) ||
 (match y.dst with
  | some d=>(x.looksAt ops).contains d
  | none=>false)
def dN(ops:Array Oper)(ms:List Nat)(j:Nat)(y:Oper):List Oper->Nat->Bool
 | [],_=>true
 | x::xs,i=>(if i < j then !SM ops x y||YV ms j i else true)&&dN ops ms j y xs (i+1)
def cQ(ops:Array Oper)(ms:List Nat):List Oper->Nat->Bool
 | [],_=>true
 | y::ys,j=>dN ops ms j y ops.toList 0&&(y.after.toList.all λe=>!Region.binds .any e||decide (e.on < j))&&cQ ops ms ys (j+1)
def PF(ops:Array Oper):Bool:=cQ ops (LS ops.toList []) ops.toList 0
def abA{ops:Array Oper}{ms:List Nat}{j:Nat}{y:Oper}:∀(xs:List Oper) (i:Nat),dN ops ms j y xs i=true->∀k x,xs[k]?=some x->i+k < j->SM ops x y=true->YV ms j (i+k)=true:=by
 intro xs
 induction xs with
 | nil=>intro i _ k x hx;simp at hx
 | cons z xs ih =>
   intro i h k x hx IJ Iv;simp only[dN,Bool.and_eq_true] at h;cases k with
   | zero =>
     simp at hx;subst hx;rw[Nat.add_zero] at IJ ⊢;have:=h.1;rw[if_pos IJ,Iv] at this;simpa using this
   | succ k =>
     have:=ih (i+1) h.2 k x (by simpa using hx) (by omega) Iv
     rwa[show i+1+k=i+(k+1) from by omega] at this
def dY{ops:Array Oper}{ms:List Nat}:∀(ys:List Oper) (j:Nat),cQ ops ms ys j=true->∀k y,ys[k]?=some y->dN ops ms (j+k) y ops.toList 0=true/\∀e∈y.after,Region.binds .any e=true->e.on < j+k:=by
 intro ys
 induction ys with
 | nil=>intro j _ k y hy;simp at hy
 | cons z ys ih =>
   intro j h k y hy;simp only[cQ,Bool.and_eq_true] at h;cases k with
   | zero =>
     simp at hy;subst hy;refine⟨h.1.1,λe he hb=>?_⟩;have:=List.all_eq_true.1 h.1.2 e (Array.mem_toList_iff.2 he);rw[hb] at this;simpa using this
   | succ k =>
     have:=ih (j+1) h.2 k y (by simpa using hy)
     rwa[show j+1+k=j+(k+1) from by omega] at this
def kJ{ops:Array Oper}(h:PF ops=true){i j:Nat}{x y:Oper}(hx:ops[i]?=some x)(hy:ops[j]?=some y)(IJ:i < j)(hc:SM ops x y=true):YV (LS ops.toList []) j i=true:=by
 have h1:=(dY ops.toList 0 h j y (by rw[Array.getElem?_toList];exact hy)).1;rw[Nat.zero_add] at h1;have:=abA ops.toList 0 h1 i x (by rw[Array.getElem?_toList];exact hx) (by omega) hc;rwa[Nat.zero_add] at this
def aei{ops:Array Oper}(h:PF ops=true){j:Nat}{y:Oper}(hy:ops[j]?=some y){e:Edge}(he:e∈y.after)(hb:Region.binds .any e=true):e.on < j:=by
 have:=(dY ops.toList 0 h j y (by rw[Array.getElem?_toList];exact hy)).2 e he hb;omega
def Pt(fr:List AV)(dst:Option Tmp)(v:AV):List AV:=match dst with
 | some d=>fr.set d v
 | none=>fr
def aaf{c:Cx}{w:World}{fr:List AV}{a:Act}{dst:Option Tmp}{v:AV}{u:Value}(h:C8 c w fr a.tmps.toList)(hv:Rp c w v u):C8 c w (Pt fr dst v) (a.put dst u).tmps.toList:=by
 cases dst with
 | none=>exact h
 | some d=>simp only[Pt,Act.put,Array.toList_setIfInBounds];exact h.set hv d
def Mr(f0:List AV)(dst:Nat->Option Tmp)(vals:Nat->AV)(L:Nat->Bool):Nat->List AV
 | 0=>f0
 | n+1=>if L n then Pt (Mr f0 dst vals L n) (dst n) (vals n) else Mr f0 dst vals L n
def Uz{fr:List AV}{dst:Option Tmp}{v:AV}{t:Nat}(h:dst≠some t):(Pt fr dst v)[t]?=fr[t]?:=by
 cases dst with
 | none=>rfl
 | some d=>exact List.getElem?_set_ne (λe=>h (by rw[e]))
def adW{fr:List AV}{dst:Option Tmp}{v:AV}:(Pt fr dst v).length=fr.length:=by cases dst<;>simp[Pt]
def Ro{fr:List AV}{v:AV}{t:Nat}:(Pt fr (some t) v)[t]?=if t < fr.length then some v else none:=by simp[Pt,List.getElem?_set]
def bX(f0:List AV)(dst:Nat->Option Tmp)(vals:Nat->AV)(L:Nat->Bool)(n:Nat):(Mr f0 dst vals L n).length=f0.length:=by
 induction n with
 | zero=>rfl
 | succ n ih=>simp only[Mr];split<;>simp[adW,ih]
def iP{f0:List AV}{dst:Nat->Option Tmp}{vals:Nat->AV}{L M:Nat->Bool}{t:Nat}:∀(n:Nat),(∀i,i < n->dst i=some t->L i=M i)->(Mr f0 dst vals L n)[t]?=(Mr f0 dst vals M n)[t]?:=by
 intro n
 induction n with
 | zero=>intro _;rfl
 | succ n ih =>
   intro h;have ih:=ih (λi hi hd=>h i (by omega) hd);by_cases hd:dst n=some t;have:=h n (by omega) hd;simp only[Mr,this];split;rw[hd,Ro,Ro,bX,bX];exact ih
   have e:∀K:Nat->Bool,(Mr f0 dst vals K (n+1))[t]?=(Mr f0 dst vals K n)[t]?:=by
     intro K;simp only[Mr];split;exact Uz hd;rfl
   rw[e,e,ih]
def aaU{f0:List AV}{dst:Nat->Option Tmp}{vals:Nat->AV}{L:Nat->Bool}{t j:Nat}:∀(n:Nat),j<=n->(∀i,j<=i->i < n->dst i=some t->L i=false)->(Mr f0 dst vals L n)[t]?=(Mr f0 dst vals L j)[t]?:=by
 intro n
 induction n with
 | zero=>intro hj _;have:j=0:=by omega
         subst this;rfl
 | succ n ih =>
   intro hj h;by_cases hn:j=n+1;subst hn;rfl;have ih:=ih (by omega) (λi h1 h2 hd=>h i h1 (by omega) hd);rw[<- ih];simp only[Mr];split;rename_i hL;by_cases hd:dst n=some t;have:=h n (by omega) (by omega) hd;rw[this] at hL;cases hL;exact Uz hd;rfl
end AI
