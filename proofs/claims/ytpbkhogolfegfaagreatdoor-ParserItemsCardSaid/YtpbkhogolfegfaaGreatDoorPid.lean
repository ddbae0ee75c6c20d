/- Part of a proof: see the last text. -/
import Derived.Test.YtpbkhogolfegfaaGreatDoorPic
import Derived.IntWalk
set_option linter.unusedVariables false
set_option linter.unusedSimpArgs false
set_option linter.defProp false
noncomputable section
namespace AI
open Go Go.RowKit
def aA{P:Program}{G:Bc}{c:Cx}{w:World}{s s':AS}{t:TypeId}{l k r:AV}{vl vk:Value}(hs:St G c w s)(h:JN P s t l k=some (r,s'))(hl:Rp c w l vl)(hk:Rp c w k vk) :
   ∃u w' c',(Instr.makeSlice t vl vk).run P w=.ok u w'/\Ext c w c' w'/\St G c' w' s'/\Rp c' w' r u:=by
 unfold JN at h;split at h;rename_i elem hu;split at h;rename_i e n m he hn hm;split at h;rename_i z hz;split at h;rename_i zs hzs;split at h;rename_i hc;cases h;obtain⟨rfl,h24,h48,KE⟩:=hc;obtain⟨k1,i1,rfl,h1,e1⟩:=NC hn hl;obtain⟨k2,i2,rfl,h2,e2⟩:=NC hm hk;have w1:IntKind.i64.wrap i1=i1:=IntWalk.i64_in _ (by omega);have w2:IntKind.i64.wrap i2=i2:=IntWalk.i64_in _ (by omega);have tC:CY c w zs z.cells.toList:=Ri hzs c w;have hin:=nU tC (n*e.size) (λ_ hn=>by rw[hn] at KE;cases KE);simp only[Array.toArray_toList] at hin
 have abr:(Array.range (n*e.size)).map (λi=>z.cells[i % z.cells.size]!)=((List.range (n*e.size)).map λi=>z.cells[i % z.cells.size]!).toArray:=by
   apply Array.ext';simp
 obtain⟨x,st⟩:=hs.new (b:=.cells ((List.range (n*e.size)).map λi=>zs.getD (i % zs.length) (.sc undef))) (o:=.cells ((List.range (n*e.size)).map λi=>z.cells[i % z.cells.size]!).toArray elem (0,0)) (.cells hin);refine⟨.slice (some ⟨w.heap.size,0,none⟩) n n,_,_,?_,x,st,.Oo (Nat.le_refl _) (by simp[hs.len])⟩
 have hb:¬281474976710656 < (e.bytes:Int)*i2:=by
   have e3:(e.bytes:Int)*i2=((n*e.bytes:Nat):Int):=by
     rw[show i2=(n:Int) from by omega,Int.natCast_mul,Int.mul_comm]
   rw[e3];generalize n*e.bytes=q at h48;omega
 have hn2:¬i2 < 0:=by omega
 have bN:¬i1 < 0:=by omega
 have hle:¬i2 < i1:=by omega
 simp only[Instr.makeSlice,Sem.run_bind,run_underlying hu,Result.andThen_ok,asInt,asIntOf,Sem.run_pure,typeInfo,run_program,he,w1,w2,bN,hn2,gt_iff_lt,show(2:Int) ^ 48=281474976710656 from rfl,hb,decide_false,Bool.or_false,hle,Bool.false_eq_true,if_false,run_askRoom,e2,C7 he,newRow,e1];split;rename_i h0;have Y2:Array.range 0=#[]:=rfl;simp[h0,Y2];simp only[Sem.run_bind,zeroValue,typeInfo,run_program,Result.andThen_ok,he,hz,Sem.run_pure,run_newObj,abr];cases h;cases h;cases h;cases h;cases h
def P7(P:Program)(s:AS)(t:TypeId)(x k:AV):Option (AV×AS) :=
 match P.underlying t with
 | some (.map kt et)=>match P.underlying kt,ZF k,x with
   | some kd,some key,.mp id=>if plainKey kd=true then
       (match s.get id with
       | some (.map es cl)=>match Yh kd key es 0 with
         | some (some (j,v))=>match es[j]? with
           | some e=>some (.C6 [v,.sc (.int .i64 e.2.2)],(s.put id (.map (es.set j (key,v,e.2.2)) cl)))
           | none=>none
         | some none=>match MP P et with
           | some z=>some (.C6 [z,.sc (.int .i64 cl)],(s.put id (.map (es++[(key,z,cl)]) (cl+1))))
           | none=>none
         | none=>none
       | _=>none) else none
   | _,_,_=>none
 | _=>none
def dW{P:Program}{G:Bc}{c:Cx}{w:World}{s s':AS}{t:TypeId}{x k r:AV}{vx vk:Value}(hs:St G c w s)(h:P7 P s t x k=some (r,s'))(hx:Rp c w x vx)(hk:Rp c w k vk) :
   ∃u w',(Instr.mapEntry t vx vk).run P w=.ok u w'/\Ext c w c w'/\St G c w' s'/\Rp c w' r u:=by
 unfold P7 at h;split at h
 . rename_i kt et hu
   split at h
   . rename_i kd key id aH abC
     have:=VF abC hk;subst this;split at h
     . rename_i hp
       split at h
       . rename_i es cl hb
         cases hx with
         | @mp _ g hid =>
           obtain⟨fs,hw,he⟩:=U2 hs hid hb;split at h;rename_i j v hf;split at h;rename_i e hej;cases h;rcases P6 he hf with ⟨h1,_⟩ | ⟨j',a',v',e',f,h1,h2,h3,h4,h5,h6,h7,h8,h9,h10⟩
           cases h1;injection h1 with h1
           injection h1 with h1 h1'
           rw[Nat.zero_add] at h1;subst h1 h1';rw[hej] at h4;cases h4;rw[Nat.zero_add] at h2;have abF:fs.toArray.modify j (λe=>{ e with key:=vk })=(fs.set j ⟨vk,v',e.2.2⟩).toArray:=Ug h5 (by rw[<- h9,<- h7])
           obtain⟨x1,st⟩:=hs.put (b:=.map (es.set j (vk,v,e.2.2)) cl) (o:=.map (fs.set j ⟨vk,v',e.2.2⟩).toArray cl) hid (U5 w g _) (VC w hw) (.map (he.set h3 j));refine⟨.tuple #[v',.int .i64 e.2.2],_,?_,x1,st,.C6 (vs:=[v',.int .i64 e.2.2]) (.cons (h3.mono x1) (.cons (.sc rfl) .nil))⟩;have abv:=Zx h10;have hfk:=run_findKey (P:=P) aH h2 w;simp only[Instr.mapEntry,Sem.run_bind,run_underlying hu,Result.andThen_ok,J7 hw,run_checkKey _ aH hp,hfk,List.getElem?_toArray,h5,Option.map_some,Option.getD_some,h8,h9,Instr.keyThatStays,abv,if_true,Sem.run_pure,abF,OL _ hw,goInt];cases h;rename_i hf;split at h;rename_i z hz;cases h;rcases P6 he hf with ⟨_,h2⟩ | ⟨j',a',v',e',f,h1,_⟩
           obtain⟨zv,tC,hzp⟩:=U0 hz c w w;obtain⟨x1,st⟩:=hs.put (b:=.map (es++[(vk,z,cl)]) (cl+1)) (o:=.map (fs++[(⟨vk,zv,cl⟩:MapEntry)]).toArray (cl+1)) hid (U5 w g _) (VC w hw) (.map (he.snoc hzp));refine⟨.tuple #[zv,.int .i64 cl],_,?_,x1,st,.C6 (vs:=[zv,.int .i64 cl]) (.cons (hzp.mono x1) (.cons (.sc rfl) .nil))⟩;have hfk:=run_findKey (P:=P) aH h2 w;have abI:fs.toArray.push (⟨vk,zv,cl⟩:MapEntry)=(fs++[(⟨vk,zv,cl⟩:MapEntry)]).toArray:=by simp
           simp only[Instr.mapEntry,Sem.run_bind,run_underlying hu,Result.andThen_ok,J7 hw,run_checkKey _ aH hp,hfk,tC,abI,OL _ hw,Sem.run_pure,goInt];cases h1;cases h;cases h
       cases h
     cases h
   cases h
 cases h
def iW(b:Int):List (Value×AV×Nat)->Nat->Option Nat
 | [],_=>none
 | e::es,i=>if (e.2.2:Int) == b then some i else iW b es (i+1)
def aah{c:Cx}{w:World}{b:Int}{es:List (Value×AV×Nat)}{fs:List MapEntry}(h:K0 c w es fs):fs.findIdx? (λe=>(e.born:Int) == b)=iW b es 0:=by
 have key:∀(es:List (Value×AV×Nat)) (fs:List MapEntry) (i:Nat),K0 c w es fs->iW b es i=(fs.findIdx? (λe=>(e.born:Int) == b)).map (·+i):=by
   intro es fs i h
   induction h generalizing i with
   | nil=>rfl
   | cons _ _ ih =>
     simp only[iW,List.findIdx?_cons];split;simp;rw[ih,Option.map_map];congr 1;funext x;simp;omega
 rw[key es fs 0 h];simp
def MN(s:AS)(x st v:AV):Option AS :=
 match x,st with
 | .mp id,.sc (.int _ b)=>match s.get id with
   | some (.map es cl)=>match iW b es 0 with
     | some j=>match es[j]? with
       | some e=>some (s.put id (.map (es.set j (e.1,v,e.2.2)) cl))
       | none=>none
     | none=>none
   | _=>none
 | _,_=>none
def K0.get{c:Cx}{w:World}{es:List (Value×AV×Nat)}{fs:List MapEntry}(h:K0 c w es fs){j:Nat}{e:Value×AV×Nat}(he:es[j]?=some e):∃f,fs[j]?=some f/\f.key=e.1/\f.born=e.2.2:=by
 induction h generalizing j with
 | nil=>simp at he
 | cons h1 _ ih =>
   cases j with
   | zero=>simp at he;subst he;exact⟨_,rfl,rfl,rfl⟩
   | succ j=>simpa using ih (by simpa using he)
def Ye{P:Program}{G:Bc}{c:Cx}{w:World}{s s':AS}{t:TypeId}{x st v:AV}{vx vs vv:Value}(hs:St G c w s)(h:MN s x st v=some s')(hx:Rp c w x vx)(Gz:Rp c w st vs)(hv:Rp c w v vv) :
   ∃w',(Instr.entryStore t vx vs vv).run P w=.ok () w'/\Ext c w c w'/\St G c w' s':=by
 unfold MN at h;split at h
 . rename_i id k b
   split at h
   . rename_i es cl hb
     split at h
     . rename_i j hj
       split at h
       . rename_i e hej
         cases h;cases Gz;cases hx with
         | @mp _ g hid =>
           obtain⟨fs,hw,he⟩:=U2 hs hid hb;obtain⟨f,hf,hfk,hfb⟩:=he.get hej;have abF:fs.toArray.modify j (λe=>{ e with val:=vv })=(fs.set j ⟨e.1,vv,e.2.2⟩).toArray:=Ug hf (by rw[<- hfk,<- hfb])
           obtain⟨x1,st⟩:=hs.put (b:=.map (es.set j (e.1,v,e.2.2)) cl) (o:=.map (fs.set j ⟨e.1,vv,e.2.2⟩).toArray cl) hid (U5 w g _) (VC w hw) (.map (he.set hv j));refine⟨_,?_,x1,st⟩
           have hfi:fs.toArray.findIdx? (λe=>(e.born:Int) == b)=some j:=by
             rw[List.findIdx?_toArray,aah he,hj]
           simp only[Instr.entryStore,Sem.run_bind,Result.andThen_ok,J7 hw,asInt,asIntOf,Sem.run_pure,hfi,abF];exact OL _ hw
       cases h
     cases h
   cases h
 cases h
end AI
namespace AI
open Go Go.RowKit
def byteOf:AV->Option UInt8
 | .sc (.int .u8 n)=>some (UInt8.ofNat n.toNat)
 | _=>none
def bytesOf:List AV->Option (List UInt8)
 | []=>some []
 | a::l=>match byteOf a,bytesOf l with
   | some b,some m=>some (b::m)
   | _,_=>none
def WJ(P:Program)(src dst:TypeId):AV->Option AV
 | .sc v=>WM P (convert src dst v)
 | .sl _ n cs=>match P.underlying src,P.underlying dst with
   | some (.slice e),some .string=>(match P.underlying e with
     | some (.int .u8)=>if n=cs.length then (bytesOf cs).map λl=>.sc (.string ⟨l.toArray⟩) else none
     | _=>none)
   | _,_=>none
 | _=>none
def wC{c:Cx}{w:World}{a:AV}{b:UInt8}{v:Value}(h:byteOf a=some b)(hr:Rp c w a v):∃n,v=.int .u8 n/\UInt8.ofNat n.toNat=b:=by
 unfold byteOf at h;split at h;cases h;cases hr;exact⟨_,rfl,rfl⟩;cases h
def uB(s:ByteArray)(l:List UInt8):ByteArray:=l.foldl ByteArray.push s
def lH:∀(l:List UInt8) (s:ByteArray),uB s l=⟨s.data++l.toArray⟩
 | [],s=>by simp[uB]
 | b::l,s=>by
   have:=lH l (s.push b);unfold uB at this ⊢;rw[List.foldl_cons,this];simp[ByteArray.push]
def Yr{P:Program}{c:Cx}{w w0:World}:∀{cs:List AV} {vs:List Value} {l:List UInt8} (s:ByteArray),CY c w cs vs->bytesOf cs=some l ->
   (forIn vs s λ(x:Value) (s:ByteArray)=>(match x with
     | .int .u8 n=>(pure (ForInStep.yield (s.push (UInt8.ofNat n.toNat))):Sem (ForInStep ByteArray))
     | _=>((λ_=>ForInStep.yield s) <$> (stuck "bytesToString: byte expected":Sem PUnit):Sem (ForInStep ByteArray)))).run P w0=.ok (uB s l) w0
 | [],_,_,s,h,hb=>by cases h;cases hb;rfl
 | a::cs,_,l,s,h,hb=>by
   cases h with
   | cons h1 t =>
     simp only[bytesOf] at hb;split at hb;rename_i b m h2 h3;cases hb;obtain⟨n,rfl,rfl⟩:=wC h2 h1;have:=Yr (P:=P) (w0:=w0) (s.push (UInt8.ofNat n.toNat)) t h3;simp only[List.forIn_cons,Sem.run_bind,Sem.run_pure,Result.andThen_ok];exact this;cases hb
def aaj{P:Program}{c:Cx}{w:World}{src dst:TypeId}{a r:AV}{v:Value}(h:WJ P src dst a=some r)(hr:Rp c w a v):∃u,(convert src dst v).run P w=.ok u w/\Rp c w r u:=by
 unfold WJ at h;split at h;cases hr;obtain⟨z,h1,h2⟩:=UX h c w w;exact⟨z,h1,h2⟩
 . rename_i own n cs
   split at h
   . rename_i e hs hd
     split at h
     . rename_i he
       split at h
       . rename_i hn
         obtain⟨l,hb,rfl⟩:=Option.map_eq_some_iff.1 h;refine⟨.string ⟨l.toArray⟩,?_,.sc rfl⟩;unfold convert;cases hr with
         | @KA _ A cap h0 =>
           cases hb;cases A<;>simp[Sem.run_bind,run_underlying hs,run_underlying hd,run_underlying he,Conv.bytesToString,loadCells,loadCellsFrom]<;>rfl
         | @No _ _ cap g o _ hn' hc ho =>
           obtain⟨vs,hvs,NH⟩:=hc.vals;have hlen:=hvs.len;have hld:=run_loadCells_list (P:=P) w ⟨g,o,none⟩ vs (λj v hj=>by rw[add_lit];exact(NH j v hj).2.2);rw[hlen,<- hn] at hld;have hlp:=Yr (P:=P) (w0:=w) ByteArray.empty hvs hb;rw[lH] at hlp;simp[Sem.run_bind,run_underlying hs,run_underlying hd,run_underlying he,Conv.bytesToString,hld];refine(congrArg (λr=>r.andThen λ(a:ByteArray) w'=>Result.ok (Value.string a) w') hlp).trans ?_;simp[ByteArray.empty,ByteArray.emptyWithCapacity];rfl
       cases h
     cases h
   cases h
 cases h
end AI
namespace AI
open Go Go.RowKit
def Bg(G:Bc)(fr:List AV):Operand->Option AV
 | .tmp t=>some (fr.getD t (.sc undef))
 | .const v=>W7 v
 | .global g=>(G g).map .el
 | .func f=>some (.fn (.func f) [] [])
def Gm{G:Bc}{c:Cx}{w:World}{s:AS}{fr:List AV}{a:Act}{x:Operand}{v:AV}(hs:St G c w s)(hf:CY c w fr a.tmps.toList)(h:Bg G fr x=some v):Rp c w v (a.eval x):=by
 cases x with
 | tmp t =>
   simp only[Bg,Option.some.injEq] at h;subst h;simp only[Act.eval];rw[List.getD_eq_getElem?_getD];cases hg:fr[t]? with
   | some b =>
     obtain⟨u,hu,hr⟩:=hf.get hg;rw[Array.getElem?_toList] at hu;simp[hu,hr]
   | none =>
     have hl:=hf.len;have h1:=List.getElem?_eq_none_iff.1 hg;have h2:a.tmps[t]?=none:=Array.getElem?_eq_none (by rw[<- Array.length_toList];omega);simp only[Array.getD_eq_getD_getElem?,h2,Option.getD_none];exact .sc rfl
 | const v=>exact kX h c w
 | global g =>
   simp only[Bg] at h;cases hg:G g with
   | none=>rw[hg] at h;cases h
   | some cs=>rw[hg] at h;cases h;exact .el (hs.PH g cs hg)
 | func f=>simp only[Bg,Option.some.injEq] at h;subst h;exact .fn (us:=[]) (vs:=[]) .nil .nil
def aC(G:Bc)(fr:List AV):List Operand->Option (List AV)
 | []=>some []
 | x::xs=>match Bg G fr x,aC G fr xs with
   | some a,some as=>some (a::as)
   | _,_=>none
abbrev Z8(G:Bc)(c:Cx)(w:World)(fr:List AV)(ρ:Operand->Value)(x:Operand):Prop:=∀v,Bg G fr x=some v->Rp c w v (ρ x)
def YG{G:Bc}{c:Cx}{w:World}{fr:List AV}{ρ:Operand->Value}{xs:List Operand}{vs:List AV}(I6:∀x∈xs,Z8 G c w fr ρ x)(h:aC G fr xs=some vs):CY c w vs (xs.map ρ):=by
 induction xs generalizing vs with
 | nil=>simp[aC] at h;subst h;exact .nil
 | cons x xs ih =>
   simp only[aC] at h;split at h;rename_i b bs h1 h2;cases h;exact .cons (I6 x List.mem_cons_self b h1) (ih (λy hy=>I6 y (List.mem_cons_of_mem _ hy)) h2);cases h
def My(G:Bc)(fr:List AV):List (Nat×Operand)->Option (List (Nat×AV))
 | []=>some []
 | x::xs=>match Bg G fr x.2,My G fr xs with
   | some a,some as=>some ((x.1,a)::as)
   | _,_=>none
def YF{G:Bc}{c:Cx}{w:World}{fr:List AV}{ρ:Operand->Value}{xs:List (Nat×Operand)}{vs:List (Nat×AV)}(I6:∀x∈xs,Z8 G c w fr ρ x.2)(h:My G fr xs=some vs):PL c w vs (xs.map λx=>(x.1,ρ x.2)):=by
 induction xs generalizing vs with
 | nil=>simp[My] at h;subst h;exact .nil
 | cons x xs ih =>
   simp only[My] at h;split at h;rename_i b bs h1 h2;cases h;exact .cons (I6 x List.mem_cons_self b h1) (ih (λy hy=>I6 y (List.mem_cons_of_mem _ hy)) h2);cases h
def iO(G:Bc)(fr:List AV):Option Operand->Option (Option AV)
 | none=>some none
 | some x=>(Bg G fr x).map some
def oT{G:Bc}{c:Cx}{w:World}{fr:List AV}{ρ:Operand->Value}{x:Option Operand}{v:Option AV}(I6:∀y∈x.toArray,Z8 G c w fr ρ y)(h:iO G fr x=some v):RO c w v (x.map ρ):=by
 cases x with
 | none=>simp[iO] at h;subst h;exact .none
 | some x =>
   simp only[iO] at h;cases hx:Bg G fr x with
   | none=>rw[hx] at h;cases h
   | some b=>rw[hx] at h;cases h;exact .some (I6 x (by simp) b hx)
inductive AR where
 | val (v:AV) (s:AS)
 | ent (f:FuncId) (args:List AV)
 | JK (v:AV)
def MQ(P:Program)(g:FuncId):Bool:=match P.funcs[g]? with
 | some fn=>fn.name != "runtime.NumGoroutine"&&fn.body.isSome
 | none=>false
def notNil:AV->Bool
 | .ptr _ _ | .el _=>true
 | .fn (.func _) _ _=>true
 | _=>false
def isIface:TypeDesc->Bool
 | .interface _=>true
 | _=>false
def TF(P:Program)(G:Bc)(fr:List AV)(s:AS)(o:Oper)(cl:Call):Option AR :=
 match cl.callee with
 | .builtin .len=>match cl.args.toList,cl.argTypes.toList with
   | [x],[t]=>((Bg G fr x).bind (Xh P s t)).map λv=>.val v s
   | _,_=>none
 | .builtin .append=>match cl.args.toList,cl.argTypes.toList with
   | [x,y],[t,tx]=>match Bg G fr x,Bg G fr y with
     | some a,some b=>(Mv P s t tx a b).map λr=>.val r.1 r.2
     | _,_=>none
   | _,_=>none
 | .builtin .max=>((aC G fr cl.args.toList).bind Po).bind λvs=>(WM P (Builtin.max_ cl.argTypes o.type vs.toArray)).map λv=>.val v s
 | .builtin .min=>((aC G fr cl.args.toList).bind Po).bind λvs=>(WM P (Builtin.min_ cl.argTypes o.type vs.toArray)).map λv=>.val v s
 | .value f=>match Bg G fr f,aC G fr cl.args.toList with
   | some (.fn (.func g) first Ng),some as=>if MQ P g=true then some (.ent g (first++as++Ng)) else none
   | _,_=>none
 | _=>none
def QW(P:Program)(G:Bc)(fr:List AV)(s:AS)(o:Oper):Option AR :=
 match o.op with
 | .move x=>(Bg G fr x).map λv=>.val v s
 | .assign x=>(Bg G fr x).map λv=>.val v s
 | .pick c a b=>match Bg G fr c with
   | some (.sc (.bool t))=>(if t then Bg G fr a else Bg G fr b).map λv=>.val v s
   | _=>none
 | .alloc e=>(MP P e).map λz=>.val (.ptr s.nx 0) (s.new (.cells (cellsOf z)))
 | .box _ x=>(Bg G fr x).bind λz=>match SE z with
   | true=>none
   | false=>some (.val (.ptr s.nx 0) (s.new (.cells (cellsOf z))))
 | .build t ps=>((My G fr ps.toList).bind (Yc P t)).map λv=>.val v s
 | .buildSlice t n ps=>((My G fr ps.toList).bind (MM P t n)).map λv=>.val v s
 | .load t a=>((Bg G fr a).bind (K8 P s t)).map λv=>.val v s
 | .store t a x=>match Bg G fr a,Bg G fr x with
   | some a,some x=>(Me P s t a x).map λs'=>.val (.sc undef) s'
   | _,_=>none
 | .nilCheck x=>match Bg G fr x with
   | some v=>if notNil v=true then some (.val v s) else none
   | none=>none
 | .binOp op t x y _=>match Bg G fr x,Bg G fr y with
   | some a,some b=>(L2 P op t x y a b).map λv=>.val v s
   | _,_=>none
 | .unOp op _ x=>((Bg G fr x).bind ZF).bind λv=>(WM P (Op.unary op v)).map λv=>.val v s
 | .convert src dst x=>((Bg G fr x).bind λa=>WJ P src dst a).map λv=>.val v s
 | .makeInterface t x=>match Bg G fr x,P.underlying t with
   | some v,some d=>if isIface d=true then none else some (.val (.Fv t v) s)
   | _,_=>none
 | .makeFunc f first Ng=>match aC G fr first.toList,aC G fr Ng.toList with
   | some a,some b=>some (.val (.fn f a b) s)
   | _,_=>none
 | .makeMap _ none=>some (.val (.mp s.nx) (s.new (.map [] 0)))
 | .makeSlice t l c=>match Bg G fr l,Bg G fr c with
   | some a,some b=>(JN P s t a b).map λr=>.val r.1 r.2
   | _,_=>none
 | .slice t x lo hi mx=>match Bg G fr x,iO G fr lo,iO G fr hi,iO G fr mx with
   | some a,some l,some h,some m=>(Md P t a l h m).map λv=>.val v s
   | _,_,_,_=>none
 | .fieldAddr t x k=>((Bg G fr x).bind λa=>Sj P t a k).map λv=>.val v s
 | .field t x k=>((Bg G fr x).bind λa=>Yf P t a k).map λv=>.val v s
 | .indexAddr t x i=>match Bg G fr x,Bg G fr i with
   | some a,some b=>(DB P t a b).map λv=>.val v s
   | _,_=>none
 | .index t x i=>match Bg G fr x,Bg G fr i with
   | some a,some b=>(Lx P t a b).map λv=>.val v s
   | _,_=>none
 | .lookup t x k ok=>match Bg G fr x,Bg G fr k with
   | some a,some b=>(Jm P s t a b ok).map λv=>.val v s
   | _,_=>none
 | .mapUpdate t m k x=>match Bg G fr m,Bg G fr k,Bg G fr x with
   | some a,some b,some v=>(KS P s t a b v).map λs'=>.val (.sc undef) s'
   | _,_,_=>none
 | .insert t m k x=>match Bg G fr m,Bg G fr k,Bg G fr x with
   | some a,some b,some v=>(KS P s t a b v).map λs'=>.val (.sc undef) s'
   | _,_,_=>none
 | .mapEntry t m k=>match Bg G fr m,Bg G fr k with
   | some a,some b=>(P7 P s t a b).map λr=>.val r.1 r.2
   | _,_=>none
 | .entryStore _ m st x=>match Bg G fr m,Bg G fr st,Bg G fr x with
   | some a,some b,some v=>(MN s a b v).map λs'=>.val (.sc undef) s'
   | _,_,_=>none
 | .extract x k=>((Bg G fr x).bind λa=>Si a k).map λv=>.val v s
 | .call cl=>TF P G fr s o cl
 | .panic x=>match Bg G fr x with
   | some (.Fv t v)=>some (.JK (.Fv t v))
   | _=>none
 | _=>none
def X8(_P:Program)(G:Bc)(c:Cx)(w:World)(r:Result Next):AR->Prop
 | .val v s'=>∃u w' c',(r=.ok (.value u) w'\/(r=.ok .skip w'/\u=undef))/\Ext c w c' w'/\St G c' w' s'/\Rp c' w' v u
 | .ent f args=>∃vs,r=.ok (.enter f vs.toArray) w/\CY c w args vs
 | .JK v=>∃u,r=.halt (.panic u) w/\Rp c w v u
def EF{P:Program}{G:Bc}{c:Cx}{w:World}{s:AS}{v:AV}{m:Sem Value}(hs:St G c w s)(h:∃u,m.run P w=.ok u w/\Rp c w v u):X8 P G c w ((do pure (Next.value (<- m)):Sem Next).run P w) (.val v s):=by
 obtain⟨u,h1,h2⟩:=h;exact⟨u,w,c,.inl (by simp[h1]),Ext.refl c w,hs,h2⟩
def Oe{P:Program}{G:Bc}{c:Cx}{w:World}{s':AS}{v:AV}{m:Sem Value}(h:∃u w' c',m.run P w=.ok u w'/\Ext c w c' w'/\St G c' w' s'/\Rp c' w' v u):X8 P G c w ((do pure (Next.value (<- m)):Sem Next).run P w) (.val v s'):=by
 obtain⟨u,w',c',h1,h2⟩:=h;exact⟨u,w',c',.inl (by simp[h1]),h2⟩
def S8{P:Program}{G:Bc}{c:Cx}{w:World}{s':AS}{m:Sem Unit}(h:∃w',m.run P w=.ok () w'/\Ext c w c w'/\St G c w' s'):X8 P G c w ((do m;pure Next.skip:Sem Next).run P w) (.val (.sc undef) s'):=by
 obtain⟨w',h1,h2,h3⟩:=h;exact⟨undef,w',c,.inr ⟨by simp[h1],rfl⟩,h2,h3,.sc rfl⟩
def map_some{α β:Type}{o:Option α}{f:α->β}{b:β}(h:o.map f=some b):∃a,o=some a/\f a=b:=by
 cases o with
 | none=>cases h
 | some a=>exact⟨a,rfl,by simpa using h⟩
def bind_some{α β:Type}{o:Option α}{f:α->Option β}{b:β}(h:o.bind f=some b):∃a,o=some a/\f a=some b:=by
 cases o with
 | none=>cases h
 | some a=>exact⟨a,rfl,by simpa using h⟩
end AI
namespace AI
open Go Go.RowKit
def Sw{P:Program}{g:FuncId}(h:MQ P g=true)(args:Array Value)(w:World):(callFunc g args).run P w=.ok (.enter g args) w:=by
 unfold MQ at h;split at h;rename_i fn hf;simp only[Bool.and_eq_true,bne_iff_ne,ne_eq] at h;obtain⟨b,hb⟩:=Option.isSome_iff_exists.1 h.2;simp[callFunc,hf,h.1,hb];cases h
def aai{P:Program}{G:Bc}{c:Cx}{w:World}{s:AS}{fr:List AV}{ρ:Operand->Value}{o:Oper}{cl:Call}{r:AR}(hs:St G c w s)(I6:∀x∈cl.operands,Z8 G c w fr ρ x)(h:TF P G fr s o cl=some r) :
   X8 P G c w ((do let d <- resolve ρ cl o.type;invoke d.target d.args:Sem Next).run P w) r:=by
 have II:∀x∈cl.args.toList,Z8 G c w fr ρ x:=λx hx=>I6 x (by simp only[Call.operands,Array.mem_append];exact .inr (Array.mem_toList_iff.1 hx));unfold TF at h;split at h;rename_i Ii;split at h;rename_i x t hx ht;obtain⟨v,h1,rfl⟩:=map_some h;obtain⟨b,h2,h3⟩:=bind_some h1;have e1:cl.args=#[x]:=by apply Array.ext';rw[hx]
 have e2:cl.argTypes=#[t]:=by apply Array.ext';rw[ht]
 have:=EF hs (aeR (ty:=o.type) hs h3 (II x (by rw[hx];simp) _ h2));simpa[resolve,Ii,e1,e2,invoke,builtin] using this
 cases h;rename_i Ii;split at h;rename_i x y t tx hx ht;split at h;rename_i b d h2 h3;obtain⟨v,h1,rfl⟩:=map_some h;have e1:cl.args=#[x,y]:=by apply Array.ext';rw[hx]
 have e2:cl.argTypes=#[t,tx]:=by apply Array.ext';rw[ht]
 have:=Oe (oC (ty:=o.type) hs h1 (II x (by rw[hx];simp) _ h2) (II y (by rw[hx];simp) _ h3));simpa[resolve,Ii,e1,e2,invoke,builtin] using this
 cases h;cases h;rename_i Ii;obtain⟨vs,h1,h2⟩:=bind_some h;obtain⟨v,h3,rfl⟩:=map_some h2;obtain⟨as,h4,h5⟩:=bind_some h1;have e:=ZG h5 (YG II h4);have e1:cl.args.map ρ=vs.toArray:=by apply Array.ext';rw[<- e];simp
 have:=EF hs (UX h3 c w w);simpa[resolve,Ii,e1,invoke,builtin] using this
 rename_i Ii;obtain⟨vs,h1,h2⟩:=bind_some h;obtain⟨v,h3,rfl⟩:=map_some h2;obtain⟨as,h4,h5⟩:=bind_some h1;have e:=ZG h5 (YG II h4);have e1:cl.args.map ρ=vs.toArray:=by apply Array.ext';rw[<- e];simp
 have:=EF hs (UX h3 c w w);simpa[resolve,Ii,e1,invoke,builtin] using this
 . rename_i f Ii
   split at h
   . rename_i g first Ng as h1 h2
     split at h
     . rename_i hc
       cases h;have hr:=I6 f (by simp[Call.operands,Ii]) _ h1;have II:=YG II h2;generalize hv:ρ f=v at hr;cases hr with
       | @fn _ _ _ us vs q1 q2 =>
         refine⟨us++cl.args.toList.map ρ++vs,?_,(q1.append II).append q2⟩
         have e3:(us++cl.args.toList.map ρ++vs).toArray=us.toArray++Array.map ρ cl.args++vs.toArray:=by
           apply Array.ext';simp
         rw[e3];simp only[resolve,Ii,hv,Sem.run_bind,Deferred.ofValue,Sem.run_pure,Result.andThen_ok,invoke,Sw hc]
     cases h
   cases h
 cases h
def dZ{P:Program}{G:Bc}{c:Cx}{w:World}{s:AS}{fr:List AV}{ρ:Operand->Value}{o:Oper}{r:AR}(hs:St G c w s)(I6:∀x∈o.op.operands,Z8 G c w fr ρ x)(hρ:∀k,ρ (.const k)=k)(h:QW P G fr s o=some r) :
   X8 P G c w ((execOp ρ o).run P w) r:=by
 unfold QW at h;split at h;rename_i x ho;obtain⟨v,h1,rfl⟩:=map_some h;simp only[execOp,ho];exact⟨_,w,c,.inl rfl,Ext.refl c w,hs,I6 x (by rw[ho];simp[Op.operands]) v h1⟩;rename_i x ho;obtain⟨v,h1,rfl⟩:=map_some h;simp only[execOp,ho];exact⟨_,w,c,.inl rfl,Ext.refl c w,hs,I6 x (by rw[ho];simp[Op.operands]) v h1⟩;rename_i x y z ho;split at h;rename_i t hc;obtain⟨v,h1,rfl⟩:=map_some h;have hb:=I6 x (by rw[ho];simp[Op.operands]) _ hc;generalize hv:ρ x=vx at hb;cases hb;simp only[execOp,ho,hv];refine⟨if t then ρ y else ρ z,w,c,.inl (by simp[asBool]),Ext.refl c w,hs,?_⟩
 cases t;exact I6 z (by rw[ho];simp[Op.operands]) v h1;exact I6 y (by rw[ho];simp[Op.operands]) v h1;cases h;rename_i e ho;obtain⟨z,h1,rfl⟩:=map_some h;obtain⟨zv,tC,hzp⟩:=U0 h1 c w w;obtain⟨v',w',c',h2,h3⟩:=rV (P:=P) (t:=e) hs hzp (bB h1);simp only[execOp,ho];refine Oe ⟨v',w',c',?_,h3⟩;simp only[Instr.box,Sem.run_bind] at h2;simp only[Instr.alloc,Sem.run_bind,tC,Result.andThen_ok];exact h2;rename_i e x ho;obtain⟨z,h1,h⟩:=bind_some h;split at h;cases h;rename_i hz;cases h;simp only[execOp,ho];exact Oe (rV (P:=P) (t:=e) hs (I6 x (by rw[ho];simp[Op.operands]) z h1) hz);rename_i t ps ho;obtain⟨v,h1,rfl⟩:=map_some h;obtain⟨qs,h2,h3⟩:=bind_some h1;simp only[execOp,ho];refine EF hs (vN (qs:=ps.map λx=>(x.1,ρ x.2)) h3 (by simpa using YF (ρ:=ρ) (λx hx=>I6 x.2 (by rw[ho];simp only[Op.operands,List.mem_toArray,List.mem_map];exact⟨x,hx,rfl⟩)) h2) w)
 rename_i t n ps ho;obtain⟨v,h1,rfl⟩:=map_some h;obtain⟨qs,h2,h3⟩:=bind_some h1;simp only[execOp,ho];obtain⟨u,w',q1,q2⟩:=Yd (qs:=ps.map λx=>(x.1,ρ x.2)) hs h3 (by simpa using YF (ρ:=ρ) (λx hx=>I6 x.2 (by rw[ho];simp only[Op.operands,List.mem_toArray,List.mem_map];exact⟨x,hx,rfl⟩)) h2)
 exact Oe ⟨u,w',c,q1,q2⟩;rename_i t x ho;obtain⟨v,h1,rfl⟩:=map_some h;obtain⟨b,h2,h3⟩:=bind_some h1;simp only[execOp,ho];exact EF hs (jA hs h3 (I6 x (by rw[ho];simp[Op.operands]) b h2));rename_i t x y ho;split at h;rename_i b d h2 h3;obtain⟨s',h1,rfl⟩:=map_some h;simp only[execOp,ho];exact S8 (vW hs h1 (I6 x (by rw[ho];simp[Op.operands]) b h2) (I6 y (by rw[ho];simp[Op.operands]) d h3));cases h
 . rename_i x ho
   split at h
   . rename_i v h1
     split at h
     . rename_i hn
       cases h;have hr:=I6 x (by rw[ho];simp[Op.operands]) v h1;simp only[execOp,ho];generalize ρ x=vx at hr;cases hr with
       | ptr q=>exact⟨_,w,c,.inl rfl,Ext.refl c w,hs,.ptr q⟩
       | el q=>exact⟨_,w,c,.inl rfl,Ext.refl c w,hs,.el q⟩
       | @fn f _ _ us vs q1 q2 =>
         cases f with
         | func g=>exact⟨_,w,c,.inl rfl,Ext.refl c w,hs,.fn q1 q2⟩
         | _=>simp[notNil] at hn
       | _=>simp[notNil] at hn
     cases h
   cases h
 rename_i op t x y yt ho;split at h;rename_i b d h2 h3;obtain⟨v,h1,rfl⟩:=map_some h;simp only[execOp,ho];exact EF hs (aeP h1 (I6 x (by rw[ho];simp[Op.operands]) b h2) (I6 y (by rw[ho];simp[Op.operands]) d h3) (λk hk=>by rw[hk];exact hρ k) w);cases h;rename_i op t x ho;obtain⟨v,h1,h2⟩:=bind_some h;obtain⟨b,h3,h4⟩:=bind_some h1;obtain⟨q,h5,rfl⟩:=map_some h2;have e:=VF h4 (I6 x (by rw[ho];simp[Op.operands]) b h3);simp only[execOp,ho,e];exact EF hs (UX h5 c w w);rename_i src dst x ho;obtain⟨q,h1,rfl⟩:=map_some h;obtain⟨b,h3,h4⟩:=bind_some h1;simp only[execOp,ho];exact EF hs (aaj h4 (I6 x (by rw[ho];simp[Op.operands]) b h3))
 . rename_i t x ho
   split at h
   . rename_i v d h1 hd
     split at h;cases h
     . rename_i hi
       cases h;simp only[execOp,ho];refine EF hs ⟨.iface t (ρ x),?_,.Fv (I6 x (by rw[ho];simp[Op.operands]) v h1)⟩;unfold Instr.makeInterface;rw[Sem.run_bind,run_underlying hd];cases d<;>first | rfl | (simp[isIface] at hi;done)
   cases h
 rename_i f first Ng ho
 split at h;rename_i b d h2 h3;cases h;simp only[execOp,ho];refine EF hs ⟨.func f (first.map ρ) (Ng.map ρ),rfl,?_⟩
 have:=Rp.fn (f:=f) (YG (ρ:=ρ) (λx hx=>I6 x (by rw[ho];simp only[Op.operands,Array.mem_append];exact .inl (Array.mem_toList_iff.1 hx))) h2) (YG (ρ:=ρ) (λx hx=>I6 x (by rw[ho];simp only[Op.operands,Array.mem_append];exact .inr (Array.mem_toList_iff.1 hx))) h3);rwa[show(first.toList.map ρ).toArray=first.map ρ from by apply Array.ext';simp,show(Ng.toList.map ρ).toArray=Ng.map ρ from by apply Array.ext';simp] at this
 cases h;rename_i t ho;cases h;simp only[execOp,ho];exact Oe (jB (P:=P) (t:=t) hs);rename_i t x y ho;split at h;rename_i b d h2 h3;obtain⟨v,h1,rfl⟩:=map_some h;simp only[execOp,ho];exact Oe (aA hs h1 (I6 x (by rw[ho];simp[Op.operands]) b h2) (I6 y (by rw[ho];simp[Op.operands]) d h3));cases h;rename_i t x lo hi mx ho;split at h;rename_i b l hh m h2 h3 h4 h5;obtain⟨v,h1,rfl⟩:=map_some h;simp only[execOp,ho];exact EF hs (vV h1 (I6 x (by rw[ho];simp[Op.operands]) b h2) (oT (λy hy=>I6 y (by rw[ho];simp only[Op.operands,Array.mem_append];exact .inl (.inl (.inr hy)))) h3) (oT (λy hy=>I6 y (by rw[ho];simp only[Op.operands,Array.mem_append];exact .inl (.inr hy))) h4) (oT (λy hy=>I6 y (by rw[ho];simp only[Op.operands,Array.mem_append];exact .inr hy)) h5));cases h;rename_i t x k ho;obtain⟨v,h1,rfl⟩:=map_some h;obtain⟨b,h2,h3⟩:=bind_some h1;simp only[execOp,ho];exact EF hs (iY h3 (I6 x (by rw[ho];simp[Op.operands]) b h2));rename_i t x k ho;obtain⟨v,h1,rfl⟩:=map_some h;obtain⟨b,h2,h3⟩:=bind_some h1;simp only[execOp,ho];exact EF hs (vP h3 (I6 x (by rw[ho];simp[Op.operands]) b h2) w);rename_i t x y ho;split at h;rename_i b d h2 h3;obtain⟨v,h1,rfl⟩:=map_some h;simp only[execOp,ho];exact EF hs (iZ h1 (I6 x (by rw[ho];simp[Op.operands]) b h2) (I6 y (by rw[ho];simp[Op.operands]) d h3));cases h;rename_i t x y ho;split at h;rename_i b d h2 h3;obtain⟨v,h1,rfl⟩:=map_some h;simp only[execOp,ho];exact EF hs (vQ h1 (I6 x (by rw[ho];simp[Op.operands]) b h2) (I6 y (by rw[ho];simp[Op.operands]) d h3) w);cases h;rename_i t x k ok ho;split at h;rename_i b d h2 h3;obtain⟨v,h1,rfl⟩:=map_some h;simp only[execOp,ho];exact EF hs (oF hs h1 (I6 x (by rw[ho];simp[Op.operands]) b h2) (I6 k (by rw[ho];simp[Op.operands]) d h3));cases h;rename_i t m k x ho;split at h;rename_i b d e h2 h3 h4;obtain⟨s',h1,rfl⟩:=map_some h;simp only[execOp,ho];exact S8 (Yi hs h1 (I6 m (by rw[ho];simp[Op.operands]) b h2) (I6 k (by rw[ho];simp[Op.operands]) d h3) (I6 x (by rw[ho];simp[Op.operands]) e h4));cases h;rename_i t m k x ho;split at h;rename_i b d e h2 h3 h4;obtain⟨s',h1,rfl⟩:=map_some h;simp only[execOp,ho];exact S8 (Yi hs h1 (I6 m (by rw[ho];simp[Op.operands]) b h2) (I6 k (by rw[ho];simp[Op.operands]) d h3) (I6 x (by rw[ho];simp[Op.operands]) e h4));cases h;rename_i t m k ho;split at h;rename_i b d h2 h3;obtain⟨v,h1,rfl⟩:=map_some h;simp only[execOp,ho];obtain⟨u,w',q1,q2⟩:=dW hs h1 (I6 m (by rw[ho];simp[Op.operands]) b h2) (I6 k (by rw[ho];simp[Op.operands]) d h3);exact Oe ⟨u,w',c,q1,q2⟩;cases h;rename_i t m st x ho;split at h;rename_i b d e h2 h3 h4;obtain⟨s',h1,rfl⟩:=map_some h;simp only[execOp,ho];exact S8 (Ye hs h1 (I6 m (by rw[ho];simp[Op.operands]) b h2) (I6 st (by rw[ho];simp[Op.operands]) d h3) (I6 x (by rw[ho];simp[Op.operands]) e h4));cases h;rename_i x k ho;obtain⟨v,h1,rfl⟩:=map_some h;obtain⟨b,h2,h3⟩:=bind_some h1;simp only[execOp,ho];exact EF hs (iX h3 (I6 x (by rw[ho];simp[Op.operands]) b h2) w);rename_i cl ho;simp only[execOp,ho];exact aai hs (λx hx=>I6 x (by rw[ho];exact hx)) h;rename_i x ho;split at h;rename_i t v h1;cases h;have hr:=I6 x (by rw[ho];simp[Op.operands]) _ h1;simp only[execOp,ho];generalize ρ x=vx at hr;cases hr with
 | Fv q=>exact⟨_,by simp[Instr.panic],.Fv q⟩
 cases h;cases h
def oE{P:Program}{G:Bc}{c:Cx}{w:World}{s:AS}{ρ:Operand->Value}{o:Oper}{e:TypeId}{z:AV}{id:Nat}(hs:St G c w s)(ho:o.op=.alloc e)(hz:MP P e=some z)(hid:c.DA[id]?=some none)(fE:s.get id=some (.cells (cellsOf z))) :
   ∃u w' c',(execOp ρ o).run P w=.ok (.value u) w'/\Mon c w c' w'/\St G c' w' s/\Rp c' w' (.ptr id 0) u/\(∀c0 w0,Ext c0 w0 c w->c0.DA.length<=id->Ext c0 w0 c' w')/\∀i,i≠id->c'.DA[i]?=c.DA[i]?:=by
 obtain⟨zv,tC,hzp⟩:=U0 hz c w w;obtain⟨v',w',c',h2,h3⟩:=vM (P:=P) (t:=e) hs hzp (bB hz) hid fE;refine⟨v',w',c',?_,h3⟩;simp only[execOp,ho];simp only[Instr.box,Sem.run_bind] at h2;simp only[Instr.alloc,Sem.run_bind,tC,Result.andThen_ok];rw[h2];simp
end AI
namespace AI
open Go Go.RowKit
def Uf(acc:List Nat):List Edge->Nat
 | []=>0
 | e::es=>if Region.binds .any e then Uf acc es ||| 2 ^ e.on ||| acc.getD e.on 0 else Uf acc es
def Is:List Oper->List Nat->List Nat
 | [],acc=>acc
 | o::os,acc=>Is os (acc++[Uf acc o.after.toList])
def Met(L:Nat->Bool)(o:Oper):Prop:=∀e∈o.after,Region.binds .any e=true->L e.on=true
def N7(ops:List Oper)(L:Nat->Bool):Prop:=∀i o,ops[i]?=some o->L i=true->Met L o
def xF{ops:List Oper}{L:Nat->Bool}(hc:N7 ops L){acc:List Nat}(kC:∀(j:Nat) m,acc[j]?=some m->∀o,ops[j]?=some o->∀i,m.testBit i=true->Met L o->L i=true)(hlen:acc.length<=ops.length)
   (es:List Edge) {i:Nat} (hb:(Uf acc es).testBit i=true) (hm:∀e∈es,Region.binds .any e=true->L e.on=true):L i=true:=by
 induction es with
 | nil=>simp[Uf] at hb
 | cons e es ih =>
   simp only[Uf] at hb;split at hb
   . rename_i hbe
     rw[Nat.testBit_or,Nat.testBit_or,Bool.or_eq_true,Bool.or_eq_true] at hb;have he:=hm e List.mem_cons_self hbe;rcases hb with (hb | hb) | hb
     exact ih hb (λe he=>hm e (List.mem_cons_of_mem _ he));rw[Nat.testBit_two_pow] at hb;have:e.on=i:=by simpa using hb
     rw[<- this];exact he
     . rw[List.getD_eq_getElem?_getD] at hb
       cases hg:acc[e.on]? with
       | none=>rw[hg] at hb;simp at hb
       | some m =>
         rw[hg] at hb;have hl:=(List.getElem?_eq_some_iff.1 hg).1;have fG:e.on < ops.length:=by omega
         exact kC e.on m hg ops[e.on] (List.getElem?_eq_getElem fG) i hb (hc e.on _ (List.getElem?_eq_getElem fG) he)
   exact ih hb (λe he=>hm e (List.mem_cons_of_mem _ he))
def acf{ops:List Oper}{L:Nat->Bool}(hc:N7 ops L):∀(os:List Oper) (acc:List Nat),(∀k,os[k]?=ops[acc.length+k]?)->acc.length<=ops.length->(∀(j:Nat) m,acc[j]?=some m->∀o,ops[j]?=some o->∀i,m.testBit i=true->Met L o->L i=true) ->
   ∀(j:Nat) m,(Is os acc)[j]?=some m->∀o,ops[j]?=some o->∀i,m.testBit i=true->Met L o->L i=true:=by
 intro os
 induction os with
 | nil=>intro acc _ _ kC;exact kC
 | cons o os ih =>
   intro acc hk hl kC;have h0:ops[acc.length]?=some o:=by have:=hk 0;simpa using this.symm
   have GM:=(List.getElem?_eq_some_iff.1 h0).1;refine ih (acc++[Uf acc o.after.toList]) (λk=>?_) (by simp;omega) (λj m hj o' WX i hb hm=>?_);have:=hk (k+1);simp only[List.getElem?_cons_succ] at this;rw[this];congr 1;simp;omega;by_cases hjl:j < acc.length;rw[List.getElem?_append_left hjl] at hj;exact kC j m hj o' WX i hb hm;have fG:=(List.getElem?_eq_some_iff.1 hj).1;simp at fG;have:j=acc.length:=by omega
   subst this;rw[List.getElem?_concat_length] at hj;cases hj;rw[h0] at WX;cases WX;exact xF hc kC hl _ hb (λe he=>hm e (Array.mem_toList_iff.1 he))
def S7(ms:List Nat)(j i:Nat):Bool:=(ms.getD j 0).testBit i
def Yy{ops:List Oper}{L:Nat->Bool}(hc:N7 ops L){j i:Nat}{o:Oper}(ho:ops[j]?=some o)(hm:Met L o)(hd:S7 (Is ops []) j i=true):L i=true:=by
 unfold S7 at hd;rw[List.getD_eq_getElem?_getD] at hd;cases hg:(Is ops [])[j]? with
 | none=>rw[hg] at hd;simp at hd
 | some m =>
   rw[hg] at hd;exact acf hc ops [] (λk=>by simp) (by simp) (λj m h=>by simp at h) j m hg o ho i hd hm
def quiet:Op->Bool
 | .move _ | .assign _ | .pick .. | .build .. | .buildSlice .. | .load .. | .nilCheck _ | .binOp .. | .unOp .. | .convert .. | .makeInterface .. | .makeFunc .. | .slice .. | .fieldAddr .. | .field .. | .indexAddr .. | .index .. | .lookup .. | .extract ..=>true
 | .call cl=>(match cl.callee with
   | .builtin .len | .builtin .max | .builtin .min=>true
   | _=>false)
 | _=>false
def BX:Op->Bool
 | .alloc _=>true
 | _=>false
def K2{op:Op}(h:BX op=true):∃e,op=.alloc e:=by
 unfold BX at h;split at h;exact⟨_,rfl⟩;cases h
def calm(op:Op):Bool:=match BX op with
 | true=>true
 | false=>quiet op
def Yu{op:Op}(h:quiet op=true):calm op=true:=by
 unfold calm;cases BX op;exact h;rfl
def Yt{op:Op}(h:calm op=true):quiet op=true\/∃e,op=.alloc e:=by
 unfold calm at h;cases ha:BX op with
 | true=>exact .inr (K2 ha)
 | false=>rw[ha] at h;exact .inl h
def n7:List Oper->Nat->Nat
 | _,0=>0
 | [],_+1=>0
 | o::l,n+1=>(match BX o.op with | true=>1 | false=>0)+n7 l n
def rk(ops:Array Oper)(i:Nat):Nat:=n7 ops.toList i
def qT{l:List Oper}{i j:Nat}{o:Oper}(ho:l[i]?=some o)(ha:BX o.op=true)(h:i < j):n7 l i < n7 l j:=by
 induction l generalizing i j with
 | nil=>simp at ho
 | cons x l ih =>
   cases j with
   | zero=>omega
   | succ j =>
     cases i with
     | zero =>
       simp at ho;subst ho;simp only[n7,ha];omega
     | succ i =>
       have:=ih (i:=i) (j:=j) (by simpa using ho) (by omega)
       simp only[n7];omega
def ak2{ops:Array Oper}{i j:Nat}{x y:Oper}(hx:ops[i]?=some x)(hy:ops[j]?=some y)(hxa:BX x.op=true)(fP:BX y.op=true)(h:rk ops i=rk ops j):i=j:=by
 have Y0:ops.toList[i]?=some x:=by rw[Array.getElem?_toList];exact hx
 have hy':ops.toList[j]?=some y:=by rw[Array.getElem?_toList];exact hy
 unfold rk at h;rcases Nat.lt_trichotomy i j with GM | he | GM
 have:=qT Y0 hxa GM;omega;exact he;have:=qT hy' fP GM;omega
def Qb(ops:Array Oper)(x y:Oper):Bool :=
 (!calm x.op&&!calm y.op) ||
 (match x.dst with
  | some d=>(y.looksAt ops).contains d||y.dst == some d
  | none=>false) ||
 (match y.dst with
  | some d=>(x.looksAt ops).contains d
  | none=>false)
def Zj(ops:Array Oper)(ms:List Nat)(j:Nat)(y:Oper):List Oper->Nat->Bool
 | [],_=>true
 | x::xs,i=>(if i < j then !Qb ops x y||S7 ms j i else true)&&Zj ops ms j y xs (i+1)
def XQ(ops:Array Oper)(ms:List Nat):List Oper->Nat->Bool
 | [],_=>true
 | y::ys,j=>Zj ops ms j y ops.toList 0&&(y.after.toList.all λe=>!Region.binds .any e||decide (e.on < j))&&XQ ops ms ys (j+1)
def MV(ops:Array Oper):Bool:=XQ ops (Is ops.toList []) ops.toList 0
def xM{ops:Array Oper}{ms:List Nat}{j:Nat}{y:Oper}:∀(xs:List Oper) (i:Nat),Zj ops ms j y xs i=true->∀k x,xs[k]?=some x->i+k < j->Qb ops x y=true->S7 ms j (i+k)=true:=by
 intro xs
 induction xs with
 | nil=>intro i _ k x hx;simp at hx
 | cons z xs ih =>
   intro i h k x hx GM Ii;simp only[Zj,Bool.and_eq_true] at h;cases k with
   | zero =>
     simp at hx;subst hx;rw[Nat.add_zero] at GM ⊢;have:=h.1;rw[if_pos GM,Ii] at this;simpa using this
   | succ k =>
     have:=ih (i+1) h.2 k x (by simpa using hx) (by omega) Ii
     rwa[show i+1+k=i+(k+1) from by omega] at this
def Zk{ops:Array Oper}{ms:List Nat}:∀(ys:List Oper) (j:Nat),XQ ops ms ys j=true->∀k y,ys[k]?=some y->Zj ops ms (j+k) y ops.toList 0=true/\∀e∈y.after,Region.binds .any e=true->e.on < j+k:=by
 intro ys
 induction ys with
 | nil=>intro j _ k y hy;simp at hy
 | cons z ys ih =>
   intro j h k y hy;simp only[XQ,Bool.and_eq_true] at h;cases k with
   | zero =>
     simp at hy;subst hy;refine⟨h.1.1,λe he hb=>?_⟩;have:=List.all_eq_true.1 h.1.2 e (Array.mem_toList_iff.2 he);rw[hb] at this;simpa using this
   | succ k =>
     have:=ih (j+1) h.2 k y (by simpa using hy)
     rwa[show j+1+k=j+(k+1) from by omega] at this
def cC{ops:Array Oper}(h:MV ops=true){i j:Nat}{x y:Oper}(hx:ops[i]?=some x)(hy:ops[j]?=some y)(GM:i < j)(hc:Qb ops x y=true):S7 (Is ops.toList []) j i=true:=by
 have h1:=(Zk ops.toList 0 h j y (by rw[Array.getElem?_toList];exact hy)).1;rw[Nat.zero_add] at h1;have:=xM ops.toList 0 h1 i x (by rw[Array.getElem?_toList];exact hx) (by omega) hc;rwa[Nat.zero_add] at this
def k9{ops:Array Oper}(h:MV ops=true){j:Nat}{y:Oper}(hy:ops[j]?=some y){e:Edge}(he:e∈y.after)(hb:Region.binds .any e=true):e.on < j:=by
 have:=(Zk ops.toList 0 h j y (by rw[Array.getElem?_toList];exact hy)).2 e he hb;omega
def JE(fr:List AV)(dst:Option Tmp)(v:AV):List AV:=match dst with
 | some d=>fr.set d v
 | none=>fr
def S4{c:Cx}{w:World}{fr:List AV}{a:Act}{dst:Option Tmp}{v:AV}{u:Value}(h:CY c w fr a.tmps.toList)(hv:Rp c w v u):CY c w (JE fr dst v) (a.put dst u).tmps.toList:=by
 cases dst with
 | none=>exact h
 | some d=>simp only[JE,Act.put,Array.toList_setIfInBounds];exact h.set hv d
def IH(f0:List AV)(dst:Nat->Option Tmp)(vals:Nat->AV)(L:Nat->Bool):Nat->List AV
 | 0=>f0
 | n+1=>if L n then JE (IH f0 dst vals L n) (dst n) (vals n) else IH f0 dst vals L n
def Sl{fr:List AV}{dst:Option Tmp}{v:AV}{t:Nat}(h:dst≠some t):(JE fr dst v)[t]?=fr[t]?:=by
 cases dst with
 | none=>rfl
 | some d=>exact List.getElem?_set_ne (λe=>h (by rw[e]))
def aam{fr:List AV}{dst:Option Tmp}{v:AV}:(JE fr dst v).length=fr.length:=by cases dst<;>simp[JE]
def O6{fr:List AV}{v:AV}{t:Nat}:(JE fr (some t) v)[t]?=if t < fr.length then some v else none:=by simp[JE,List.getElem?_set]
def XI(f0:List AV)(dst:Nat->Option Tmp)(vals:Nat->AV)(L:Nat->Bool)(n:Nat):(IH f0 dst vals L n).length=f0.length:=by
 induction n with
 | zero=>rfl
 | succ n ih=>simp only[IH];split<;>simp[aam,ih]
def YI{f0:List AV}{dst:Nat->Option Tmp}{vals:Nat->AV}{L M:Nat->Bool}{t:Nat}:∀(n:Nat),(∀i,i < n->dst i=some t->L i=M i)->(IH f0 dst vals L n)[t]?=(IH f0 dst vals M n)[t]?:=by
 intro n
 induction n with
 | zero=>intro _;rfl
 | succ n ih =>
   intro h;have ih:=ih (λi hi hd=>h i (by omega) hd);by_cases hd:dst n=some t;have:=h n (by omega) hd;simp only[IH,this];split;rw[hd,O6,O6,XI,XI];exact ih
   have e:∀K:Nat->Bool,(IH f0 dst vals K (n+1))[t]?=(IH f0 dst vals K n)[t]?:=by
     intro K;simp only[IH];split;exact Sl hd;rfl
   rw[e,e,ih]
def sJ{f0:List AV}{dst:Nat->Option Tmp}{vals:Nat->AV}{L:Nat->Bool}{t j:Nat}:∀(n:Nat),j<=n->(∀i,j<=i->i < n->dst i=some t->L i=false)->(IH f0 dst vals L n)[t]?=(IH f0 dst vals L j)[t]?:=by
 intro n
 induction n with
 | zero=>intro hj _;have:j=0:=by omega
         subst this;rfl
 | succ n ih =>
   intro hj h;by_cases hn:j=n+1;subst hn;rfl;have ih:=ih (by omega) (λi h1 h2 hd=>h i h1 (by omega) hd);rw[<- ih];simp only[IH];split;rename_i hL;by_cases hd:dst n=some t;have:=h n (by omega) (by omega) hd;rw[this] at hL;cases hL;exact Sl hd;rfl
end AI
