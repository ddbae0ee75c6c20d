/- Part of a proof: see the last text. -/
import Derived.Test.YtpbkhogolfegfaaGreatDoorPlc
import Derived.IntWalk
set_option linter.unusedVariables false
set_option linter.unusedSimpArgs false
set_option linter.defProp false
noncomputable section
namespace AI
open Go Go.RowKit
def Zk{P:Program}{G:A8}{c:Cx}{w:World}{s s':AS}{t:TypeId}{l k r:AV}{vl vk:Value}(hs:St G c w s)(h:Jr P s t l k=some (r,s'))(hl:Rp c w l vl)(hk:Rp c w k vk) :
   ∃u w' c',(Instr.makeSlice t vl vk).run P w=.ok u w'/\Ext c w c' w'/\St G c' w' s'/\Rp c' w' r u:=by
 unfold Jr at h;split at h;rename_i elem hu;split at h;rename_i e n m he hn hm;split at h;rename_i z hz;split at h;rename_i zs hzs;split at h;rename_i hc;cases h;obtain⟨rfl,h24,h48,hne⟩:=hc;obtain⟨k1,i1,rfl,h1,e1⟩:=MM hn hl;obtain⟨k2,i2,rfl,h2,e2⟩:=MM hm hk;have w1:IntKind.i64.wrap i1=i1:=IntWalk.i64_in _ (by omega);have w2:IntKind.i64.wrap i2=i2:=IntWalk.i64_in _ (by omega);have sZ:CH c w zs z.cells.toList:=Qf hzs c w;have hin:=mM sZ (n*e.size) (λ_ hn=>by rw[hn] at hne;cases hne);simp only[Array.toArray_toList] at hin
 have adX:(Array.range (n*e.size)).map (λi=>z.cells[i % z.cells.size]!)=((List.range (n*e.size)).map λi=>z.cells[i % z.cells.size]!).toArray:=by
   apply Array.ext';simp
 obtain⟨x,st⟩:=hs.new (b:=.cells ((List.range (n*e.size)).map λi=>zs.getD (i % zs.length) (.sc undef))) (o:=.cells ((List.range (n*e.size)).map λi=>z.cells[i % z.cells.size]!).toArray elem (0,0)) (.cells hin);refine⟨.slice (some ⟨w.heap.size,0,none⟩) n n,_,_,?_,x,st,.msl (Nat.le_refl _) (by simp[hs.len])⟩
 have hb:¬281474976710656 < (e.bytes:Int)*i2:=by
   have e3:(e.bytes:Int)*i2=((n*e.bytes:Nat):Int):=by
     rw[show i2=(n:Int) from by omega,Int.natCast_mul,Int.mul_comm]
   rw[e3];generalize n*e.bytes=q at h48;omega
 have hn2:¬i2 < 0:=by omega
 have hn1:¬i1 < 0:=by omega
 have hle:¬i2 < i1:=by omega
 simp only[Instr.makeSlice,Sem.run_bind,run_underlying hu,Result.andThen_ok,asInt,asIntOf,Sem.run_pure,typeInfo,run_program,he,w1,w2,hn1,hn2,gt_iff_lt,show(2:Int) ^ 48=281474976710656 from rfl,hb,decide_false,Bool.or_false,hle,Bool.false_eq_true,if_false,run_askRoom,e2,CG he,newRow,e1];split;rename_i h0;have hz0:Array.range 0=#[]:=rfl;simp[h0,hz0];simp only[Sem.run_bind,zeroValue,typeInfo,run_program,Result.andThen_ok,he,hz,Sem.run_pure,run_newObj,adX];cases h;cases h;cases h;cases h;cases h
def Pb(P:Program)(s:AS)(t:TypeId)(x k:AV):Option (AV×AS) :=
 match P.underlying t with
 | some (.map kt et)=>match P.underlying kt,YU k,x with
   | some kd,some key,.mp id=>if plainKey kd=true then
       (match s.get id with
       | some (.map es cl)=>match Xz kd key es 0 with
         | some (some (j,v))=>match es[j]? with
           | some e=>some (.Dd [v,.sc (.int .i64 e.2.2)],(s.put id (.map (es.set j (key,v,e.2.2)) cl)))
           | none=>none
         | some none=>match LY P et with
           | some z=>some (.Dd [z,.sc (.int .i64 cl)],(s.put id (.map (es++[(key,z,cl)]) (cl+1))))
           | none=>none
         | none=>none
       | _=>none) else none
   | _,_,_=>none
 | _=>none
def bN{P:Program}{G:A8}{c:Cx}{w:World}{s s':AS}{t:TypeId}{x k r:AV}{vx vk:Value}(hs:St G c w s)(h:Pb P s t x k=some (r,s'))(hx:Rp c w x vx)(hk:Rp c w k vk) :
   ∃u w',(Instr.mapEntry t vx vk).run P w=.ok u w'/\Ext c w c w'/\St G c w' s'/\Rp c w' r u:=by
 unfold Pb at h;split at h
 · rename_i kt et hu
   split at h
   · rename_i kd key id hkd aeF
     have:=UN aeF hk;subst this;split at h
     · rename_i hp
       split at h
       · rename_i es cl hb
         cases hx with
         | @mp _ g hid =>
           obtain⟨fs,hw,he⟩:=Uk hs hid hb;split at h;rename_i j v hf;split at h;rename_i e hej;cases h;rcases Pa he hf with ⟨h1,_⟩ | ⟨j',a',v',e',f,h1,h2,h3,h4,h5,h6,h7,h8,h9,h10⟩
           cases h1;injection h1 with h1
           injection h1 with h1 h1'
           rw[Nat.zero_add] at h1;subst h1 h1';rw[hej] at h4;cases h4;rw[Nat.zero_add] at h2;have aeH:fs.toArray.modify j (λe=>{ e with key:=vk })=(fs.set j ⟨vk,v',e.2.2⟩).toArray:=TD h5 (by rw[<- h9,<- h7])
           obtain⟨x1,st⟩:=hs.put (b:=.map (es.set j (vk,v,e.2.2)) cl) (o:=.map (fs.set j ⟨vk,v',e.2.2⟩).toArray cl) hid (Un w g _) (UK w hw) (.map (he.set h3 j));refine⟨.tuple #[v',.int .i64 e.2.2],_,?_,x1,st,.Dd (vs:=[v',.int .i64 e.2.2]) (.cons (h3.mono x1) (.cons (.sc rfl) .nil))⟩;have aeA:=YK h10;have hfk:=run_findKey (P:=P) hkd h2 w;simp only[Instr.mapEntry,Sem.run_bind,run_underlying hu,Result.andThen_ok,JH hw,run_checkKey _ hkd hp,hfk,List.getElem?_toArray,h5,Option.map_some,Option.getD_some,h8,h9,Instr.keyThatStays,aeA,if_true,Sem.run_pure,aeH,NT _ hw,goInt];cases h;rename_i hf;split at h;rename_i z hz;cases h;rcases Pa he hf with ⟨_,h2⟩ | ⟨j',a',v',e',f,h1,_⟩
           obtain⟨zv,sZ,hzp⟩:=Uj hz c w w;obtain⟨x1,st⟩:=hs.put (b:=.map (es++[(vk,z,cl)]) (cl+1)) (o:=.map (fs++[(⟨vk,zv,cl⟩:MapEntry)]).toArray (cl+1)) hid (Un w g _) (UK w hw) (.map (he.snoc hzp));refine⟨.tuple #[zv,.int .i64 cl],_,?_,x1,st,.Dd (vs:=[zv,.int .i64 cl]) (.cons (hzp.mono x1) (.cons (.sc rfl) .nil))⟩;have hfk:=run_findKey (P:=P) hkd h2 w;have aeJ:fs.toArray.push (⟨vk,zv,cl⟩:MapEntry)=(fs++[(⟨vk,zv,cl⟩:MapEntry)]).toArray:=by simp
           simp only[Instr.mapEntry,Sem.run_bind,run_underlying hu,Result.andThen_ok,JH hw,run_checkKey _ hkd hp,hfk,sZ,aeJ,NT _ hw,Sem.run_pure,goInt];cases h1;cases h;cases h
       cases h
     cases h
   cases h
 cases h
def fU(b:Int):List (Value×AV×Nat)->Nat->Option Nat
 | [],_=>none
 | e::es,i=>if (e.2.2:Int) == b then some i else fU b es (i+1)
def aaR{c:Cx}{w:World}{b:Int}{es:List (Value×AV×Nat)}{fs:List MapEntry}(h:Kp c w es fs):fs.findIdx? (λe=>(e.born:Int) == b)=fU b es 0:=by
 have key:∀(es:List (Value×AV×Nat)) (fs:List MapEntry) (i:Nat),Kp c w es fs->fU b es i=(fs.findIdx? (λe=>(e.born:Int) == b)).map (·+i):=by
   intro es fs i h
   induction h generalizing i with
   | nil=>rfl
   | cons _ _ ih =>
     simp only[fU,List.findIdx?_cons];split;simp;rw[ih,Option.map_map];congr 1;funext x;simp;omega
 rw[key es fs 0 h];simp
def LX(s:AS)(x st v:AV):Option AS :=
 match x,st with
 | .mp id,.sc (.int _ b)=>match s.get id with
   | some (.map es cl)=>match fU b es 0 with
     | some j=>match es[j]? with
       | some e=>some (s.put id (.map (es.set j (e.1,v,e.2.2)) cl))
       | none=>none
     | none=>none
   | _=>none
 | _,_=>none
def Kp.get{c:Cx}{w:World}{es:List (Value×AV×Nat)}{fs:List MapEntry}(h:Kp c w es fs){j:Nat}{e:Value×AV×Nat}(he:es[j]?=some e):∃f,fs[j]?=some f/\f.key=e.1/\f.born=e.2.2:=by
 induction h generalizing j with
 | nil=>simp at he
 | cons h1 _ ih =>
   cases j with
   | zero=>simp at he;subst he;exact⟨_,rfl,rfl,rfl⟩
   | succ j=>simpa using ih (by simpa using he)
def Xw{P:Program}{G:A8}{c:Cx}{w:World}{s s':AS}{t:TypeId}{x st v:AV}{vx vs vv:Value}(hs:St G c w s)(h:LX s x st v=some s')(hx:Rp c w x vx)(FW:Rp c w st vs)(hv:Rp c w v vv) :
   ∃w',(Instr.entryStore t vx vs vv).run P w=.ok () w'/\Ext c w c w'/\St G c w' s':=by
 unfold LX at h;split at h
 · rename_i id k b
   split at h
   · rename_i es cl hb
     split at h
     · rename_i j hj
       split at h
       · rename_i e hej
         cases h;cases FW;cases hx with
         | @mp _ g hid =>
           obtain⟨fs,hw,he⟩:=Uk hs hid hb;obtain⟨f,hf,hfk,hfb⟩:=he.get hej;have aeH:fs.toArray.modify j (λe=>{ e with val:=vv })=(fs.set j ⟨e.1,vv,e.2.2⟩).toArray:=TD hf (by rw[<- hfk,<- hfb])
           obtain⟨x1,st⟩:=hs.put (b:=.map (es.set j (e.1,v,e.2.2)) cl) (o:=.map (fs.set j ⟨e.1,vv,e.2.2⟩).toArray cl) hid (Un w g _) (UK w hw) (.map (he.set hv j));refine⟨_,?_,x1,st⟩
           have hfi:fs.toArray.findIdx? (λe=>(e.born:Int) == b)=some j:=by
             rw[List.findIdx?_toArray,aaR he,hj]
           simp only[Instr.entryStore,Sem.run_bind,Result.andThen_ok,JH hw,asInt,asIntOf,Sem.run_pure,hfi,aeH];exact NT _ hw
       cases h
     cases h
   cases h
 cases h
end AI
namespace AI
open Go Go.RowKit
def byteOf:AV->Option UInt8
 | .sc (.int .u8 n)=>some (UInt8.ofNat n.toNat)
 | _=>none
def bytesOf:List AV->Option (List UInt8)
 | []=>some []
 | a::l=>match byteOf a,bytesOf l with
   | some b,some m=>some (b::m)
   | _,_=>none
def Re(P:Program)(src dst:TypeId):AV->Option AV
 | .sc v=>VX P (convert src dst v)
 | .sl _ n cs=>match P.underlying src,P.underlying dst with
   | some (.slice e),some .string=>(match P.underlying e with
     | some (.int .u8)=>if n=cs.length then (bytesOf cs).map λl=>.sc (.string ⟨l.toArray⟩) else none
     | _=>none)
   | _,_=>none
 | _=>none
def wN{c:Cx}{w:World}{a:AV}{b:UInt8}{v:Value}(h:byteOf a=some b)(hr:Rp c w a v):∃n,v=.int .u8 n/\UInt8.ofNat n.toNat=b:=by
 unfold byteOf at h;split at h;cases h;cases hr;exact⟨_,rfl,rfl⟩;cases h
def uE(s:ByteArray)(l:List UInt8):ByteArray:=l.foldl ByteArray.push s
def kA:∀(l:List UInt8) (s:ByteArray),uE s l=⟨s.data++l.toArray⟩
 | [],s=>by simp[uE]
 | b::l,s=>by
   have:=kA l (s.push b);unfold uE at this ⊢;rw[List.foldl_cons,this];simp[ByteArray.push]
def XI{P:Program}{c:Cx}{w w0:World}:∀{cs:List AV} {vs:List Value} {l:List UInt8} (s:ByteArray),CH c w cs vs->bytesOf cs=some l ->
   (forIn vs s λ(x:Value) (s:ByteArray)=>(match x with
     | .int .u8 n=>(pure (ForInStep.yield (s.push (UInt8.ofNat n.toNat))):Sem (ForInStep ByteArray))
     | _=>((λ_=>ForInStep.yield s) <$> (stuck "bytesToString: byte expected":Sem PUnit):Sem (ForInStep ByteArray)))).run P w0=.ok (uE s l) w0
 | [],_,_,s,h,hb=>by cases h;cases hb;rfl
 | a::cs,_,l,s,h,hb=>by
   cases h with
   | cons h1 t =>
     simp only[bytesOf] at hb;split at hb;rename_i b m h2 h3;cases hb;obtain⟨n,rfl,rfl⟩:=wN h2 h1;have:=XI (P:=P) (w0:=w0) (s.push (UInt8.ofNat n.toNat)) t h3;simp only[List.forIn_cons,Sem.run_bind,Sem.run_pure,Result.andThen_ok];exact this;cases hb
def aaT{P:Program}{c:Cx}{w:World}{src dst:TypeId}{a r:AV}{v:Value}(h:Re P src dst a=some r)(hr:Rp c w a v):∃u,(convert src dst v).run P w=.ok u w/\Rp c w r u:=by
 unfold Re at h;split at h;cases hr;obtain⟨z,h1,h2⟩:=Ui h c w w;exact⟨z,h1,h2⟩
 · rename_i own n cs
   split at h
   · rename_i e hs hd
     split at h
     · rename_i he
       split at h
       · rename_i hn
         obtain⟨l,hb,rfl⟩:=Option.map_eq_some_iff.1 h;refine⟨.string ⟨l.toArray⟩,?_,.sc rfl⟩;unfold convert;cases hr with
         | @sl0 _ A cap h0 =>
           cases hb;cases A<;>simp[Sem.run_bind,run_underlying hs,run_underlying hd,run_underlying he,Conv.bytesToString,loadCells,loadCellsFrom]<;>rfl
         | @KM _ _ cap g o _ hn' hc ho =>
           obtain⟨vs,hvs,IB⟩:=hc.vals;have hlen:=hvs.len;have hld:=run_loadCells_list (P:=P) w ⟨g,o,none⟩ vs (λj v hj=>by rw[add_lit];exact(IB j v hj).2.2);rw[hlen,<- hn] at hld;have hlp:=XI (P:=P) (w0:=w) ByteArray.empty hvs hb;rw[kA] at hlp;simp[Sem.run_bind,run_underlying hs,run_underlying hd,run_underlying he,Conv.bytesToString,hld];refine(congrArg (λr=>r.andThen λ(a:ByteArray) w'=>Result.ok (Value.string a) w') hlp).trans ?_;simp[ByteArray.empty,ByteArray.emptyWithCapacity];rfl
       cases h
     cases h
   cases h
 cases h
end AI
namespace AI
open Go Go.RowKit
def Ba(G:A8)(fr:List AV):Operand->Option AV
 | .tmp t=>some (fr.getD t (.sc undef))
 | .const v=>Wf v
 | .global g=>(G g).map .el
 | .func f=>some (.fn (.func f) [] [])
def Ew{G:A8}{c:Cx}{w:World}{s:AS}{fr:List AV}{a:Act}{x:Operand}{v:AV}(hs:St G c w s)(hf:CH c w fr a.tmps.toList)(h:Ba G fr x=some v):Rp c w v (a.eval x):=by
 cases x with
 | tmp t =>
   simp only[Ba,Option.some.injEq] at h;subst h;simp only[Act.eval];rw[List.getD_eq_getElem?_getD];cases hg:fr[t]? with
   | some b =>
     obtain⟨u,hu,hr⟩:=hf.get hg;rw[Array.getElem?_toList] at hu;simp[hu,hr]
   | none =>
     have hl:=hf.len;have h1:=List.getElem?_eq_none_iff.1 hg;have h2:a.tmps[t]?=none:=Array.getElem?_eq_none (by rw[<- Array.length_toList];omega);simp only[Array.getD_eq_getD_getElem?,h2,Option.getD_none];exact .sc rfl
 | const v=>exact jS h c w
 | global g =>
   simp only[Ba] at h;cases hg:G g with
   | none=>rw[hg] at h;cases h
   | some cs=>rw[hg] at h;cases h;exact .el (hs.Mp g cs hg)
 | func f=>simp only[Ba,Option.some.injEq] at h;subst h;exact .fn (us:=[]) (vs:=[]) .nil .nil
def Zo(G:A8)(fr:List AV):List Operand->Option (List AV)
 | []=>some []
 | x::xs=>match Ba G fr x,Zo G fr xs with
   | some a,some as=>some (a::as)
   | _,_=>none
abbrev Zi(G:A8)(c:Cx)(w:World)(fr:List AV)(ρ:Operand->Value)(x:Operand):Prop:=∀v,Ba G fr x=some v->Rp c w v (ρ x)
def XW{G:A8}{c:Cx}{w:World}{fr:List AV}{ρ:Operand->Value}{xs:List Operand}{vs:List AV}(IS:∀x∈xs,Zi G c w fr ρ x)(h:Zo G fr xs=some vs):CH c w vs (xs.map ρ):=by
 induction xs generalizing vs with
 | nil=>simp[Zo] at h;subst h;exact .nil
 | cons x xs ih =>
   simp only[Zo] at h;split at h;rename_i b bs h1 h2;cases h;exact .cons (IS x List.mem_cons_self b h1) (ih (λy hy=>IS y (List.mem_cons_of_mem _ hy)) h2);cases h
def LJ(G:A8)(fr:List AV):List (Nat×Operand)->Option (List (Nat×AV))
 | []=>some []
 | x::xs=>match Ba G fr x.2,LJ G fr xs with
   | some a,some as=>some ((x.1,a)::as)
   | _,_=>none
def XV{G:A8}{c:Cx}{w:World}{fr:List AV}{ρ:Operand->Value}{xs:List (Nat×Operand)}{vs:List (Nat×AV)}(IS:∀x∈xs,Zi G c w fr ρ x.2)(h:LJ G fr xs=some vs):PL c w vs (xs.map λx=>(x.1,ρ x.2)):=by
 induction xs generalizing vs with
 | nil=>simp[LJ] at h;subst h;exact .nil
 | cons x xs ih =>
   simp only[LJ] at h;split at h;rename_i b bs h1 h2;cases h;exact .cons (IS x List.mem_cons_self b h1) (ih (λy hy=>IS y (List.mem_cons_of_mem _ hy)) h2);cases h
def fJ(G:A8)(fr:List AV):Option Operand->Option (Option AV)
 | none=>some none
 | some x=>(Ba G fr x).map some
def nS{G:A8}{c:Cx}{w:World}{fr:List AV}{ρ:Operand->Value}{x:Option Operand}{v:Option AV}(IS:∀y∈x.toArray,Zi G c w fr ρ y)(h:fJ G fr x=some v):RO c w v (x.map ρ):=by
 cases x with
 | none=>simp[fJ] at h;subst h;exact .none
 | some x =>
   simp only[fJ] at h;cases hx:Ba G fr x with
   | none=>rw[hx] at h;cases h
   | some b=>rw[hx] at h;cases h;exact .some (IS x (by simp) b hx)
inductive AR where
 | val (v:AV) (s:AS)
 | ent (f:FuncId) (args:List AV)
 | pan (v:AV)
def LZ(P:Program)(g:FuncId):Bool:=match P.funcs[g]? with
 | some fn=>fn.name != "runtime.NumGoroutine"&&fn.body.isSome
 | none=>false
def notNil:AV->Bool
 | .ptr _ _ | .el _=>true
 | .fn (.func _) _ _=>true
 | _=>false
def isIface:TypeDesc->Bool
 | .interface _=>true
 | _=>false
def SS(P:Program)(G:A8)(fr:List AV)(s:AS)(o:Oper)(cl:Call):Option AR :=
 match cl.callee with
 | .builtin .len=>match cl.args.toList,cl.argTypes.toList with
   | [x],[t]=>((Ba G fr x).bind (Wr P s t)).map λv=>.val v s
   | _,_=>none
 | .builtin .append=>match cl.args.toList,cl.argTypes.toList with
   | [x,y],[t,tx]=>match Ba G fr x,Ba G fr y with
     | some a,some b=>(KN P s t tx a b).map λr=>.val r.1 r.2
     | _,_=>none
   | _,_=>none
 | .builtin .max=>((Zo G fr cl.args.toList).bind OC).bind λvs=>(VX P (Builtin.max_ cl.argTypes o.type vs.toArray)).map λv=>.val v s
 | .builtin .min=>((Zo G fr cl.args.toList).bind OC).bind λvs=>(VX P (Builtin.min_ cl.argTypes o.type vs.toArray)).map λv=>.val v s
 | .value f=>match Ba G fr f,Zo G fr cl.args.toList with
   | some (.fn (.func g) first caps),some as=>if LZ P g=true then some (.ent g (first++as++caps)) else none
   | _,_=>none
 | _=>none
def PU(P:Program)(G:A8)(fr:List AV)(s:AS)(o:Oper):Option AR :=
 match o.op with
 | .move x=>(Ba G fr x).map λv=>.val v s
 | .assign x=>(Ba G fr x).map λv=>.val v s
 | .pick c a b=>match Ba G fr c with
   | some (.sc (.bool t))=>(if t then Ba G fr a else Ba G fr b).map λv=>.val v s
   | _=>none
 | .alloc e=>(LY P e).map λz=>.val (.ptr s.nx 0) (s.new (.cells (cellsOf z)))
 | .box _ x=>(Ba G fr x).bind λz=>match RF z with
   | true=>none
   | false=>some (.val (.ptr s.nx 0) (s.new (.cells (cellsOf z))))
 | .build t ps=>((LJ G fr ps.toList).bind (Xu P t)).map λv=>.val v s
 | .buildSlice t n ps=>((LJ G fr ps.toList).bind (LW P t n)).map λv=>.val v s
 | .load t a=>((Ba G fr a).bind (Jq P s t)).map λv=>.val v s
 | .store t a x=>match Ba G fr a,Ba G fr x with
   | some a,some x=>(Kr P s t a x).map λs'=>.val (.sc undef) s'
   | _,_=>none
 | .nilCheck x=>match Ba G fr x with
   | some v=>if notNil v=true then some (.val v s) else none
   | none=>none
 | .binOp op t x y _=>match Ba G fr x,Ba G fr y with
   | some a,some b=>(Lf P op t x y a b).map λv=>.val v s
   | _,_=>none
 | .unOp op _ x=>((Ba G fr x).bind YU).bind λv=>(VX P (Op.unary op v)).map λv=>.val v s
 | .convert src dst x=>((Ba G fr x).bind λa=>Re P src dst a).map λv=>.val v s
 | .makeInterface t x=>match Ba G fr x,P.underlying t with
   | some v,some d=>if isIface d=true then none else some (.val (.ifc t v) s)
   | _,_=>none
 | .makeFunc f first caps=>match Zo G fr first.toList,Zo G fr caps.toList with
   | some a,some b=>some (.val (.fn f a b) s)
   | _,_=>none
 | .makeMap _ none=>some (.val (.mp s.nx) (s.new (.map [] 0)))
 | .makeSlice t l c=>match Ba G fr l,Ba G fr c with
   | some a,some b=>(Jr P s t a b).map λr=>.val r.1 r.2
   | _,_=>none
 | .slice t x lo hi mx=>match Ba G fr x,fJ G fr lo,fJ G fr hi,fJ G fr mx with
   | some a,some l,some h,some m=>(KP P t a l h m).map λv=>.val v s
   | _,_,_,_=>none
 | .fieldAddr t x k=>((Ba G fr x).bind λa=>Rg P t a k).map λv=>.val v s
 | .field t x k=>((Ba G fr x).bind λa=>Xx P t a k).map λv=>.val v s
 | .indexAddr t x i=>match Ba G fr x,Ba G fr i with
   | some a,some b=>(CO P t a b).map λv=>.val v s
   | _,_=>none
 | .index t x i=>match Ba G fr x,Ba G fr i with
   | some a,some b=>(Lq P t a b).map λv=>.val v s
   | _,_=>none
 | .lookup t x k ok=>match Ba G fr x,Ba G fr k with
   | some a,some b=>(I9 P s t a b ok).map λv=>.val v s
   | _,_=>none
 | .mapUpdate t m k x=>match Ba G fr m,Ba G fr k,Ba G fr x with
   | some a,some b,some v=>(Kl P s t a b v).map λs'=>.val (.sc undef) s'
   | _,_,_=>none
 | .insert t m k x=>match Ba G fr m,Ba G fr k,Ba G fr x with
   | some a,some b,some v=>(Kl P s t a b v).map λs'=>.val (.sc undef) s'
   | _,_,_=>none
 | .mapEntry t m k=>match Ba G fr m,Ba G fr k with
   | some a,some b=>(Pb P s t a b).map λr=>.val r.1 r.2
   | _,_=>none
 | .entryStore _ m st x=>match Ba G fr m,Ba G fr st,Ba G fr x with
   | some a,some b,some v=>(LX s a b v).map λs'=>.val (.sc undef) s'
   | _,_,_=>none
 | .extract x k=>((Ba G fr x).bind λa=>Rf a k).map λv=>.val v s
 | .call cl=>SS P G fr s o cl
 | .panic x=>match Ba G fr x with
   | some (.ifc t v)=>some (.pan (.ifc t v))
   | _=>none
 | _=>none
def Xq(_P:Program)(G:A8)(c:Cx)(w:World)(r:Result Next):AR->Prop
 | .val v s'=>∃u w' c',(r=.ok (.value u) w'\/(r=.ok .skip w'/\u=undef))/\Ext c w c' w'/\St G c' w' s'/\Rp c' w' v u
 | .ent f args=>∃vs,r=.ok (.enter f vs.toArray) w/\CH c w args vs
 | .pan v=>∃u,r=.halt (.panic u) w/\Rp c w v u
def Ey{P:Program}{G:A8}{c:Cx}{w:World}{s:AS}{v:AV}{m:Sem Value}(hs:St G c w s)(h:∃u,m.run P w=.ok u w/\Rp c w v u):Xq P G c w ((do pure (Next.value (<- m)):Sem Next).run P w) (.val v s):=by
 obtain⟨u,h1,h2⟩:=h;exact⟨u,w,c,.inl (by simp[h1]),Ext.refl c w,hs,h2⟩
def Nq{P:Program}{G:A8}{c:Cx}{w:World}{s':AS}{v:AV}{m:Sem Value}(h:∃u w' c',m.run P w=.ok u w'/\Ext c w c' w'/\St G c' w' s'/\Rp c' w' v u):Xq P G c w ((do pure (Next.value (<- m)):Sem Next).run P w) (.val v s'):=by
 obtain⟨u,w',c',h1,h2⟩:=h;exact⟨u,w',c',.inl (by simp[h1]),h2⟩
def R8{P:Program}{G:A8}{c:Cx}{w:World}{s':AS}{m:Sem Unit}(h:∃w',m.run P w=.ok () w'/\Ext c w c w'/\St G c w' s'):Xq P G c w ((do m;pure Next.skip:Sem Next).run P w) (.val (.sc undef) s'):=by
 obtain⟨w',h1,h2,h3⟩:=h;exact⟨undef,w',c,.inr ⟨by simp[h1],rfl⟩,h2,h3,.sc rfl⟩
def map_some{α β:Type}{o:Option α}{f:α->β}{b:β}(h:o.map f=some b):∃a,o=some a/\f a=b:=by
 cases o with
 | none=>cases h
 | some a=>exact⟨a,rfl,by simpa using h⟩
def bind_some{α β:Type}{o:Option α}{f:α->Option β}{b:β}(h:o.bind f=some b):∃a,o=some a/\f a=some b:=by
 cases o with
 | none=>cases h
 | some a=>exact⟨a,rfl,by simpa using h⟩
end AI
namespace AI
open Go Go.RowKit
def Rt{P:Program}{g:FuncId}(h:LZ P g=true)(args:Array Value)(w:World):(callFunc g args).run P w=.ok (.enter g args) w:=by
 unfold LZ at h;split at h;rename_i fn hf;simp only[Bool.and_eq_true,bne_iff_ne,ne_eq] at h;obtain⟨b,hb⟩:=Option.isSome_iff_exists.1 h.2;simp[callFunc,hf,h.1,hb];cases h
def aaS{P:Program}{G:A8}{c:Cx}{w:World}{s:AS}{fr:List AV}{ρ:Operand->Value}{o:Oper}{cl:Call}{r:AR}(hs:St G c w s)(IS:∀x∈cl.operands,Zi G c w fr ρ x)(h:SS P G fr s o cl=some r) :
   Xq P G c w ((do let d <- resolve ρ cl o.type;invoke d.target d.args:Sem Next).run P w) r:=by
 have GD:∀x∈cl.args.toList,Zi G c w fr ρ x:=λx hx=>IS x (by simp only[Call.operands,Array.mem_append];exact .inr (Array.mem_toList_iff.1 hx));unfold SS at h;split at h;rename_i Iy;split at h;rename_i x t hx ht;obtain⟨v,h1,rfl⟩:=map_some h;obtain⟨b,h2,h3⟩:=bind_some h1;have e1:cl.args=#[x]:=by apply Array.ext';rw[hx]
 have e2:cl.argTypes=#[t]:=by apply Array.ext';rw[ht]
 have:=Ey hs (alP (ty:=o.type) hs h3 (GD x (by rw[hx];simp) _ h2));simpa[resolve,Iy,e1,e2,invoke,builtin] using this
 cases h;rename_i Iy;split at h;rename_i x y t tx hx ht;split at h;rename_i b d h2 h3;obtain⟨v,h1,rfl⟩:=map_some h;have e1:cl.args=#[x,y]:=by apply Array.ext';rw[hx]
 have e2:cl.argTypes=#[t,tx]:=by apply Array.ext';rw[ht]
 have:=Nq (mX (ty:=o.type) hs h1 (GD x (by rw[hx];simp) _ h2) (GD y (by rw[hx];simp) _ h3));simpa[resolve,Iy,e1,e2,invoke,builtin] using this
 cases h;cases h;rename_i Iy;obtain⟨vs,h1,h2⟩:=bind_some h;obtain⟨v,h3,rfl⟩:=map_some h2;obtain⟨as,h4,h5⟩:=bind_some h1;have e:=YV h5 (XW GD h4);have e1:cl.args.map ρ=vs.toArray:=by apply Array.ext';rw[<- e];simp
 have:=Ey hs (Ui h3 c w w);simpa[resolve,Iy,e1,invoke,builtin] using this
 rename_i Iy;obtain⟨vs,h1,h2⟩:=bind_some h;obtain⟨v,h3,rfl⟩:=map_some h2;obtain⟨as,h4,h5⟩:=bind_some h1;have e:=YV h5 (XW GD h4);have e1:cl.args.map ρ=vs.toArray:=by apply Array.ext';rw[<- e];simp
 have:=Ey hs (Ui h3 c w w);simpa[resolve,Iy,e1,invoke,builtin] using this
 · rename_i f Iy
   split at h
   · rename_i g first caps as h1 h2
     split at h
     · rename_i hc
       cases h;have hr:=IS f (by simp[Call.operands,Iy]) _ h1;have GD:=XW GD h2;generalize hv:ρ f=v at hr;cases hr with
       | @fn _ _ _ us vs q1 q2 =>
         refine⟨us++cl.args.toList.map ρ++vs,?_,(q1.append GD).append q2⟩
         have e3:(us++cl.args.toList.map ρ++vs).toArray=us.toArray++Array.map ρ cl.args++vs.toArray:=by
           apply Array.ext';simp
         rw[e3];simp only[resolve,Iy,hv,Sem.run_bind,Deferred.ofValue,Sem.run_pure,Result.andThen_ok,invoke,Rt hc]
     cases h
   cases h
 cases h
def bQ{P:Program}{G:A8}{c:Cx}{w:World}{s:AS}{fr:List AV}{ρ:Operand->Value}{o:Oper}{r:AR}(hs:St G c w s)(IS:∀x∈o.op.operands,Zi G c w fr ρ x)(hρ:∀k,ρ (.const k)=k)(h:PU P G fr s o=some r) :
   Xq P G c w ((execOp ρ o).run P w) r:=by
 unfold PU at h;split at h;rename_i x ho;obtain⟨v,h1,rfl⟩:=map_some h;simp only[execOp,ho];exact⟨_,w,c,.inl rfl,Ext.refl c w,hs,IS x (by rw[ho];simp[Op.operands]) v h1⟩;rename_i x ho;obtain⟨v,h1,rfl⟩:=map_some h;simp only[execOp,ho];exact⟨_,w,c,.inl rfl,Ext.refl c w,hs,IS x (by rw[ho];simp[Op.operands]) v h1⟩;rename_i x y z ho;split at h;rename_i t hc;obtain⟨v,h1,rfl⟩:=map_some h;have hb:=IS x (by rw[ho];simp[Op.operands]) _ hc;generalize hv:ρ x=vx at hb;cases hb;simp only[execOp,ho,hv];refine⟨if t then ρ y else ρ z,w,c,.inl (by simp[asBool]),Ext.refl c w,hs,?_⟩
 cases t;exact IS z (by rw[ho];simp[Op.operands]) v h1;exact IS y (by rw[ho];simp[Op.operands]) v h1;cases h;rename_i e ho;obtain⟨z,h1,rfl⟩:=map_some h;obtain⟨zv,sZ,hzp⟩:=Uj h1 c w w;obtain⟨v',w',c',h2,h3⟩:=rG (P:=P) (t:=e) hs hzp (ZP h1);simp only[execOp,ho];refine Nq ⟨v',w',c',?_,h3⟩;simp only[Instr.box,Sem.run_bind] at h2;simp only[Instr.alloc,Sem.run_bind,sZ,Result.andThen_ok];exact h2;rename_i e x ho;obtain⟨z,h1,h⟩:=bind_some h;split at h;cases h;rename_i hz;cases h;simp only[execOp,ho];exact Nq (rG (P:=P) (t:=e) hs (IS x (by rw[ho];simp[Op.operands]) z h1) hz);rename_i t ps ho;obtain⟨v,h1,rfl⟩:=map_some h;obtain⟨qs,h2,h3⟩:=bind_some h1;simp only[execOp,ho];refine Ey hs (vY (qs:=ps.map λx=>(x.1,ρ x.2)) h3 (by simpa using XV (ρ:=ρ) (λx hx=>IS x.2 (by rw[ho];simp only[Op.operands,List.mem_toArray,List.mem_map];exact⟨x,hx,rfl⟩)) h2) w)
 rename_i t n ps ho;obtain⟨v,h1,rfl⟩:=map_some h;obtain⟨qs,h2,h3⟩:=bind_some h1;simp only[execOp,ho];obtain⟨u,w',q1,q2⟩:=Xv (qs:=ps.map λx=>(x.1,ρ x.2)) hs h3 (by simpa using XV (ρ:=ρ) (λx hx=>IS x.2 (by rw[ho];simp only[Op.operands,List.mem_toArray,List.mem_map];exact⟨x,hx,rfl⟩)) h2)
 exact Nq ⟨u,w',c,q1,q2⟩;rename_i t x ho;obtain⟨v,h1,rfl⟩:=map_some h;obtain⟨b,h2,h3⟩:=bind_some h1;simp only[execOp,ho];exact Ey hs (fY hs h3 (IS x (by rw[ho];simp[Op.operands]) b h2));rename_i t x y ho;split at h;rename_i b d h2 h3;obtain⟨s',h1,rfl⟩:=map_some h;simp only[execOp,ho];exact R8 (wG hs h1 (IS x (by rw[ho];simp[Op.operands]) b h2) (IS y (by rw[ho];simp[Op.operands]) d h3));cases h
 · rename_i x ho
   split at h
   · rename_i v h1
     split at h
     · rename_i hn
       cases h;have hr:=IS x (by rw[ho];simp[Op.operands]) v h1;simp only[execOp,ho];generalize ρ x=vx at hr;cases hr with
       | ptr q=>exact⟨_,w,c,.inl rfl,Ext.refl c w,hs,.ptr q⟩
       | el q=>exact⟨_,w,c,.inl rfl,Ext.refl c w,hs,.el q⟩
       | @fn f _ _ us vs q1 q2 =>
         cases f with
         | func g=>exact⟨_,w,c,.inl rfl,Ext.refl c w,hs,.fn q1 q2⟩
         | _=>simp[notNil] at hn
       | _=>simp[notNil] at hn
     cases h
   cases h
 rename_i op t x y yt ho;split at h;rename_i b d h2 h3;obtain⟨v,h1,rfl⟩:=map_some h;simp only[execOp,ho];exact Ey hs (alN h1 (IS x (by rw[ho];simp[Op.operands]) b h2) (IS y (by rw[ho];simp[Op.operands]) d h3) (λk hk=>by rw[hk];exact hρ k) w);cases h;rename_i op t x ho;obtain⟨v,h1,h2⟩:=bind_some h;obtain⟨b,h3,h4⟩:=bind_some h1;obtain⟨q,h5,rfl⟩:=map_some h2;have e:=UN h4 (IS x (by rw[ho];simp[Op.operands]) b h3);simp only[execOp,ho,e];exact Ey hs (Ui h5 c w w);rename_i src dst x ho;obtain⟨q,h1,rfl⟩:=map_some h;obtain⟨b,h3,h4⟩:=bind_some h1;simp only[execOp,ho];exact Ey hs (aaT h4 (IS x (by rw[ho];simp[Op.operands]) b h3))
 · rename_i t x ho
   split at h
   · rename_i v d h1 hd
     split at h;cases h
     · rename_i hi
       cases h;simp only[execOp,ho];refine Ey hs ⟨.iface t (ρ x),?_,.ifc (IS x (by rw[ho];simp[Op.operands]) v h1)⟩;unfold Instr.makeInterface;rw[Sem.run_bind,run_underlying hd];cases d<;>first | rfl | (simp[isIface] at hi;done)
   cases h
 rename_i f first caps ho
 split at h;rename_i b d h2 h3;cases h;simp only[execOp,ho];refine Ey hs ⟨.func f (first.map ρ) (caps.map ρ),rfl,?_⟩
 have:=Rp.fn (f:=f) (XW (ρ:=ρ) (λx hx=>IS x (by rw[ho];simp only[Op.operands,Array.mem_append];exact .inl (Array.mem_toList_iff.1 hx))) h2) (XW (ρ:=ρ) (λx hx=>IS x (by rw[ho];simp only[Op.operands,Array.mem_append];exact .inr (Array.mem_toList_iff.1 hx))) h3);rwa[show(first.toList.map ρ).toArray=first.map ρ from by apply Array.ext';simp,show(caps.toList.map ρ).toArray=caps.map ρ from by apply Array.ext';simp] at this
 cases h;rename_i t ho;cases h;simp only[execOp,ho];exact Nq (fZ (P:=P) (t:=t) hs);rename_i t x y ho;split at h;rename_i b d h2 h3;obtain⟨v,h1,rfl⟩:=map_some h;simp only[execOp,ho];exact Nq (Zk hs h1 (IS x (by rw[ho];simp[Op.operands]) b h2) (IS y (by rw[ho];simp[Op.operands]) d h3));cases h;rename_i t x lo hi mx ho;split at h;rename_i b l hh m h2 h3 h4 h5;obtain⟨v,h1,rfl⟩:=map_some h;simp only[execOp,ho];exact Ey hs (wF h1 (IS x (by rw[ho];simp[Op.operands]) b h2) (nS (λy hy=>IS y (by rw[ho];simp only[Op.operands,Array.mem_append];exact .inl (.inl (.inr hy)))) h3) (nS (λy hy=>IS y (by rw[ho];simp only[Op.operands,Array.mem_append];exact .inl (.inr hy))) h4) (nS (λy hy=>IS y (by rw[ho];simp only[Op.operands,Array.mem_append];exact .inr hy)) h5));cases h;rename_i t x k ho;obtain⟨v,h1,rfl⟩:=map_some h;obtain⟨b,h2,h3⟩:=bind_some h1;simp only[execOp,ho];exact Ey hs (fW h3 (IS x (by rw[ho];simp[Op.operands]) b h2));rename_i t x k ho;obtain⟨v,h1,rfl⟩:=map_some h;obtain⟨b,h2,h3⟩:=bind_some h1;simp only[execOp,ho];exact Ey hs (wA h3 (IS x (by rw[ho];simp[Op.operands]) b h2) w);rename_i t x y ho;split at h;rename_i b d h2 h3;obtain⟨v,h1,rfl⟩:=map_some h;simp only[execOp,ho];exact Ey hs (fX h1 (IS x (by rw[ho];simp[Op.operands]) b h2) (IS y (by rw[ho];simp[Op.operands]) d h3));cases h;rename_i t x y ho;split at h;rename_i b d h2 h3;obtain⟨v,h1,rfl⟩:=map_some h;simp only[execOp,ho];exact Ey hs (wB h1 (IS x (by rw[ho];simp[Op.operands]) b h2) (IS y (by rw[ho];simp[Op.operands]) d h3) w);cases h;rename_i t x k ok ho;split at h;rename_i b d h2 h3;obtain⟨v,h1,rfl⟩:=map_some h;simp only[execOp,ho];exact Ey hs (nB hs h1 (IS x (by rw[ho];simp[Op.operands]) b h2) (IS k (by rw[ho];simp[Op.operands]) d h3));cases h;rename_i t m k x ho;split at h;rename_i b d e h2 h3 h4;obtain⟨s',h1,rfl⟩:=map_some h;simp only[execOp,ho];exact R8 (XA hs h1 (IS m (by rw[ho];simp[Op.operands]) b h2) (IS k (by rw[ho];simp[Op.operands]) d h3) (IS x (by rw[ho];simp[Op.operands]) e h4));cases h;rename_i t m k x ho;split at h;rename_i b d e h2 h3 h4;obtain⟨s',h1,rfl⟩:=map_some h;simp only[execOp,ho];exact R8 (XA hs h1 (IS m (by rw[ho];simp[Op.operands]) b h2) (IS k (by rw[ho];simp[Op.operands]) d h3) (IS x (by rw[ho];simp[Op.operands]) e h4));cases h;rename_i t m k ho;split at h;rename_i b d h2 h3;obtain⟨v,h1,rfl⟩:=map_some h;simp only[execOp,ho];obtain⟨u,w',q1,q2⟩:=bN hs h1 (IS m (by rw[ho];simp[Op.operands]) b h2) (IS k (by rw[ho];simp[Op.operands]) d h3);exact Nq ⟨u,w',c,q1,q2⟩;cases h;rename_i t m st x ho;split at h;rename_i b d e h2 h3 h4;obtain⟨s',h1,rfl⟩:=map_some h;simp only[execOp,ho];exact R8 (Xw hs h1 (IS m (by rw[ho];simp[Op.operands]) b h2) (IS st (by rw[ho];simp[Op.operands]) d h3) (IS x (by rw[ho];simp[Op.operands]) e h4));cases h;rename_i x k ho;obtain⟨v,h1,rfl⟩:=map_some h;obtain⟨b,h2,h3⟩:=bind_some h1;simp only[execOp,ho];exact Ey hs (fV h3 (IS x (by rw[ho];simp[Op.operands]) b h2) w);rename_i cl ho;simp only[execOp,ho];exact aaS hs (λx hx=>IS x (by rw[ho];exact hx)) h;rename_i x ho;split at h;rename_i t v h1;cases h;have hr:=IS x (by rw[ho];simp[Op.operands]) _ h1;simp only[execOp,ho];generalize ρ x=vx at hr;cases hr with
 | ifc q=>exact⟨_,by simp[Instr.panic],.ifc q⟩
 cases h;cases h
def nA{P:Program}{G:A8}{c:Cx}{w:World}{s:AS}{ρ:Operand->Value}{o:Oper}{e:TypeId}{z:AV}{id:Nat}(hs:St G c w s)(ho:o.op=.alloc e)(hz:LY P e=some z)(hid:c.CT[id]?=some none)(OQ:s.get id=some (.cells (cellsOf z))) :
   ∃u w' c',(execOp ρ o).run P w=.ok (.value u) w'/\Mon c w c' w'/\St G c' w' s/\Rp c' w' (.ptr id 0) u/\(∀c0 w0,Ext c0 w0 c w->c0.CT.length<=id->Ext c0 w0 c' w')/\∀i,i≠id->c'.CT[i]?=c.CT[i]?:=by
 obtain⟨zv,sZ,hzp⟩:=Uj hz c w w;obtain⟨v',w',c',h2,h3⟩:=vX (P:=P) (t:=e) hs hzp (ZP hz) hid OQ;refine⟨v',w',c',?_,h3⟩;simp only[execOp,ho];simp only[Instr.box,Sem.run_bind] at h2;simp only[Instr.alloc,Sem.run_bind,sZ,Result.andThen_ok];rw[h2];simp
end AI
namespace AI
open Go Go.RowKit
def TC(acc:List Nat):List Edge->Nat
 | []=>0
 | e::es=>if Region.binds .any e then TC acc es ||| 2 ^ e.on ||| acc.getD e.on 0 else TC acc es
def Ij:List Oper->List Nat->List Nat
 | [],acc=>acc
 | o::os,acc=>Ij os (acc++[TC acc o.after.toList])
def Met(L:Nat->Bool)(o:Oper):Prop:=∀e∈o.after,Region.binds .any e=true->L e.on=true
def Nc(ops:List Oper)(L:Nat->Bool):Prop:=∀i o,ops[i]?=some o->L i=true->Met L o
def xX{ops:List Oper}{L:Nat->Bool}(hc:Nc ops L){acc:List Nat}(iM:∀(j:Nat) m,acc[j]?=some m->∀o,ops[j]?=some o->∀i,m.testBit i=true->Met L o->L i=true)(hlen:acc.length<=ops.length)
   (es:List Edge) {i:Nat} (hb:(TC acc es).testBit i=true) (hm:∀e∈es,Region.binds .any e=true->L e.on=true):L i=true:=by
 induction es with
 | nil=>simp[TC] at hb
 | cons e es ih =>
   simp only[TC] at hb;split at hb
   · rename_i hbe
     rw[Nat.testBit_or,Nat.testBit_or,Bool.or_eq_true,Bool.or_eq_true] at hb;have he:=hm e List.mem_cons_self hbe;rcases hb with (hb | hb) | hb
     exact ih hb (λe he=>hm e (List.mem_cons_of_mem _ he));rw[Nat.testBit_two_pow] at hb;have:e.on=i:=by simpa using hb
     rw[<- this];exact he
     · rw[List.getD_eq_getElem?_getD] at hb
       cases hg:acc[e.on]? with
       | none=>rw[hg] at hb;simp at hb
       | some m =>
         rw[hg] at hb;have hl:=(List.getElem?_eq_some_iff.1 hg).1;have hl2:e.on < ops.length:=by omega
         exact iM e.on m hg ops[e.on] (List.getElem?_eq_getElem hl2) i hb (hc e.on _ (List.getElem?_eq_getElem hl2) he)
   exact ih hb (λe he=>hm e (List.mem_cons_of_mem _ he))
def afQ{ops:List Oper}{L:Nat->Bool}(hc:Nc ops L):∀(os:List Oper) (acc:List Nat),(∀k,os[k]?=ops[acc.length+k]?)->acc.length<=ops.length->(∀(j:Nat) m,acc[j]?=some m->∀o,ops[j]?=some o->∀i,m.testBit i=true->Met L o->L i=true) ->
   ∀(j:Nat) m,(Ij os acc)[j]?=some m->∀o,ops[j]?=some o->∀i,m.testBit i=true->Met L o->L i=true:=by
 intro os
 induction os with
 | nil=>intro acc _ _ iM;exact iM
 | cons o os ih =>
   intro acc hk hl iM;have h0:ops[acc.length]?=some o:=by have:=hk 0;simpa using this.symm
   have hlt:=(List.getElem?_eq_some_iff.1 h0).1;refine ih (acc++[TC acc o.after.toList]) (λk=>?_) (by simp;omega) (λj m hj o' V8 i hb hm=>?_);have:=hk (k+1);simp only[List.getElem?_cons_succ] at this;rw[this];congr 1;simp;omega;by_cases hjl:j < acc.length;rw[List.getElem?_append_left hjl] at hj;exact iM j m hj o' V8 i hb hm;have hl2:=(List.getElem?_eq_some_iff.1 hj).1;simp at hl2;have:j=acc.length:=by omega
   subst this;rw[List.getElem?_concat_length] at hj;cases hj;rw[h0] at V8;cases V8;exact xX hc iM hl _ hb (λe he=>hm e (Array.mem_toList_iff.1 he))
def R7(ms:List Nat)(j i:Nat):Bool:=(ms.getD j 0).testBit i
def XO{ops:List Oper}{L:Nat->Bool}(hc:Nc ops L){j i:Nat}{o:Oper}(ho:ops[j]?=some o)(hm:Met L o)(hd:R7 (Ij ops []) j i=true):L i=true:=by
 unfold R7 at hd;rw[List.getD_eq_getElem?_getD] at hd;cases hg:(Ij ops [])[j]? with
 | none=>rw[hg] at hd;simp at hd
 | some m =>
   rw[hg] at hd;exact afQ hc ops [] (λk=>by simp) (by simp) (λj m h=>by simp at h) j m hg o ho i hd hm
def quiet:Op->Bool
 | .move _ | .assign _ | .pick .. | .build .. | .buildSlice .. | .load .. | .nilCheck _ | .binOp .. | .unOp .. | .convert .. | .makeInterface .. | .makeFunc .. | .slice .. | .fieldAddr .. | .field .. | .indexAddr .. | .index .. | .lookup .. | .extract ..=>true
 | .call cl=>(match cl.callee with
   | .builtin .len | .builtin .max | .builtin .min=>true
   | _=>false)
 | _=>false
def B2:Op->Bool
 | .alloc _=>true
 | _=>false
def Ks{op:Op}(h:B2 op=true):∃e,op=.alloc e:=by
 unfold B2 at h;split at h;exact⟨_,rfl⟩;cases h
def calm(op:Op):Bool:=match B2 op with
 | true=>true
 | false=>quiet op
def XL{op:Op}(h:quiet op=true):calm op=true:=by
 unfold calm;cases B2 op;exact h;rfl
def XK{op:Op}(h:calm op=true):quiet op=true\/∃e,op=.alloc e:=by
 unfold calm at h;cases ha:B2 op with
 | true=>exact .inr (Ks ha)
 | false=>rw[ha] at h;exact .inl h
def mT:List Oper->Nat->Nat
 | _,0=>0
 | [],_+1=>0
 | o::l,n+1=>(match B2 o.op with | true=>1 | false=>0)+mT l n
def rk(ops:Array Oper)(i:Nat):Nat:=mT ops.toList i
def qD{l:List Oper}{i j:Nat}{o:Oper}(ho:l[i]?=some o)(ha:B2 o.op=true)(h:i < j):mT l i < mT l j:=by
 induction l generalizing i j with
 | nil=>simp at ho
 | cons x l ih =>
   cases j with
   | zero=>omega
   | succ j =>
     cases i with
     | zero =>
       simp at ho;subst ho;simp only[mT,ha];omega
     | succ i =>
       have:=ih (i:=i) (j:=j) (by simpa using ho) (by omega)
       simp only[mT];omega
def azU{ops:Array Oper}{i j:Nat}{x y:Oper}(hx:ops[i]?=some x)(hy:ops[j]?=some y)(hxa:B2 x.op=true)(dB:B2 y.op=true)(h:rk ops i=rk ops j):i=j:=by
 have Tv:ops.toList[i]?=some x:=by rw[Array.getElem?_toList];exact hx
 have hy':ops.toList[j]?=some y:=by rw[Array.getElem?_toList];exact hy
 unfold rk at h;rcases Nat.lt_trichotomy i j with hlt | he | hlt
 have:=qD Tv hxa hlt;omega;exact he;have:=qD hy' dB hlt;omega
def Pg(ops:Array Oper)(x y:Oper):Bool :=
 (!calm x.op&&!calm y.op) ||
 (match x.dst with
  | some d=>(y.looksAt ops).contains d||y.dst == some d
  | none=>false) ||
 (match y.dst with
  | some d=>(x.looksAt ops).contains d
  | none=>false)
def Yy(ops:Array Oper)(ms:List Nat)(j:Nat)(y:Oper):List Oper->Nat->Bool
 | [],_=>true
 | x::xs,i=>(if i < j then !Pg ops x y||R7 ms j i else true)&&Yy ops ms j y xs (i+1)
def Xc(ops:Array Oper)(ms:List Nat):List Oper->Nat->Bool
 | [],_=>true
 | y::ys,j=>Yy ops ms j y ops.toList 0&&(y.after.toList.all λe=>!Region.binds .any e||decide (e.on < j))&&Xc ops ms ys (j+1)
def L2(ops:Array Oper):Bool:=Xc ops (Ij ops.toList []) ops.toList 0
def yE{ops:Array Oper}{ms:List Nat}{j:Nat}{y:Oper}:∀(xs:List Oper) (i:Nat),Yy ops ms j y xs i=true->∀k x,xs[k]?=some x->i+k < j->Pg ops x y=true->R7 ms j (i+k)=true:=by
 intro xs
 induction xs with
 | nil=>intro i _ k x hx;simp at hx
 | cons z xs ih =>
   intro i h k x hx hlt Iy;simp only[Yy,Bool.and_eq_true] at h;cases k with
   | zero =>
     simp at hx;subst hx;rw[Nat.add_zero] at hlt ⊢;have:=h.1;rw[if_pos hlt,Iy] at this;simpa using this
   | succ k =>
     have:=ih (i+1) h.2 k x (by simpa using hx) (by omega) Iy
     rwa[show i+1+k=i+(k+1) from by omega] at this
def Yz{ops:Array Oper}{ms:List Nat}:∀(ys:List Oper) (j:Nat),Xc ops ms ys j=true->∀k y,ys[k]?=some y->Yy ops ms (j+k) y ops.toList 0=true/\∀e∈y.after,Region.binds .any e=true->e.on < j+k:=by
 intro ys
 induction ys with
 | nil=>intro j _ k y hy;simp at hy
 | cons z ys ih =>
   intro j h k y hy;simp only[Xc,Bool.and_eq_true] at h;cases k with
   | zero =>
     simp at hy;subst hy;refine⟨h.1.1,λe he hb=>?_⟩;have:=List.all_eq_true.1 h.1.2 e (Array.mem_toList_iff.2 he);rw[hb] at this;simpa using this
   | succ k =>
     have:=ih (j+1) h.2 k y (by simpa using hy)
     rwa[show j+1+k=j+(k+1) from by omega] at this
def aF{ops:Array Oper}(h:L2 ops=true){i j:Nat}{x y:Oper}(hx:ops[i]?=some x)(hy:ops[j]?=some y)(hlt:i < j)(hc:Pg ops x y=true):R7 (Ij ops.toList []) j i=true:=by
 have h1:=(Yz ops.toList 0 h j y (by rw[Array.getElem?_toList];exact hy)).1;rw[Nat.zero_add] at h1;have:=yE ops.toList 0 h1 i x (by rw[Array.getElem?_toList];exact hx) (by omega) hc;rwa[Nat.zero_add] at this
def jV{ops:Array Oper}(h:L2 ops=true){j:Nat}{y:Oper}(hy:ops[j]?=some y){e:Edge}(he:e∈y.after)(hb:Region.binds .any e=true):e.on < j:=by
 have:=(Yz ops.toList 0 h j y (by rw[Array.getElem?_toList];exact hy)).2 e he hb;omega
def IJ(fr:List AV)(dst:Option Tmp)(v:AV):List AV:=match dst with
 | some d=>fr.set d v
 | none=>fr
def Od{c:Cx}{w:World}{fr:List AV}{a:Act}{dst:Option Tmp}{v:AV}{u:Value}(h:CH c w fr a.tmps.toList)(hv:Rp c w v u):CH c w (IJ fr dst v) (a.put dst u).tmps.toList:=by
 cases dst with
 | none=>exact h
 | some d=>simp only[IJ,Act.put,Array.toList_setIfInBounds];exact h.set hv d
def Iz(f0:List AV)(dst:Nat->Option Tmp)(vals:Nat->AV)(L:Nat->Bool):Nat->List AV
 | 0=>f0
 | n+1=>if L n then IJ (Iz f0 dst vals L n) (dst n) (vals n) else Iz f0 dst vals L n
def Ri{fr:List AV}{dst:Option Tmp}{v:AV}{t:Nat}(h:dst≠some t):(IJ fr dst v)[t]?=fr[t]?:=by
 cases dst with
 | none=>rfl
 | some d=>exact List.getElem?_set_ne (λe=>h (by rw[e]))
def aaW{fr:List AV}{dst:Option Tmp}{v:AV}:(IJ fr dst v).length=fr.length:=by cases dst<;>simp[IJ]
def Oc{fr:List AV}{v:AV}{t:Nat}:(IJ fr (some t) v)[t]?=if t < fr.length then some v else none:=by simp[IJ,List.getElem?_set]
def WV(f0:List AV)(dst:Nat->Option Tmp)(vals:Nat->AV)(L:Nat->Bool)(n:Nat):(Iz f0 dst vals L n).length=f0.length:=by
 induction n with
 | zero=>rfl
 | succ n ih=>simp only[Iz];split<;>simp[aaW,ih]
def XX{f0:List AV}{dst:Nat->Option Tmp}{vals:Nat->AV}{L M:Nat->Bool}{t:Nat}:∀(n:Nat),(∀i,i < n->dst i=some t->L i=M i)->(Iz f0 dst vals L n)[t]?=(Iz f0 dst vals M n)[t]?:=by
 intro n
 induction n with
 | zero=>intro _;rfl
 | succ n ih =>
   intro h;have ih:=ih (λi hi hd=>h i (by omega) hd);by_cases hd:dst n=some t;have:=h n (by omega) hd;simp only[Iz,this];split;rw[hd,Oc,Oc,WV,WV];exact ih
   have e:∀K:Nat->Bool,(Iz f0 dst vals K (n+1))[t]?=(Iz f0 dst vals K n)[t]?:=by
     intro K;simp only[Iz];split;exact Ri hd;rfl
   rw[e,e,ih]
def rZ{f0:List AV}{dst:Nat->Option Tmp}{vals:Nat->AV}{L:Nat->Bool}{t j:Nat}:∀(n:Nat),j<=n->(∀i,j<=i->i < n->dst i=some t->L i=false)->(Iz f0 dst vals L n)[t]?=(Iz f0 dst vals L j)[t]?:=by
 intro n
 induction n with
 | zero=>intro hj _;have:j=0:=by omega
         subst this;rfl
 | succ n ih =>
   intro hj h;by_cases hn:j=n+1;subst hn;rfl;have ih:=ih (by omega) (λi h1 h2 hd=>h i h1 (by omega) hd);rw[<- ih];simp only[Iz];split;rename_i hL;by_cases hd:dst n=some t;have:=h n (by omega) (by omega) hd;rw[this] at hL;cases hL;exact Ri hd;rfl
end AI
