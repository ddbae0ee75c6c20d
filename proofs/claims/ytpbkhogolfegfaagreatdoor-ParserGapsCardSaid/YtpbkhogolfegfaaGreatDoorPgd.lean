/- Part of a proof: see the last text. -/
import Derived.Test.YtpbkhogolfegfaaGreatDoorPgc
import Derived.IntWalk
set_option linter.unusedVariables false
set_option linter.unusedSimpArgs false
set_option linter.defProp false
noncomputable section
namespace AI
open Go Go.RowKit
def ZL{P:Program}{G:Bc}{c:Cx}{w:World}{s s':AS}{t:TypeId}{l k r:AV}{vl vk:Value}(hs:St G c w s)(h:JQ P s t l k=some (r,s'))(hl:Rp c w l vl)(hk:Rp c w k vk) :
   ∃u w' c',(Instr.makeSlice t vl vk).run P w=.ok u w'/\Ext c w c' w'/\St G c' w' s'/\Rp c' w' r u:=by
 unfold JQ at h;split at h;rename_i elem hu;split at h;rename_i e n m he hn hm;split at h;rename_i z hz;split at h;rename_i zs hzs;split at h;rename_i hc;cases h;obtain⟨rfl,h24,h48,hne⟩:=hc;obtain⟨k1,i1,rfl,h1,e1⟩:=Nu hn hl;obtain⟨k2,i2,rfl,h2,e2⟩:=Nu hm hk;have w1:IntKind.i64.wrap i1=i1:=IntWalk.i64_in _ (by omega);have w2:IntKind.i64.wrap i2=i2:=IntWalk.i64_in _ (by omega);have uA:CG c w zs z.cells.toList:=QV hzs c w;have hin:=nO uA (n*e.size) (λ_ hn=>by rw[hn] at hne;cases hne);simp only[Array.toArray_toList] at hin
 have aeR:(Array.range (n*e.size)).map (λi=>z.cells[i % z.cells.size]!)=((List.range (n*e.size)).map λi=>z.cells[i % z.cells.size]!).toArray:=by
   apply Array.ext';simp
 obtain⟨x,st⟩:=hs.new (b:=.cells ((List.range (n*e.size)).map λi=>zs.getD (i % zs.length) (.sc undef))) (o:=.cells ((List.range (n*e.size)).map λi=>z.cells[i % z.cells.size]!).toArray elem (0,0)) (.cells hin);refine⟨.slice (some ⟨w.heap.size,0,none⟩) n n,_,_,?_,x,st,.msl (Nat.le_refl _) (by simp[hs.len])⟩
 have hb:¬281474976710656 < (e.bytes:Int)*i2:=by
   have e3:(e.bytes:Int)*i2=((n*e.bytes:Nat):Int):=by
     rw[show i2=(n:Int) from by omega,Int.natCast_mul,Int.mul_comm]
   rw[e3];generalize n*e.bytes=q at h48;omega
 have hn2:¬i2 < 0:=by omega
 have hn1:¬i1 < 0:=by omega
 have hle:¬i2 < i1:=by omega
 simp only[Instr.makeSlice,Sem.run_bind,run_underlying hu,Result.andThen_ok,asInt,asIntOf,Sem.run_pure,typeInfo,run_program,he,w1,w2,hn1,hn2,gt_iff_lt,show(2:Int) ^ 48=281474976710656 from rfl,hb,decide_false,Bool.or_false,hle,Bool.false_eq_true,if_false,run_askRoom,e2,CE he,newRow,e1];split;rename_i h0;have hz0:Array.range 0=#[]:=rfl;simp[h0,hz0];simp only[Sem.run_bind,zeroValue,typeInfo,run_program,Result.andThen_ok,he,hz,Sem.run_pure,run_newObj,aeR];cases h;cases h;cases h;cases h;cases h
def PV(P:Program)(s:AS)(t:TypeId)(x k:AV):Option (AV×AS) :=
 match P.underlying t with
 | some (.map kt et)=>match P.underlying kt,Zm k,x with
   | some kd,some key,.mp id=>if plainKey kd=true then
       (match s.get id with
       | some (.map es cl)=>match XX kd key es 0 with
         | some (some (j,v))=>match es[j]? with
           | some e=>some (.C4 [v,.sc (.int .i64 e.2.2)],(s.put id (.map (es.set j (key,v,e.2.2)) cl)))
           | none=>none
         | some none=>match Mv P et with
           | some z=>some (.C4 [z,.sc (.int .i64 cl)],(s.put id (.map (es++[(key,z,cl)]) (cl+1))))
           | none=>none
         | none=>none
       | _=>none) else none
   | _,_,_=>none
 | _=>none
def cX{P:Program}{G:Bc}{c:Cx}{w:World}{s s':AS}{t:TypeId}{x k r:AV}{vx vk:Value}(hs:St G c w s)(h:PV P s t x k=some (r,s'))(hx:Rp c w x vx)(hk:Rp c w k vk) :
   ∃u w',(Instr.mapEntry t vx vk).run P w=.ok u w'/\Ext c w c w'/\St G c w' s'/\Rp c w' r u:=by
 unfold PV at h;split at h
 · rename_i kt et hu
   split at h
   · rename_i kd key id hkd aeZ
     have:=Vl aeZ hk;subst this;split at h
     · rename_i hp
       split at h
       · rename_i es cl hb
         cases hx with
         | @mp _ g hid =>
           obtain⟨fs,hw,he⟩:=UR hs hid hb;split at h;rename_i j v hf;split at h;rename_i e hej;cases h;rcases PU he hf with ⟨h1,_⟩ | ⟨j',a',v',e',f,h1,h2,h3,h4,h5,h6,h7,h8,h9,h10⟩
           cases h1;injection h1 with h1
           injection h1 with h1 h1'
           rw[Nat.zero_add] at h1;subst h1 h1';rw[hej] at h4;cases h4;rw[Nat.zero_add] at h2;have afB:fs.toArray.modify j (λe=>{ e with key:=vk })=(fs.set j ⟨vk,v',e.2.2⟩).toArray:=T6 h5 (by rw[<- h9,<- h7])
           obtain⟨x1,st⟩:=hs.put (b:=.map (es.set j (vk,v,e.2.2)) cl) (o:=.map (fs.set j ⟨vk,v',e.2.2⟩).toArray cl) hid (UX w g _) (Vj w hw) (.map (he.set h3 j));refine⟨.tuple #[v',.int .i64 e.2.2],_,?_,x1,st,.C4 (vs:=[v',.int .i64 e.2.2]) (.cons (h3.mono x1) (.cons (.sc rfl) .nil))⟩;have aeU:=Zc h10;have hfk:=run_findKey (P:=P) hkd h2 w;simp only[Instr.mapEntry,Sem.run_bind,run_underlying hu,Result.andThen_ok,J2 hw,run_checkKey _ hkd hp,hfk,List.getElem?_toArray,h5,Option.map_some,Option.getD_some,h8,h9,Instr.keyThatStays,aeU,if_true,Sem.run_pure,afB,OC _ hw,goInt];cases h;rename_i hf;split at h;rename_i z hz;cases h;rcases PU he hf with ⟨_,h2⟩ | ⟨j',a',v',e',f,h1,_⟩
           obtain⟨zv,uA,hzp⟩:=UQ hz c w w;obtain⟨x1,st⟩:=hs.put (b:=.map (es++[(vk,z,cl)]) (cl+1)) (o:=.map (fs++[(⟨vk,zv,cl⟩:MapEntry)]).toArray (cl+1)) hid (UX w g _) (Vj w hw) (.map (he.snoc hzp));refine⟨.tuple #[zv,.int .i64 cl],_,?_,x1,st,.C4 (vs:=[zv,.int .i64 cl]) (.cons (hzp.mono x1) (.cons (.sc rfl) .nil))⟩;have hfk:=run_findKey (P:=P) hkd h2 w;have afD:fs.toArray.push (⟨vk,zv,cl⟩:MapEntry)=(fs++[(⟨vk,zv,cl⟩:MapEntry)]).toArray:=by simp
           simp only[Instr.mapEntry,Sem.run_bind,run_underlying hu,Result.andThen_ok,J2 hw,run_checkKey _ hkd hp,hfk,uA,afD,OC _ hw,Sem.run_pure,goInt];cases h1;cases h;cases h
       cases h
     cases h
   cases h
 cases h
def hU(b:Int):List (Value×AV×Nat)->Nat->Option Nat
 | [],_=>none
 | e::es,i=>if (e.2.2:Int) == b then some i else hU b es (i+1)
def abQ{c:Cx}{w:World}{b:Int}{es:List (Value×AV×Nat)}{fs:List MapEntry}(h:KR c w es fs):fs.findIdx? (λe=>(e.born:Int) == b)=hU b es 0:=by
 have key:∀(es:List (Value×AV×Nat)) (fs:List MapEntry) (i:Nat),KR c w es fs->hU b es i=(fs.findIdx? (λe=>(e.born:Int) == b)).map (·+i):=by
   intro es fs i h
   induction h generalizing i with
   | nil=>rfl
   | cons _ _ ih =>
     simp only[hU,List.findIdx?_cons];split;simp;rw[ih,Option.map_map];congr 1;funext x;simp;omega
 rw[key es fs 0 h];simp
def Mu(s:AS)(x st v:AV):Option AS :=
 match x,st with
 | .mp id,.sc (.int _ b)=>match s.get id with
   | some (.map es cl)=>match hU b es 0 with
     | some j=>match es[j]? with
       | some e=>some (s.put id (.map (es.set j (e.1,v,e.2.2)) cl))
       | none=>none
     | none=>none
   | _=>none
 | _,_=>none
def KR.get{c:Cx}{w:World}{es:List (Value×AV×Nat)}{fs:List MapEntry}(h:KR c w es fs){j:Nat}{e:Value×AV×Nat}(he:es[j]?=some e):∃f,fs[j]?=some f/\f.key=e.1/\f.born=e.2.2:=by
 induction h generalizing j with
 | nil=>simp at he
 | cons h1 _ ih =>
   cases j with
   | zero=>simp at he;subst he;exact⟨_,rfl,rfl,rfl⟩
   | succ j=>simpa using ih (by simpa using he)
def XU{P:Program}{G:Bc}{c:Cx}{w:World}{s s':AS}{t:TypeId}{x st v:AV}{vx vs vv:Value}(hs:St G c w s)(h:Mu s x st v=some s')(hx:Rp c w x vx)(Gm:Rp c w st vs)(hv:Rp c w v vv) :
   ∃w',(Instr.entryStore t vx vs vv).run P w=.ok () w'/\Ext c w c w'/\St G c w' s':=by
 unfold Mu at h;split at h
 · rename_i id k b
   split at h
   · rename_i es cl hb
     split at h
     · rename_i j hj
       split at h
       · rename_i e hej
         cases h;cases Gm;cases hx with
         | @mp _ g hid =>
           obtain⟨fs,hw,he⟩:=UR hs hid hb;obtain⟨f,hf,hfk,hfb⟩:=he.get hej;have afB:fs.toArray.modify j (λe=>{ e with val:=vv })=(fs.set j ⟨e.1,vv,e.2.2⟩).toArray:=T6 hf (by rw[<- hfk,<- hfb])
           obtain⟨x1,st⟩:=hs.put (b:=.map (es.set j (e.1,v,e.2.2)) cl) (o:=.map (fs.set j ⟨e.1,vv,e.2.2⟩).toArray cl) hid (UX w g _) (Vj w hw) (.map (he.set hv j));refine⟨_,?_,x1,st⟩
           have hfi:fs.toArray.findIdx? (λe=>(e.born:Int) == b)=some j:=by
             rw[List.findIdx?_toArray,abQ he,hj]
           simp only[Instr.entryStore,Sem.run_bind,Result.andThen_ok,J2 hw,asInt,asIntOf,Sem.run_pure,hfi,afB];exact OC _ hw
       cases h
     cases h
   cases h
 cases h
end AI
namespace AI
open Go Go.RowKit
def byteOf:AV->Option UInt8
 | .sc (.int .u8 n)=>some (UInt8.ofNat n.toNat)
 | _=>none
def bytesOf:List AV->Option (List UInt8)
 | []=>some []
 | a::l=>match byteOf a,bytesOf l with
   | some b,some m=>some (b::m)
   | _,_=>none
def RX(P:Program)(src dst:TypeId):AV->Option AV
 | .sc v=>Wk P (convert src dst v)
 | .sl _ n cs=>match P.underlying src,P.underlying dst with
   | some (.slice e),some .string=>(match P.underlying e with
     | some (.int .u8)=>if n=cs.length then (bytesOf cs).map λl=>.sc (.string ⟨l.toArray⟩) else none
     | _=>none)
   | _,_=>none
 | _=>none
def xN{c:Cx}{w:World}{a:AV}{b:UInt8}{v:Value}(h:byteOf a=some b)(hr:Rp c w a v):∃n,v=.int .u8 n/\UInt8.ofNat n.toNat=b:=by
 unfold byteOf at h;split at h;cases h;cases hr;exact⟨_,rfl,rfl⟩;cases h
def vF(s:ByteArray)(l:List UInt8):ByteArray:=l.foldl ByteArray.push s
def lD:∀(l:List UInt8) (s:ByteArray),vF s l=⟨s.data++l.toArray⟩
 | [],s=>by simp[vF]
 | b::l,s=>by
   have:=lD l (s.push b);unfold vF at this ⊢;rw[List.foldl_cons,this];simp[ByteArray.push]
def X5{P:Program}{c:Cx}{w w0:World}:∀{cs:List AV} {vs:List Value} {l:List UInt8} (s:ByteArray),CG c w cs vs->bytesOf cs=some l ->
   (forIn vs s λ(x:Value) (s:ByteArray)=>(match x with
     | .int .u8 n=>(pure (ForInStep.yield (s.push (UInt8.ofNat n.toNat))):Sem (ForInStep ByteArray))
     | _=>((λ_=>ForInStep.yield s) <$> (stuck "bytesToString: byte expected":Sem PUnit):Sem (ForInStep ByteArray)))).run P w0=.ok (vF s l) w0
 | [],_,_,s,h,hb=>by cases h;cases hb;rfl
 | a::cs,_,l,s,h,hb=>by
   cases h with
   | cons h1 t =>
     simp only[bytesOf] at hb;split at hb;rename_i b m h2 h3;cases hb;obtain⟨n,rfl,rfl⟩:=xN h2 h1;have:=X5 (P:=P) (w0:=w0) (s.push (UInt8.ofNat n.toNat)) t h3;simp only[List.forIn_cons,Sem.run_bind,Sem.run_pure,Result.andThen_ok];exact this;cases hb
def abS{P:Program}{c:Cx}{w:World}{src dst:TypeId}{a r:AV}{v:Value}(h:RX P src dst a=some r)(hr:Rp c w a v):∃u,(convert src dst v).run P w=.ok u w/\Rp c w r u:=by
 unfold RX at h;split at h;cases hr;obtain⟨z,h1,h2⟩:=UO h c w w;exact⟨z,h1,h2⟩
 · rename_i own n cs
   split at h
   · rename_i e hs hd
     split at h
     · rename_i he
       split at h
       · rename_i hn
         obtain⟨l,hb,rfl⟩:=Option.map_eq_some_iff.1 h;refine⟨.string ⟨l.toArray⟩,?_,.sc rfl⟩;unfold convert;cases hr with
         | @sl0 _ A cap h0 =>
           cases hb;cases A<;>simp[Sem.run_bind,run_underlying hs,run_underlying hd,run_underlying he,Conv.bytesToString,loadCells,loadCellsFrom]<;>rfl
         | @Ll _ _ cap g o _ hn' hc ho =>
           obtain⟨vs,hvs,IQ⟩:=hc.vals;have hlen:=hvs.len;have hld:=run_loadCells_list (P:=P) w ⟨g,o,none⟩ vs (λj v hj=>by rw[add_lit];exact(IQ j v hj).2.2);rw[hlen,<- hn] at hld;have hlp:=X5 (P:=P) (w0:=w) ByteArray.empty hvs hb;rw[lD] at hlp;simp[Sem.run_bind,run_underlying hs,run_underlying hd,run_underlying he,Conv.bytesToString,hld];refine(congrArg (λr=>r.andThen λ(a:ByteArray) w'=>Result.ok (Value.string a) w') hlp).trans ?_;simp[ByteArray.empty,ByteArray.emptyWithCapacity];rfl
       cases h
     cases h
   cases h
 cases h
end AI
namespace AI
open Go Go.RowKit
def Bd(G:Bc)(fr:List AV):Operand->Option AV
 | .tmp t=>some (fr.getD t (.sc undef))
 | .const v=>WH v
 | .global g=>(G g).map .el
 | .func f=>some (.fn (.func f) [] [])
def EA{G:Bc}{c:Cx}{w:World}{s:AS}{fr:List AV}{a:Act}{x:Operand}{v:AV}(hs:St G c w s)(hf:CG c w fr a.tmps.toList)(h:Bd G fr x=some v):Rp c w v (a.eval x):=by
 cases x with
 | tmp t =>
   simp only[Bd,Option.some.injEq] at h;subst h;simp only[Act.eval];rw[List.getD_eq_getElem?_getD];cases hg:fr[t]? with
   | some b =>
     obtain⟨u,hu,hr⟩:=hf.get hg;rw[Array.getElem?_toList] at hu;simp[hu,hr]
   | none =>
     have hl:=hf.len;have h1:=List.getElem?_eq_none_iff.1 hg;have h2:a.tmps[t]?=none:=Array.getElem?_eq_none (by rw[<- Array.length_toList];omega);simp only[Array.getD_eq_getD_getElem?,h2,Option.getD_none];exact .sc rfl
 | const v=>exact kS h c w
 | global g =>
   simp only[Bd] at h;cases hg:G g with
   | none=>rw[hg] at h;cases h
   | some cs=>rw[hg] at h;cases h;exact .el (hs.M1 g cs hg)
 | func f=>simp only[Bd,Option.some.injEq] at h;subst h;exact .fn (us:=[]) (vs:=[]) .nil .nil
def ZO(G:Bc)(fr:List AV):List Operand->Option (List AV)
 | []=>some []
 | x::xs=>match Bd G fr x,ZO G fr xs with
   | some a,some as=>some (a::as)
   | _,_=>none
abbrev ZJ(G:Bc)(c:Cx)(w:World)(fr:List AV)(ρ:Operand->Value)(x:Operand):Prop:=∀v,Bd G fr x=some v->Rp c w v (ρ x)
def Yi{G:Bc}{c:Cx}{w:World}{fr:List AV}{ρ:Operand->Value}{xs:List Operand}{vs:List AV}(I6:∀x∈xs,ZJ G c w fr ρ x)(h:ZO G fr xs=some vs):CG c w vs (xs.map ρ):=by
 induction xs generalizing vs with
 | nil=>simp[ZO] at h;subst h;exact .nil
 | cons x xs ih =>
   simp only[ZO] at h;split at h;rename_i b bs h1 h2;cases h;exact .cons (I6 x List.mem_cons_self b h1) (ih (λy hy=>I6 y (List.mem_cons_of_mem _ hy)) h2);cases h
def Mh(G:Bc)(fr:List AV):List (Nat×Operand)->Option (List (Nat×AV))
 | []=>some []
 | x::xs=>match Bd G fr x.2,Mh G fr xs with
   | some a,some as=>some ((x.1,a)::as)
   | _,_=>none
def Yh{G:Bc}{c:Cx}{w:World}{fr:List AV}{ρ:Operand->Value}{xs:List (Nat×Operand)}{vs:List (Nat×AV)}(I6:∀x∈xs,ZJ G c w fr ρ x.2)(h:Mh G fr xs=some vs):PL c w vs (xs.map λx=>(x.1,ρ x.2)):=by
 induction xs generalizing vs with
 | nil=>simp[Mh] at h;subst h;exact .nil
 | cons x xs ih =>
   simp only[Mh] at h;split at h;rename_i b bs h1 h2;cases h;exact .cons (I6 x List.mem_cons_self b h1) (ih (λy hy=>I6 y (List.mem_cons_of_mem _ hy)) h2);cases h
def gV(G:Bc)(fr:List AV):Option Operand->Option (Option AV)
 | none=>some none
 | some x=>(Bd G fr x).map some
def oU{G:Bc}{c:Cx}{w:World}{fr:List AV}{ρ:Operand->Value}{x:Option Operand}{v:Option AV}(I6:∀y∈x.toArray,ZJ G c w fr ρ y)(h:gV G fr x=some v):RO c w v (x.map ρ):=by
 cases x with
 | none=>simp[gV] at h;subst h;exact .none
 | some x =>
   simp only[gV] at h;cases hx:Bd G fr x with
   | none=>rw[hx] at h;cases h
   | some b=>rw[hx] at h;cases h;exact .some (I6 x (by simp) b hx)
inductive AR where
 | val (v:AV) (s:AS)
 | ent (f:FuncId) (args:List AV)
 | pan (v:AV)
def Mw(P:Program)(g:FuncId):Bool:=match P.funcs[g]? with
 | some fn=>fn.name != "runtime.NumGoroutine"&&fn.body.isSome
 | none=>false
def notNil:AV->Bool
 | .ptr _ _ | .el _=>true
 | .fn (.func _) _ _=>true
 | _=>false
def isIface:TypeDesc->Bool
 | .interface _=>true
 | _=>false
def Tj(P:Program)(G:Bc)(fr:List AV)(s:AS)(o:Oper)(cl:Call):Option AR :=
 match cl.callee with
 | .builtin .len=>match cl.args.toList,cl.argTypes.toList with
   | [x],[t]=>((Bd G fr x).bind (WS P s t)).map λv=>.val v s
   | _,_=>none
 | .builtin .append=>match cl.args.toList,cl.argTypes.toList with
   | [x,y],[t,tx]=>match Bd G fr x,Bd G fr y with
     | some a,some b=>(KL P s t tx a b).map λr=>.val r.1 r.2
     | _,_=>none
   | _,_=>none
 | .builtin .max=>((ZO G fr cl.args.toList).bind Pf).bind λvs=>(Wk P (Builtin.max_ cl.argTypes o.type vs.toArray)).map λv=>.val v s
 | .builtin .min=>((ZO G fr cl.args.toList).bind Pf).bind λvs=>(Wk P (Builtin.min_ cl.argTypes o.type vs.toArray)).map λv=>.val v s
 | .value f=>match Bd G fr f,ZO G fr cl.args.toList with
   | some (.fn (.func g) first caps),some as=>if Mw P g=true then some (.ent g (first++as++caps)) else none
   | _,_=>none
 | _=>none
def Qz(P:Program)(G:Bc)(fr:List AV)(s:AS)(o:Oper):Option AR :=
 match o.op with
 | .move x=>(Bd G fr x).map λv=>.val v s
 | .assign x=>(Bd G fr x).map λv=>.val v s
 | .pick c a b=>match Bd G fr c with
   | some (.sc (.bool t))=>(if t then Bd G fr a else Bd G fr b).map λv=>.val v s
   | _=>none
 | .alloc e=>(Mv P e).map λz=>.val (.ptr s.nx 0) (s.new (.cells (cellsOf z)))
 | .box _ x=>(Bd G fr x).bind λz=>match Se z with
   | true=>none
   | false=>some (.val (.ptr s.nx 0) (s.new (.cells (cellsOf z))))
 | .build t ps=>((Mh G fr ps.toList).bind (XR P t)).map λv=>.val v s
 | .buildSlice t n ps=>((Mh G fr ps.toList).bind (Mt P t n)).map λv=>.val v s
 | .load t a=>((Bd G fr a).bind (JP P s t)).map λv=>.val v s
 | .store t a x=>match Bd G fr a,Bd G fr x with
   | some a,some x=>(KT P s t a x).map λs'=>.val (.sc undef) s'
   | _,_=>none
 | .nilCheck x=>match Bd G fr x with
   | some v=>if notNil v=true then some (.val v s) else none
   | none=>none
 | .binOp op t x y _=>match Bd G fr x,Bd G fr y with
   | some a,some b=>(MZ P op t x y a b).map λv=>.val v s
   | _,_=>none
 | .unOp op _ x=>((Bd G fr x).bind Zm).bind λv=>(Wk P (Op.unary op v)).map λv=>.val v s
 | .convert src dst x=>((Bd G fr x).bind λa=>RX P src dst a).map λv=>.val v s
 | .makeInterface t x=>match Bd G fr x,P.underlying t with
   | some v,some d=>if isIface d=true then none else some (.val (.ifc t v) s)
   | _,_=>none
 | .makeFunc f first caps=>match ZO G fr first.toList,ZO G fr caps.toList with
   | some a,some b=>some (.val (.fn f a b) s)
   | _,_=>none
 | .makeMap _ none=>some (.val (.mp s.nx) (s.new (.map [] 0)))
 | .makeSlice t l c=>match Bd G fr l,Bd G fr c with
   | some a,some b=>(JQ P s t a b).map λr=>.val r.1 r.2
   | _,_=>none
 | .slice t x lo hi mx=>match Bd G fr x,gV G fr lo,gV G fr hi,gV G fr mx with
   | some a,some l,some h,some m=>(LZ P t a l h m).map λv=>.val v s
   | _,_,_,_=>none
 | .fieldAddr t x k=>((Bd G fr x).bind λa=>RZ P t a k).map λv=>.val v s
 | .field t x k=>((Bd G fr x).bind λa=>XV P t a k).map λv=>.val v s
 | .indexAddr t x i=>match Bd G fr x,Bd G fr i with
   | some a,some b=>(CH P t a b).map λv=>.val v s
   | _,_=>none
 | .index t x i=>match Bd G fr x,Bd G fr i with
   | some a,some b=>(Lm P t a b).map λv=>.val v s
   | _,_=>none
 | .lookup t x k ok=>match Bd G fr x,Bd G fr k with
   | some a,some b=>(Jr P s t a b ok).map λv=>.val v s
   | _,_=>none
 | .mapUpdate t m k x=>match Bd G fr m,Bd G fr k,Bd G fr x with
   | some a,some b,some v=>(KM P s t a b v).map λs'=>.val (.sc undef) s'
   | _,_,_=>none
 | .insert t m k x=>match Bd G fr m,Bd G fr k,Bd G fr x with
   | some a,some b,some v=>(KM P s t a b v).map λs'=>.val (.sc undef) s'
   | _,_,_=>none
 | .mapEntry t m k=>match Bd G fr m,Bd G fr k with
   | some a,some b=>(PV P s t a b).map λr=>.val r.1 r.2
   | _,_=>none
 | .entryStore _ m st x=>match Bd G fr m,Bd G fr st,Bd G fr x with
   | some a,some b,some v=>(Mu s a b v).map λs'=>.val (.sc undef) s'
   | _,_,_=>none
 | .extract x k=>((Bd G fr x).bind λa=>RY a k).map λv=>.val v s
 | .call cl=>Tj P G fr s o cl
 | .panic x=>match Bd G fr x with
   | some (.ifc t v)=>some (.pan (.ifc t v))
   | _=>none
 | _=>none
def XN(_P:Program)(G:Bc)(c:Cx)(w:World)(r:Result Next):AR->Prop
 | .val v s'=>∃u w' c',(r=.ok (.value u) w'\/(r=.ok .skip w'/\u=undef))/\Ext c w c' w'/\St G c' w' s'/\Rp c' w' v u
 | .ent f args=>∃vs,r=.ok (.enter f vs.toArray) w/\CG c w args vs
 | .pan v=>∃u,r=.halt (.panic u) w/\Rp c w v u
def EB{P:Program}{G:Bc}{c:Cx}{w:World}{s:AS}{v:AV}{m:Sem Value}(hs:St G c w s)(h:∃u,m.run P w=.ok u w/\Rp c w v u):XN P G c w ((do pure (Next.value (<- m)):Sem Next).run P w) (.val v s):=by
 obtain⟨u,h1,h2⟩:=h;exact⟨u,w,c,.inl (by simp[h1]),Ext.refl c w,hs,h2⟩
def N6{P:Program}{G:Bc}{c:Cx}{w:World}{s':AS}{v:AV}{m:Sem Value}(h:∃u w' c',m.run P w=.ok u w'/\Ext c w c' w'/\St G c' w' s'/\Rp c' w' v u):XN P G c w ((do pure (Next.value (<- m)):Sem Next).run P w) (.val v s'):=by
 obtain⟨u,w',c',h1,h2⟩:=h;exact⟨u,w',c',.inl (by simp[h1]),h2⟩
def SI{P:Program}{G:Bc}{c:Cx}{w:World}{s':AS}{m:Sem Unit}(h:∃w',m.run P w=.ok () w'/\Ext c w c w'/\St G c w' s'):XN P G c w ((do m;pure Next.skip:Sem Next).run P w) (.val (.sc undef) s'):=by
 obtain⟨w',h1,h2,h3⟩:=h;exact⟨undef,w',c,.inr ⟨by simp[h1],rfl⟩,h2,h3,.sc rfl⟩
def map_some{α β:Type}{o:Option α}{f:α->β}{b:β}(h:o.map f=some b):∃a,o=some a/\f a=b:=by
 cases o with
 | none=>cases h
 | some a=>exact⟨a,rfl,by simpa using h⟩
def bind_some{α β:Type}{o:Option α}{f:α->Option β}{b:β}(h:o.bind f=some b):∃a,o=some a/\f a=some b:=by
 cases o with
 | none=>cases h
 | some a=>exact⟨a,rfl,by simpa using h⟩
end AI
namespace AI
open Go Go.RowKit
def R7{P:Program}{g:FuncId}(h:Mw P g=true)(args:Array Value)(w:World):(callFunc g args).run P w=.ok (.enter g args) w:=by
 unfold Mw at h;split at h;rename_i fn hf;simp only[Bool.and_eq_true,bne_iff_ne,ne_eq] at h;obtain⟨b,hb⟩:=Option.isSome_iff_exists.1 h.2;simp[callFunc,hf,h.1,hb];cases h
def abR{P:Program}{G:Bc}{c:Cx}{w:World}{s:AS}{fr:List AV}{ρ:Operand->Value}{o:Oper}{cl:Call}{r:AR}(hs:St G c w s)(I6:∀x∈cl.operands,ZJ G c w fr ρ x)(h:Tj P G fr s o cl=some r) :
   XN P G c w ((do let d <- resolve ρ cl o.type;invoke d.target d.args:Sem Next).run P w) r:=by
 have GN:∀x∈cl.args.toList,ZJ G c w fr ρ x:=λx hx=>I6 x (by simp only[Call.operands,Array.mem_append];exact .inr (Array.mem_toList_iff.1 hx));unfold Tj at h;split at h;rename_i IN;split at h;rename_i x t hx ht;obtain⟨v,h1,rfl⟩:=map_some h;obtain⟨b,h2,h3⟩:=bind_some h1;have e1:cl.args=#[x]:=by apply Array.ext';rw[hx]
 have e2:cl.argTypes=#[t]:=by apply Array.ext';rw[ht]
 have:=EB hs (amR (ty:=o.type) hs h3 (GN x (by rw[hx];simp) _ h2));simpa[resolve,IN,e1,e2,invoke,builtin] using this
 cases h;rename_i IN;split at h;rename_i x y t tx hx ht;split at h;rename_i b d h2 h3;obtain⟨v,h1,rfl⟩:=map_some h;have e1:cl.args=#[x,y]:=by apply Array.ext';rw[hx]
 have e2:cl.argTypes=#[t,tx]:=by apply Array.ext';rw[ht]
 have:=N6 (nZ (ty:=o.type) hs h1 (GN x (by rw[hx];simp) _ h2) (GN y (by rw[hx];simp) _ h3));simpa[resolve,IN,e1,e2,invoke,builtin] using this
 cases h;cases h;rename_i IN;obtain⟨vs,h1,h2⟩:=bind_some h;obtain⟨v,h3,rfl⟩:=map_some h2;obtain⟨as,h4,h5⟩:=bind_some h1;have e:=Zn h5 (Yi GN h4);have e1:cl.args.map ρ=vs.toArray:=by apply Array.ext';rw[<- e];simp
 have:=EB hs (UO h3 c w w);simpa[resolve,IN,e1,invoke,builtin] using this
 rename_i IN;obtain⟨vs,h1,h2⟩:=bind_some h;obtain⟨v,h3,rfl⟩:=map_some h2;obtain⟨as,h4,h5⟩:=bind_some h1;have e:=Zn h5 (Yi GN h4);have e1:cl.args.map ρ=vs.toArray:=by apply Array.ext';rw[<- e];simp
 have:=EB hs (UO h3 c w w);simpa[resolve,IN,e1,invoke,builtin] using this
 · rename_i f IN
   split at h
   · rename_i g first caps as h1 h2
     split at h
     · rename_i hc
       cases h;have hr:=I6 f (by simp[Call.operands,IN]) _ h1;have GN:=Yi GN h2;generalize hv:ρ f=v at hr;cases hr with
       | @fn _ _ _ us vs q1 q2 =>
         refine⟨us++cl.args.toList.map ρ++vs,?_,(q1.append GN).append q2⟩
         have e3:(us++cl.args.toList.map ρ++vs).toArray=us.toArray++Array.map ρ cl.args++vs.toArray:=by
           apply Array.ext';simp
         rw[e3];simp only[resolve,IN,hv,Sem.run_bind,Deferred.ofValue,Sem.run_pure,Result.andThen_ok,invoke,R7 hc]
     cases h
   cases h
 cases h
def dA{P:Program}{G:Bc}{c:Cx}{w:World}{s:AS}{fr:List AV}{ρ:Operand->Value}{o:Oper}{r:AR}(hs:St G c w s)(I6:∀x∈o.op.operands,ZJ G c w fr ρ x)(hρ:∀k,ρ (.const k)=k)(h:Qz P G fr s o=some r) :
   XN P G c w ((execOp ρ o).run P w) r:=by
 unfold Qz at h;split at h;rename_i x ho;obtain⟨v,h1,rfl⟩:=map_some h;simp only[execOp,ho];exact⟨_,w,c,.inl rfl,Ext.refl c w,hs,I6 x (by rw[ho];simp[Op.operands]) v h1⟩;rename_i x ho;obtain⟨v,h1,rfl⟩:=map_some h;simp only[execOp,ho];exact⟨_,w,c,.inl rfl,Ext.refl c w,hs,I6 x (by rw[ho];simp[Op.operands]) v h1⟩;rename_i x y z ho;split at h;rename_i t hc;obtain⟨v,h1,rfl⟩:=map_some h;have hb:=I6 x (by rw[ho];simp[Op.operands]) _ hc;generalize hv:ρ x=vx at hb;cases hb;simp only[execOp,ho,hv];refine⟨if t then ρ y else ρ z,w,c,.inl (by simp[asBool]),Ext.refl c w,hs,?_⟩
 cases t;exact I6 z (by rw[ho];simp[Op.operands]) v h1;exact I6 y (by rw[ho];simp[Op.operands]) v h1;cases h;rename_i e ho;obtain⟨z,h1,rfl⟩:=map_some h;obtain⟨zv,uA,hzp⟩:=UQ h1 c w w;obtain⟨v',w',c',h2,h3⟩:=sP (P:=P) (t:=e) hs hzp (aI h1);simp only[execOp,ho];refine N6 ⟨v',w',c',?_,h3⟩;simp only[Instr.box,Sem.run_bind] at h2;simp only[Instr.alloc,Sem.run_bind,uA,Result.andThen_ok];exact h2;rename_i e x ho;obtain⟨z,h1,h⟩:=bind_some h;split at h;cases h;rename_i hz;cases h;simp only[execOp,ho];exact N6 (sP (P:=P) (t:=e) hs (I6 x (by rw[ho];simp[Op.operands]) z h1) hz);rename_i t ps ho;obtain⟨v,h1,rfl⟩:=map_some h;obtain⟨qs,h2,h3⟩:=bind_some h1;simp only[execOp,ho];refine EB hs (wV (qs:=ps.map λx=>(x.1,ρ x.2)) h3 (by simpa using Yh (ρ:=ρ) (λx hx=>I6 x.2 (by rw[ho];simp only[Op.operands,List.mem_toArray,List.mem_map];exact⟨x,hx,rfl⟩)) h2) w)
 rename_i t n ps ho;obtain⟨v,h1,rfl⟩:=map_some h;obtain⟨qs,h2,h3⟩:=bind_some h1;simp only[execOp,ho];obtain⟨u,w',q1,q2⟩:=XT (qs:=ps.map λx=>(x.1,ρ x.2)) hs h3 (by simpa using Yh (ρ:=ρ) (λx hx=>I6 x.2 (by rw[ho];simp only[Op.operands,List.mem_toArray,List.mem_map];exact⟨x,hx,rfl⟩)) h2)
 exact N6 ⟨u,w',c,q1,q2⟩;rename_i t x ho;obtain⟨v,h1,rfl⟩:=map_some h;obtain⟨b,h2,h3⟩:=bind_some h1;simp only[execOp,ho];exact EB hs (iC hs h3 (I6 x (by rw[ho];simp[Op.operands]) b h2));rename_i t x y ho;split at h;rename_i b d h2 h3;obtain⟨s',h1,rfl⟩:=map_some h;simp only[execOp,ho];exact SI (xD hs h1 (I6 x (by rw[ho];simp[Op.operands]) b h2) (I6 y (by rw[ho];simp[Op.operands]) d h3));cases h
 · rename_i x ho
   split at h
   · rename_i v h1
     split at h
     · rename_i hn
       cases h;have hr:=I6 x (by rw[ho];simp[Op.operands]) v h1;simp only[execOp,ho];generalize ρ x=vx at hr;cases hr with
       | ptr q=>exact⟨_,w,c,.inl rfl,Ext.refl c w,hs,.ptr q⟩
       | el q=>exact⟨_,w,c,.inl rfl,Ext.refl c w,hs,.el q⟩
       | @fn f _ _ us vs q1 q2 =>
         cases f with
         | func g=>exact⟨_,w,c,.inl rfl,Ext.refl c w,hs,.fn q1 q2⟩
         | _=>simp[notNil] at hn
       | _=>simp[notNil] at hn
     cases h
   cases h
 rename_i op t x y yt ho;split at h;rename_i b d h2 h3;obtain⟨v,h1,rfl⟩:=map_some h;simp only[execOp,ho];exact EB hs (amP h1 (I6 x (by rw[ho];simp[Op.operands]) b h2) (I6 y (by rw[ho];simp[Op.operands]) d h3) (λk hk=>by rw[hk];exact hρ k) w);cases h;rename_i op t x ho;obtain⟨v,h1,h2⟩:=bind_some h;obtain⟨b,h3,h4⟩:=bind_some h1;obtain⟨q,h5,rfl⟩:=map_some h2;have e:=Vl h4 (I6 x (by rw[ho];simp[Op.operands]) b h3);simp only[execOp,ho,e];exact EB hs (UO h5 c w w);rename_i src dst x ho;obtain⟨q,h1,rfl⟩:=map_some h;obtain⟨b,h3,h4⟩:=bind_some h1;simp only[execOp,ho];exact EB hs (abS h4 (I6 x (by rw[ho];simp[Op.operands]) b h3))
 · rename_i t x ho
   split at h
   · rename_i v d h1 hd
     split at h;cases h
     · rename_i hi
       cases h;simp only[execOp,ho];refine EB hs ⟨.iface t (ρ x),?_,.ifc (I6 x (by rw[ho];simp[Op.operands]) v h1)⟩;unfold Instr.makeInterface;rw[Sem.run_bind,run_underlying hd];cases d<;>first | rfl | (simp[isIface] at hi;done)
   cases h
 rename_i f first caps ho
 split at h;rename_i b d h2 h3;cases h;simp only[execOp,ho];refine EB hs ⟨.func f (first.map ρ) (caps.map ρ),rfl,?_⟩
 have:=Rp.fn (f:=f) (Yi (ρ:=ρ) (λx hx=>I6 x (by rw[ho];simp only[Op.operands,Array.mem_append];exact .inl (Array.mem_toList_iff.1 hx))) h2) (Yi (ρ:=ρ) (λx hx=>I6 x (by rw[ho];simp only[Op.operands,Array.mem_append];exact .inr (Array.mem_toList_iff.1 hx))) h3);rwa[show(first.toList.map ρ).toArray=first.map ρ from by apply Array.ext';simp,show(caps.toList.map ρ).toArray=caps.map ρ from by apply Array.ext';simp] at this
 cases h;rename_i t ho;cases h;simp only[execOp,ho];exact N6 (iD (P:=P) (t:=t) hs);rename_i t x y ho;split at h;rename_i b d h2 h3;obtain⟨v,h1,rfl⟩:=map_some h;simp only[execOp,ho];exact N6 (ZL hs h1 (I6 x (by rw[ho];simp[Op.operands]) b h2) (I6 y (by rw[ho];simp[Op.operands]) d h3));cases h;rename_i t x lo hi mx ho;split at h;rename_i b l hh m h2 h3 h4 h5;obtain⟨v,h1,rfl⟩:=map_some h;simp only[execOp,ho];exact EB hs (xC h1 (I6 x (by rw[ho];simp[Op.operands]) b h2) (oU (λy hy=>I6 y (by rw[ho];simp only[Op.operands,Array.mem_append];exact .inl (.inl (.inr hy)))) h3) (oU (λy hy=>I6 y (by rw[ho];simp only[Op.operands,Array.mem_append];exact .inl (.inr hy))) h4) (oU (λy hy=>I6 y (by rw[ho];simp only[Op.operands,Array.mem_append];exact .inr hy)) h5));cases h;rename_i t x k ho;obtain⟨v,h1,rfl⟩:=map_some h;obtain⟨b,h2,h3⟩:=bind_some h1;simp only[execOp,ho];exact EB hs (iA h3 (I6 x (by rw[ho];simp[Op.operands]) b h2));rename_i t x k ho;obtain⟨v,h1,rfl⟩:=map_some h;obtain⟨b,h2,h3⟩:=bind_some h1;simp only[execOp,ho];exact EB hs (wX h3 (I6 x (by rw[ho];simp[Op.operands]) b h2) w);rename_i t x y ho;split at h;rename_i b d h2 h3;obtain⟨v,h1,rfl⟩:=map_some h;simp only[execOp,ho];exact EB hs (iB h1 (I6 x (by rw[ho];simp[Op.operands]) b h2) (I6 y (by rw[ho];simp[Op.operands]) d h3));cases h;rename_i t x y ho;split at h;rename_i b d h2 h3;obtain⟨v,h1,rfl⟩:=map_some h;simp only[execOp,ho];exact EB hs (wY h1 (I6 x (by rw[ho];simp[Op.operands]) b h2) (I6 y (by rw[ho];simp[Op.operands]) d h3) w);cases h;rename_i t x k ok ho;split at h;rename_i b d h2 h3;obtain⟨v,h1,rfl⟩:=map_some h;simp only[execOp,ho];exact EB hs (oD hs h1 (I6 x (by rw[ho];simp[Op.operands]) b h2) (I6 k (by rw[ho];simp[Op.operands]) d h3));cases h;rename_i t m k x ho;split at h;rename_i b d e h2 h3 h4;obtain⟨s',h1,rfl⟩:=map_some h;simp only[execOp,ho];exact SI (XY hs h1 (I6 m (by rw[ho];simp[Op.operands]) b h2) (I6 k (by rw[ho];simp[Op.operands]) d h3) (I6 x (by rw[ho];simp[Op.operands]) e h4));cases h;rename_i t m k x ho;split at h;rename_i b d e h2 h3 h4;obtain⟨s',h1,rfl⟩:=map_some h;simp only[execOp,ho];exact SI (XY hs h1 (I6 m (by rw[ho];simp[Op.operands]) b h2) (I6 k (by rw[ho];simp[Op.operands]) d h3) (I6 x (by rw[ho];simp[Op.operands]) e h4));cases h;rename_i t m k ho;split at h;rename_i b d h2 h3;obtain⟨v,h1,rfl⟩:=map_some h;simp only[execOp,ho];obtain⟨u,w',q1,q2⟩:=cX hs h1 (I6 m (by rw[ho];simp[Op.operands]) b h2) (I6 k (by rw[ho];simp[Op.operands]) d h3);exact N6 ⟨u,w',c,q1,q2⟩;cases h;rename_i t m st x ho;split at h;rename_i b d e h2 h3 h4;obtain⟨s',h1,rfl⟩:=map_some h;simp only[execOp,ho];exact SI (XU hs h1 (I6 m (by rw[ho];simp[Op.operands]) b h2) (I6 st (by rw[ho];simp[Op.operands]) d h3) (I6 x (by rw[ho];simp[Op.operands]) e h4));cases h;rename_i x k ho;obtain⟨v,h1,rfl⟩:=map_some h;obtain⟨b,h2,h3⟩:=bind_some h1;simp only[execOp,ho];exact EB hs (hZ h3 (I6 x (by rw[ho];simp[Op.operands]) b h2) w);rename_i cl ho;simp only[execOp,ho];exact abR hs (λx hx=>I6 x (by rw[ho];exact hx)) h;rename_i x ho;split at h;rename_i t v h1;cases h;have hr:=I6 x (by rw[ho];simp[Op.operands]) _ h1;simp only[execOp,ho];generalize ρ x=vx at hr;cases hr with
 | ifc q=>exact⟨_,by simp[Instr.panic],.ifc q⟩
 cases h;cases h
def oC{P:Program}{G:Bc}{c:Cx}{w:World}{s:AS}{ρ:Operand->Value}{o:Oper}{e:TypeId}{z:AV}{id:Nat}(hs:St G c w s)(ho:o.op=.alloc e)(hz:Mv P e=some z)(hid:c.CX[id]?=some none)(Px:s.get id=some (.cells (cellsOf z))) :
   ∃u w' c',(execOp ρ o).run P w=.ok (.value u) w'/\Mon c w c' w'/\St G c' w' s/\Rp c' w' (.ptr id 0) u/\(∀c0 w0,Ext c0 w0 c w->c0.CX.length<=id->Ext c0 w0 c' w')/\∀i,i≠id->c'.CX[i]?=c.CX[i]?:=by
 obtain⟨zv,uA,hzp⟩:=UQ hz c w w;obtain⟨v',w',c',h2,h3⟩:=wU (P:=P) (t:=e) hs hzp (aI hz) hid Px;refine⟨v',w',c',?_,h3⟩;simp only[execOp,ho];simp only[Instr.box,Sem.run_bind] at h2;simp only[Instr.alloc,Sem.run_bind,uA,Result.andThen_ok];rw[h2];simp
end AI
namespace AI
open Go Go.RowKit
def T5(acc:List Nat):List Edge->Nat
 | []=>0
 | e::es=>if Region.binds .any e then T5 acc es ||| 2 ^ e.on ||| acc.getD e.on 0 else T5 acc es
def Ix:List Oper->List Nat->List Nat
 | [],acc=>acc
 | o::os,acc=>Ix os (acc++[T5 acc o.after.toList])
def Met(L:Nat->Bool)(o:Oper):Prop:=∀e∈o.after,Region.binds .any e=true->L e.on=true
def NW(ops:List Oper)(L:Nat->Bool):Prop:=∀i o,ops[i]?=some o->L i=true->Met L o
def yZ{ops:List Oper}{L:Nat->Bool}(hc:NW ops L){acc:List Nat}(jQ:∀(j:Nat) m,acc[j]?=some m->∀o,ops[j]?=some o->∀i,m.testBit i=true->Met L o->L i=true)(hlen:acc.length<=ops.length)
   (es:List Edge) {i:Nat} (hb:(T5 acc es).testBit i=true) (hm:∀e∈es,Region.binds .any e=true->L e.on=true):L i=true:=by
 induction es with
 | nil=>simp[T5] at hb
 | cons e es ih =>
   simp only[T5] at hb;split at hb
   · rename_i hbe
     rw[Nat.testBit_or,Nat.testBit_or,Bool.or_eq_true,Bool.or_eq_true] at hb;have he:=hm e List.mem_cons_self hbe;rcases hb with (hb | hb) | hb
     exact ih hb (λe he=>hm e (List.mem_cons_of_mem _ he));rw[Nat.testBit_two_pow] at hb;have:e.on=i:=by simpa using hb
     rw[<- this];exact he
     · rw[List.getD_eq_getElem?_getD] at hb
       cases hg:acc[e.on]? with
       | none=>rw[hg] at hb;simp at hb
       | some m =>
         rw[hg] at hb;have hl:=(List.getElem?_eq_some_iff.1 hg).1;have hl2:e.on < ops.length:=by omega
         exact jQ e.on m hg ops[e.on] (List.getElem?_eq_getElem hl2) i hb (hc e.on _ (List.getElem?_eq_getElem hl2) he)
   exact ih hb (λe he=>hm e (List.mem_cons_of_mem _ he))
def agM{ops:List Oper}{L:Nat->Bool}(hc:NW ops L):∀(os:List Oper) (acc:List Nat),(∀k,os[k]?=ops[acc.length+k]?)->acc.length<=ops.length->(∀(j:Nat) m,acc[j]?=some m->∀o,ops[j]?=some o->∀i,m.testBit i=true->Met L o->L i=true) ->
   ∀(j:Nat) m,(Ix os acc)[j]?=some m->∀o,ops[j]?=some o->∀i,m.testBit i=true->Met L o->L i=true:=by
 intro os
 induction os with
 | nil=>intro acc _ _ jQ;exact jQ
 | cons o os ih =>
   intro acc hk hl jQ;have h0:ops[acc.length]?=some o:=by have:=hk 0;simpa using this.symm
   have hlt:=(List.getElem?_eq_some_iff.1 h0).1;refine ih (acc++[T5 acc o.after.toList]) (λk=>?_) (by simp;omega) (λj m hj o' Wu i hb hm=>?_);have:=hk (k+1);simp only[List.getElem?_cons_succ] at this;rw[this];congr 1;simp;omega;by_cases hjl:j < acc.length;rw[List.getElem?_append_left hjl] at hj;exact jQ j m hj o' Wu i hb hm;have hl2:=(List.getElem?_eq_some_iff.1 hj).1;simp at hl2;have:j=acc.length:=by omega
   subst this;rw[List.getElem?_concat_length] at hj;cases hj;rw[h0] at Wu;cases Wu;exact yZ hc jQ hl _ hb (λe he=>hm e (Array.mem_toList_iff.1 he))
def SH(ms:List Nat)(j i:Nat):Bool:=(ms.getD j 0).testBit i
def Yb{ops:List Oper}{L:Nat->Bool}(hc:NW ops L){j i:Nat}{o:Oper}(ho:ops[j]?=some o)(hm:Met L o)(hd:SH (Ix ops []) j i=true):L i=true:=by
 unfold SH at hd;rw[List.getD_eq_getElem?_getD] at hd;cases hg:(Ix ops [])[j]? with
 | none=>rw[hg] at hd;simp at hd
 | some m =>
   rw[hg] at hd;exact agM hc ops [] (λk=>by simp) (by simp) (λj m h=>by simp at h) j m hg o ho i hd hm
def quiet:Op->Bool
 | .move _ | .assign _ | .pick .. | .build .. | .buildSlice .. | .load .. | .nilCheck _ | .binOp .. | .unOp .. | .convert .. | .makeInterface .. | .makeFunc .. | .slice .. | .fieldAddr .. | .field .. | .indexAddr .. | .index .. | .lookup .. | .extract ..=>true
 | .call cl=>(match cl.callee with
   | .builtin .len | .builtin .max | .builtin .min=>true
   | _=>false)
 | _=>false
def BZ:Op->Bool
 | .alloc _=>true
 | _=>false
def KV{op:Op}(h:BZ op=true):∃e,op=.alloc e:=by
 unfold BZ at h;split at h;exact⟨_,rfl⟩;cases h
def calm(op:Op):Bool:=match BZ op with
 | true=>true
 | false=>quiet op
def X8{op:Op}(h:quiet op=true):calm op=true:=by
 unfold calm;cases BZ op;exact h;rfl
def X7{op:Op}(h:calm op=true):quiet op=true\/∃e,op=.alloc e:=by
 unfold calm at h;cases ha:BZ op with
 | true=>exact .inr (KV ha)
 | false=>rw[ha] at h;exact .inl h
def nW:List Oper->Nat->Nat
 | _,0=>0
 | [],_+1=>0
 | o::l,n+1=>(match BZ o.op with | true=>1 | false=>0)+nW l n
def rk(ops:Array Oper)(i:Nat):Nat:=nW ops.toList i
def rE{l:List Oper}{i j:Nat}{o:Oper}(ho:l[i]?=some o)(ha:BZ o.op=true)(h:i < j):nW l i < nW l j:=by
 induction l generalizing i j with
 | nil=>simp at ho
 | cons x l ih =>
   cases j with
   | zero=>omega
   | succ j =>
     cases i with
     | zero =>
       simp at ho;subst ho;simp only[nW,ha];omega
     | succ i =>
       have:=ih (i:=i) (j:=j) (by simpa using ho) (by omega)
       simp only[nW];omega
def aBU{ops:Array Oper}{i j:Nat}{x y:Oper}(hx:ops[i]?=some x)(hy:ops[j]?=some y)(hxa:BZ x.op=true)(eQ:BZ y.op=true)(h:rk ops i=rk ops j):i=j:=by
 have TZ:ops.toList[i]?=some x:=by rw[Array.getElem?_toList];exact hx
 have hy':ops.toList[j]?=some y:=by rw[Array.getElem?_toList];exact hy
 unfold rk at h;rcases Nat.lt_trichotomy i j with hlt | he | hlt
 have:=rE TZ hxa hlt;omega;exact he;have:=rE hy' eQ hlt;omega
def PZ(ops:Array Oper)(x y:Oper):Bool :=
 (!calm x.op&&!calm y.op) ||
 (match x.dst with
  | some d=>(y.looksAt ops).contains d||y.dst == some d
  | none=>false) ||
 (match y.dst with
  | some d=>(x.looksAt ops).contains d
  | none=>false)
def YY(ops:Array Oper)(ms:List Nat)(j:Nat)(y:Oper):List Oper->Nat->Bool
 | [],_=>true
 | x::xs,i=>(if i < j then !PZ ops x y||SH ms j i else true)&&YY ops ms j y xs (i+1)
def Xu(ops:Array Oper)(ms:List Nat):List Oper->Nat->Bool
 | [],_=>true
 | y::ys,j=>YY ops ms j y ops.toList 0&&(y.after.toList.all λe=>!Region.binds .any e||decide (e.on < j))&&Xu ops ms ys (j+1)
def MB(ops:Array Oper):Bool:=Xu ops (Ix ops.toList []) ops.toList 0
def zJ{ops:Array Oper}{ms:List Nat}{j:Nat}{y:Oper}:∀(xs:List Oper) (i:Nat),YY ops ms j y xs i=true->∀k x,xs[k]?=some x->i+k < j->PZ ops x y=true->SH ms j (i+k)=true:=by
 intro xs
 induction xs with
 | nil=>intro i _ k x hx;simp at hx
 | cons z xs ih =>
   intro i h k x hx hlt IN;simp only[YY,Bool.and_eq_true] at h;cases k with
   | zero =>
     simp at hx;subst hx;rw[Nat.add_zero] at hlt ⊢;have:=h.1;rw[if_pos hlt,IN] at this;simpa using this
   | succ k =>
     have:=ih (i+1) h.2 k x (by simpa using hx) (by omega) IN
     rwa[show i+1+k=i+(k+1) from by omega] at this
def YZ{ops:Array Oper}{ms:List Nat}:∀(ys:List Oper) (j:Nat),Xu ops ms ys j=true->∀k y,ys[k]?=some y->YY ops ms (j+k) y ops.toList 0=true/\∀e∈y.after,Region.binds .any e=true->e.on < j+k:=by
 intro ys
 induction ys with
 | nil=>intro j _ k y hy;simp at hy
 | cons z ys ih =>
   intro j h k y hy;simp only[Xu,Bool.and_eq_true] at h;cases k with
   | zero =>
     simp at hy;subst hy;refine⟨h.1.1,λe he hb=>?_⟩;have:=List.all_eq_true.1 h.1.2 e (Array.mem_toList_iff.2 he);rw[hb] at this;simpa using this
   | succ k =>
     have:=ih (j+1) h.2 k y (by simpa using hy)
     rwa[show j+1+k=j+(k+1) from by omega] at this
def bJ{ops:Array Oper}(h:MB ops=true){i j:Nat}{x y:Oper}(hx:ops[i]?=some x)(hy:ops[j]?=some y)(hlt:i < j)(hc:PZ ops x y=true):SH (Ix ops.toList []) j i=true:=by
 have h1:=(YZ ops.toList 0 h j y (by rw[Array.getElem?_toList];exact hy)).1;rw[Nat.zero_add] at h1;have:=zJ ops.toList 0 h1 i x (by rw[Array.getElem?_toList];exact hx) (by omega) hc;rwa[Nat.zero_add] at this
def kW{ops:Array Oper}(h:MB ops=true){j:Nat}{y:Oper}(hy:ops[j]?=some y){e:Edge}(he:e∈y.after)(hb:Region.binds .any e=true):e.on < j:=by
 have:=(YZ ops.toList 0 h j y (by rw[Array.getElem?_toList];exact hy)).2 e he hb;omega
def IY(fr:List AV)(dst:Option Tmp)(v:AV):List AV:=match dst with
 | some d=>fr.set d v
 | none=>fr
def OY{c:Cx}{w:World}{fr:List AV}{a:Act}{dst:Option Tmp}{v:AV}{u:Value}(h:CG c w fr a.tmps.toList)(hv:Rp c w v u):CG c w (IY fr dst v) (a.put dst u).tmps.toList:=by
 cases dst with
 | none=>exact h
 | some d=>simp only[IY,Act.put,Array.toList_setIfInBounds];exact h.set hv d
def IP(f0:List AV)(dst:Nat->Option Tmp)(vals:Nat->AV)(L:Nat->Bool):Nat->List AV
 | 0=>f0
 | n+1=>if L n then IY (IP f0 dst vals L n) (dst n) (vals n) else IP f0 dst vals L n
def R1{fr:List AV}{dst:Option Tmp}{v:AV}{t:Nat}(h:dst≠some t):(IY fr dst v)[t]?=fr[t]?:=by
 cases dst with
 | none=>rfl
 | some d=>exact List.getElem?_set_ne (λe=>h (by rw[e]))
def abU{fr:List AV}{dst:Option Tmp}{v:AV}:(IY fr dst v).length=fr.length:=by cases dst<;>simp[IY]
def OX{fr:List AV}{v:AV}{t:Nat}:(IY fr (some t) v)[t]?=if t < fr.length then some v else none:=by simp[IY,List.getElem?_set]
def Xi(f0:List AV)(dst:Nat->Option Tmp)(vals:Nat->AV)(L:Nat->Bool)(n:Nat):(IP f0 dst vals L n).length=f0.length:=by
 induction n with
 | zero=>rfl
 | succ n ih=>simp only[IP];split<;>simp[abU,ih]
def Yk{f0:List AV}{dst:Nat->Option Tmp}{vals:Nat->AV}{L M:Nat->Bool}{t:Nat}:∀(n:Nat),(∀i,i < n->dst i=some t->L i=M i)->(IP f0 dst vals L n)[t]?=(IP f0 dst vals M n)[t]?:=by
 intro n
 induction n with
 | zero=>intro _;rfl
 | succ n ih =>
   intro h;have ih:=ih (λi hi hd=>h i (by omega) hd);by_cases hd:dst n=some t;have:=h n (by omega) hd;simp only[IP,this];split;rw[hd,OX,OX,Xi,Xi];exact ih
   have e:∀K:Nat->Bool,(IP f0 dst vals K (n+1))[t]?=(IP f0 dst vals K n)[t]?:=by
     intro K;simp only[IP];split;exact R1 hd;rfl
   rw[e,e,ih]
def tH{f0:List AV}{dst:Nat->Option Tmp}{vals:Nat->AV}{L:Nat->Bool}{t j:Nat}:∀(n:Nat),j<=n->(∀i,j<=i->i < n->dst i=some t->L i=false)->(IP f0 dst vals L n)[t]?=(IP f0 dst vals L j)[t]?:=by
 intro n
 induction n with
 | zero=>intro hj _;have:j=0:=by omega
         subst this;rfl
 | succ n ih =>
   intro hj h;by_cases hn:j=n+1;subst hn;rfl;have ih:=ih (by omega) (λi h1 h2 hd=>h i h1 (by omega) hd);rw[<- ih];simp only[IP];split;rename_i hL;by_cases hd:dst n=some t;have:=h n (by omega) (by omega) hd;rw[this] at hL;cases hL;exact R1 hd;rfl
end AI
