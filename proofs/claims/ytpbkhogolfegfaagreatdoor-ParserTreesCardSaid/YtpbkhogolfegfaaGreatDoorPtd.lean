/- Part of a proof: see the last text. -/
import Derived.Test.YtpbkhogolfegfaaGreatDoorPtc
import Derived.IntWalk
set_option linter.unusedVariables false
set_option linter.unusedSimpArgs false
set_option linter.defProp false
noncomputable section
namespace AI
open Go Go.RowKit
def Y6{P:Program}{G:A6}{c:Cx}{w:World}{s s':AS}{t:TypeId}{l k r:AV}{vl vk:Value}(hs:St G c w s)(h:Jh P s t l k=some (r,s'))(hl:Rp c w l vl)(hk:Rp c w k vk) :
   ∃u w' c',(Instr.makeSlice t vl vk).run P w=.ok u w'/\Ext c w c' w'/\St G c' w' s'/\Rp c' w' r u:=by
 unfold Jh at h;split at h;rename_i elem hu;split at h;rename_i e n m he hn hm;split at h;rename_i z hz;split at h;rename_i zs xP;split at h;rename_i hc;cases h;obtain⟨rfl,h24,h48,Is⟩:=hc;obtain⟨k1,i1,rfl,h1,e1⟩:=MK hn hl;obtain⟨k2,i2,rfl,h2,e2⟩:=MK hm hk;have w1:IntKind.i64.wrap i1=i1:=IntWalk.i64_in _ (by omega);have w2:IntKind.i64.wrap i2=i2:=IntWalk.i64_in _ (by omega);have qW:CG c w zs z.cells.toList:=Qk xP c w;have hin:=lO qW (n*e.size) (λ_ hn=>by rw[hn] at Is;cases Is);simp only[Array.toArray_toList] at hin
 have aaM:(Array.range (n*e.size)).map (λi=>z.cells[i % z.cells.size]!)=((List.range (n*e.size)).map λi=>z.cells[i % z.cells.size]!).toArray:=by
   apply Array.ext';simp
 obtain⟨x,st⟩:=hs.new (b:=.cells ((List.range (n*e.size)).map λi=>zs.getD (i % zs.length) (.sc undef))) (o:=.cells ((List.range (n*e.size)).map λi=>z.cells[i % z.cells.size]!).toArray elem (0,0)) (.cells hin);refine⟨.slice (some ⟨w.heap.size,0,none⟩) n n,_,_,?_,x,st,.ID (Nat.le_refl _) (by simp[hs.len])⟩
 have hb:¬281474976710656 < (e.bytes:Int)*i2:=by
   have e3:(e.bytes:Int)*i2=((n*e.bytes:Nat):Int):=by
     rw[show i2=(n:Int) from by omega,Int.natCast_mul,Int.mul_comm]
   rw[e3];generalize n*e.bytes=q at h48;omega
 have hn2:¬i2 < 0:=by omega
 have ZR:¬i1 < 0:=by omega
 have hle:¬i2 < i1:=by omega
 simp only[Instr.makeSlice,Sem.run_bind,run_underlying hu,Result.andThen_ok,asInt,asIntOf,Sem.run_pure,typeInfo,run_program,he,w1,w2,ZR,hn2,gt_iff_lt,show(2:Int) ^ 48=281474976710656 from rfl,hb,decide_false,Bool.or_false,hle,Bool.false_eq_true,if_false,run_askRoom,e2,CE he,newRow,e1];split;rename_i h0;have XX:Array.range 0=#[]:=rfl;simp[h0,XX];simp only[Sem.run_bind,zeroValue,typeInfo,run_program,Result.andThen_ok,he,hz,Sem.run_pure,run_newObj,aaM];cases h;cases h;cases h;cases h;cases h
def Ph(P:Program)(s:AS)(t:TypeId)(x k:AV):Option (AV×AS) :=
 match P.underlying t with
 | some (.map kt et)=>match P.underlying kt,YD k,x with
   | some kd,some key,.mp id=>if plainKey kd=true then
       (match s.get id with
       | some (.map es cl)=>match Xh kd key es 0 with
         | some (some (j,v))=>match es[j]? with
           | some e=>some (.Dk [v,.sc (.int .i64 e.2.2)],(s.put id (.map (es.set j (key,v,e.2.2)) cl)))
           | none=>none
         | some none=>match LY P et with
           | some z=>some (.Dk [z,.sc (.int .i64 cl)],(s.put id (.map (es++[(key,z,cl)]) (cl+1))))
           | none=>none
         | none=>none
       | _=>none) else none
   | _,_,_=>none
 | _=>none
def bI{P:Program}{G:A6}{c:Cx}{w:World}{s s':AS}{t:TypeId}{x k r:AV}{vx vk:Value}(hs:St G c w s)(h:Ph P s t x k=some (r,s'))(hx:Rp c w x vx)(hk:Rp c w k vk) :
   ∃u w',(Instr.mapEntry t vx vk).run P w=.ok u w'/\Ext c w c w'/\St G c w' s'/\Rp c w' r u:=by
 unfold Ph at h;split at h
 . rename_i kt et hu
   split at h
   . rename_i kd key id Y9 aaU
     have:=UG aaU hk;subst this;split at h
     . rename_i hp
       split at h
       . rename_i es cl hb
         cases hx with
         | @mp _ g hid =>
           obtain⟨fs,hw,he⟩:=T9 hs hid hb;split at h;rename_i j v hf;split at h;rename_i e hej;cases h;rcases Pg he hf with ⟨h1,_⟩ | ⟨j',a',v',e',f,h1,h2,h3,h4,h5,h6,h7,h8,h9,h10⟩
           cases h1;injection h1 with h1
           injection h1 with h1 h1'
           rw[Nat.zero_add] at h1;subst h1 h1';rw[hej] at h4;cases h4;rw[Nat.zero_add] at h2;have aaX:fs.toArray.modify j (λe=>{ e with key:=vk })=(fs.set j ⟨vk,v',e.2.2⟩).toArray:=Tm h5 (by rw[<- h9,<- h7])
           obtain⟨x1,st⟩:=hs.put (b:=.map (es.set j (vk,v,e.2.2)) cl) (o:=.map (fs.set j ⟨vk,v',e.2.2⟩).toArray cl) hid (Uc w g _) (UB w hw) (.map (he.set h3 j));refine⟨.tuple #[v',.int .i64 e.2.2],_,?_,x1,st,.Dk (vs:=[v',.int .i64 e.2.2]) (.cons (h3.mono x1) (.cons (.sc rfl) .nil))⟩;have aaP:=Yt h10;have xK:=run_findKey (P:=P) Y9 h2 w;simp only[Instr.mapEntry,Sem.run_bind,run_underlying hu,Result.andThen_ok,Jz hw,run_checkKey _ Y9 hp,xK,List.getElem?_toArray,h5,Option.map_some,Option.getD_some,h8,h9,Instr.keyThatStays,aaP,if_true,Sem.run_pure,aaX,NW _ hw,goInt];cases h;rename_i hf;split at h;rename_i z hz;cases h;rcases Pg he hf with ⟨_,h2⟩ | ⟨j',a',v',e',f,h1,_⟩
           obtain⟨zv,qW,hzp⟩:=T8 hz c w w;obtain⟨x1,st⟩:=hs.put (b:=.map (es++[(vk,z,cl)]) (cl+1)) (o:=.map (fs++[(⟨vk,zv,cl⟩:MapEntry)]).toArray (cl+1)) hid (Uc w g _) (UB w hw) (.map (he.snoc hzp));refine⟨.tuple #[zv,.int .i64 cl],_,?_,x1,st,.Dk (vs:=[zv,.int .i64 cl]) (.cons (hzp.mono x1) (.cons (.sc rfl) .nil))⟩;have xK:=run_findKey (P:=P) Y9 h2 w;have aa0:fs.toArray.push (⟨vk,zv,cl⟩:MapEntry)=(fs++[(⟨vk,zv,cl⟩:MapEntry)]).toArray:=by simp
           simp only[Instr.mapEntry,Sem.run_bind,run_underlying hu,Result.andThen_ok,Jz hw,run_checkKey _ Y9 hp,xK,qW,aa0,NW _ hw,Sem.run_pure,goInt];cases h1;cases h;cases h
       cases h
     cases h
   cases h
 cases h
def fI(b:Int):List (Value×AV×Nat)->Nat->Option Nat
 | [],_=>none
 | e::es,i=>if (e.2.2:Int) == b then some i else fI b es (i+1)
def yB{c:Cx}{w:World}{b:Int}{es:List (Value×AV×Nat)}{fs:List MapEntry}(h:Ki c w es fs):fs.findIdx? (λe=>(e.born:Int) == b)=fI b es 0:=by
 have key:∀(es:List (Value×AV×Nat)) (fs:List MapEntry) (i:Nat),Ki c w es fs->fI b es i=(fs.findIdx? (λe=>(e.born:Int) == b)).map (·+i):=by
   intro es fs i h
   induction h generalizing i with
   | nil=>rfl
   | cons _ _ ih =>
     simp only[fI,List.findIdx?_cons];split;simp;rw[ih,Option.map_map];congr 1;funext x;simp;omega
 rw[key es fs 0 h];simp
def LX(s:AS)(x st v:AV):Option AS :=
 match x,st with
 | .mp id,.sc (.int _ b)=>match s.get id with
   | some (.map es cl)=>match fI b es 0 with
     | some j=>match es[j]? with
       | some e=>some (s.put id (.map (es.set j (e.1,v,e.2.2)) cl))
       | none=>none
     | none=>none
   | _=>none
 | _,_=>none
def Ki.get{c:Cx}{w:World}{es:List (Value×AV×Nat)}{fs:List MapEntry}(h:Ki c w es fs){j:Nat}{e:Value×AV×Nat}(he:es[j]?=some e):∃f,fs[j]?=some f/\f.key=e.1/\f.born=e.2.2:=by
 induction h generalizing j with
 | nil=>simp at he
 | cons h1 _ ih =>
   cases j with
   | zero=>simp at he;subst he;exact⟨_,rfl,rfl,rfl⟩
   | succ j=>simpa using ih (by simpa using he)
def Xe{P:Program}{G:A6}{c:Cx}{w:World}{s s':AS}{t:TypeId}{x st v:AV}{vx vs vv:Value}(hs:St G c w s)(h:LX s x st v=some s')(hx:Rp c w x vx)(F4:Rp c w st vs)(hv:Rp c w v vv) :
   ∃w',(Instr.entryStore t vx vs vv).run P w=.ok () w'/\Ext c w c w'/\St G c w' s':=by
 unfold LX at h;split at h
 . rename_i id k b
   split at h
   . rename_i es cl hb
     split at h
     . rename_i j hj
       split at h
       . rename_i e hej
         cases h;cases F4;cases hx with
         | @mp _ g hid =>
           obtain⟨fs,hw,he⟩:=T9 hs hid hb;obtain⟨f,hf,xK,hfb⟩:=he.get hej;have aaX:fs.toArray.modify j (λe=>{ e with val:=vv })=(fs.set j ⟨e.1,vv,e.2.2⟩).toArray:=Tm hf (by rw[<- xK,<- hfb])
           obtain⟨x1,st⟩:=hs.put (b:=.map (es.set j (e.1,v,e.2.2)) cl) (o:=.map (fs.set j ⟨e.1,vv,e.2.2⟩).toArray cl) hid (Uc w g _) (UB w hw) (.map (he.set hv j));refine⟨_,?_,x1,st⟩
           have xJ:fs.toArray.findIdx? (λe=>(e.born:Int) == b)=some j:=by
             rw[List.findIdx?_toArray,yB he,hj]
           simp only[Instr.entryStore,Sem.run_bind,Result.andThen_ok,Jz hw,asInt,asIntOf,Sem.run_pure,xJ,aaX];exact NW _ hw
       cases h
     cases h
   cases h
 cases h
end AI
namespace AI
open Go Go.RowKit
def byteOf:AV->Option UInt8
 | .sc (.int .u8 n)=>some (UInt8.ofNat n.toNat)
 | _=>none
def bytesOf:List AV->Option (List UInt8)
 | []=>some []
 | a::l=>match byteOf a,bytesOf l with
   | some b,some m=>some (b::m)
   | _,_=>none
def VJ(P:Program)(src dst:TypeId):AV->Option AV
 | .sc v=>VK P (convert src dst v)
 | .sl _ n cs=>match P.underlying src,P.underlying dst with
   | some (.slice e),some .string=>(match P.underlying e with
     | some (.int .u8)=>if n=cs.length then (bytesOf cs).map λl=>.sc (.string ⟨l.toArray⟩) else none
     | _=>none)
   | _,_=>none
 | _=>none
def uG{c:Cx}{w:World}{a:AV}{b:UInt8}{v:Value}(h:byteOf a=some b)(hr:Rp c w a v):∃n,v=.int .u8 n/\UInt8.ofNat n.toNat=b:=by
 unfold byteOf at h;split at h;cases h;cases hr;exact⟨_,rfl,rfl⟩;cases h
def r6(s:ByteArray)(l:List UInt8):ByteArray:=l.foldl ByteArray.push s
def jL:∀(l:List UInt8) (s:ByteArray),r6 s l=⟨s.data++l.toArray⟩
 | [],s=>by simp[r6]
 | b::l,s=>by
   have:=jL l (s.push b);unfold r6 at this ⊢;rw[List.foldl_cons,this];simp[ByteArray.push]
def Xq{P:Program}{c:Cx}{w w0:World}:∀{cs:List AV} {vs:List Value} {l:List UInt8} (s:ByteArray),CG c w cs vs->bytesOf cs=some l ->
   (forIn vs s λ(x:Value) (s:ByteArray)=>(match x with
     | .int .u8 n=>(pure (ForInStep.yield (s.push (UInt8.ofNat n.toNat))):Sem (ForInStep ByteArray))
     | _=>((λ_=>ForInStep.yield s) <$> (stuck "bytesToString: byte expected":Sem PUnit):Sem (ForInStep ByteArray)))).run P w0=.ok (r6 s l) w0
 | [],_,_,s,h,hb=>by cases h;cases hb;rfl
 | a::cs,_,l,s,h,hb=>by
   cases h with
   | cons h1 t =>
     simp only[bytesOf] at hb;split at hb;rename_i b m h2 h3;cases hb;obtain⟨n,rfl,rfl⟩:=uG h2 h1;have:=Xq (P:=P) (w0:=w0) (s.push (UInt8.ofNat n.toNat)) t h3;simp only[List.forIn_cons,Sem.run_bind,Sem.run_pure,Result.andThen_ok];exact this;cases hb
def yD{P:Program}{c:Cx}{w:World}{src dst:TypeId}{a r:AV}{v:Value}(h:VJ P src dst a=some r)(hr:Rp c w a v):∃u,(convert src dst v).run P w=.ok u w/\Rp c w r u:=by
 unfold VJ at h;split at h;cases hr;obtain⟨z,h1,h2⟩:=T6 h c w w;exact⟨z,h1,h2⟩
 . rename_i own n cs
   split at h
   . rename_i e hs hd
     split at h
     . rename_i he
       split at h
       . rename_i hn
         obtain⟨l,hb,rfl⟩:=Option.map_eq_some_iff.1 h;refine⟨.string ⟨l.toArray⟩,?_,.sc rfl⟩;unfold convert;cases hr with
         | @Jc _ A cap h0 =>
           cases hb;cases A<;>simp[Sem.run_bind,run_underlying hs,run_underlying hd,run_underlying he,Conv.bytesToString,loadCells,loadCellsFrom]<;>rfl
         | @KM _ _ cap g o _ hn' hc ho =>
           obtain⟨vs,hvs,Ij⟩:=hc.vals;have hlen:=hvs.len;have hld:=run_loadCells_list (P:=P) w ⟨g,o,none⟩ vs (λj v hj=>by rw[add_lit];exact(Ij j v hj).2.2);rw[hlen,<- hn] at hld;have hlp:=Xq (P:=P) (w0:=w) ByteArray.empty hvs hb;rw[jL] at hlp;simp[Sem.run_bind,run_underlying hs,run_underlying hd,run_underlying he,Conv.bytesToString,hld];refine(congrArg (λr=>r.andThen λ(a:ByteArray) w'=>Result.ok (Value.string a) w') hlp).trans ?_;simp[ByteArray.empty,ByteArray.emptyWithCapacity];rfl
       cases h
     cases h
   cases h
 cases h
end AI
namespace AI
open Go Go.RowKit
def A8(G:A6)(fr:List AV):Operand->Option AV
 | .tmp t=>some (fr.getD t (.sc undef))
 | .const v=>V0 v
 | .global g=>(G g).map .el
 | .func f=>some (.fn (.func f) [] [])
def Er{G:A6}{c:Cx}{w:World}{s:AS}{fr:List AV}{a:Act}{x:Operand}{v:AV}(hs:St G c w s)(hf:CG c w fr a.tmps.toList)(h:A8 G fr x=some v):Rp c w v (a.eval x):=by
 cases x with
 | tmp t =>
   simp only[A8,Option.some.injEq] at h;subst h;simp only[Act.eval];rw[List.getD_eq_getElem?_getD];cases hg:fr[t]? with
   | some b =>
     obtain⟨u,hu,hr⟩:=hf.get hg;rw[Array.getElem?_toList] at hu;simp[hu,hr]
   | none =>
     have hl:=hf.len;have h1:=List.getElem?_eq_none_iff.1 hg;have h2:a.tmps[t]?=none:=Array.getElem?_eq_none (by rw[<- Array.length_toList];omega);simp only[Array.getD_eq_getD_getElem?,h2,Option.getD_none];exact .sc rfl
 | const v=>exact jB h c w
 | global g =>
   simp only[A8] at h;cases hg:G g with
   | none=>rw[hg] at h;cases h
   | some cs=>rw[hg] at h;cases h;exact .el (hs.Mq g cs hg)
 | func f=>simp only[A8,Option.some.injEq] at h;subst h;exact .fn (us:=[]) (vs:=[]) .nil .nil
def Y8(G:A6)(fr:List AV):List Operand->Option (List AV)
 | []=>some []
 | x::xs=>match A8 G fr x,Y8 G fr xs with
   | some a,some as=>some (a::as)
   | _,_=>none
abbrev Y4(G:A6)(c:Cx)(w:World)(fr:List AV)(ρ:Operand->Value)(x:Operand):Prop:=∀v,A8 G fr x=some v->Rp c w v (ρ x)
def XC{G:A6}{c:Cx}{w:World}{fr:List AV}{ρ:Operand->Value}{xs:List Operand}{vs:List AV}(IA:∀x∈xs,Y4 G c w fr ρ x)(h:Y8 G fr xs=some vs):CG c w vs (xs.map ρ):=by
 induction xs generalizing vs with
 | nil=>simp[Y8] at h;subst h;exact .nil
 | cons x xs ih =>
   simp only[Y8] at h;split at h;rename_i b bs h1 h2;cases h;exact .cons (IA x List.mem_cons_self b h1) (ih (λy hy=>IA y (List.mem_cons_of_mem _ hy)) h2);cases h
def LH(G:A6)(fr:List AV):List (Nat×Operand)->Option (List (Nat×AV))
 | []=>some []
 | x::xs=>match A8 G fr x.2,LH G fr xs with
   | some a,some as=>some ((x.1,a)::as)
   | _,_=>none
def XB{G:A6}{c:Cx}{w:World}{fr:List AV}{ρ:Operand->Value}{xs:List (Nat×Operand)}{vs:List (Nat×AV)}(IA:∀x∈xs,Y4 G c w fr ρ x.2)(h:LH G fr xs=some vs):PL c w vs (xs.map λx=>(x.1,ρ x.2)):=by
 induction xs generalizing vs with
 | nil=>simp[LH] at h;subst h;exact .nil
 | cons x xs ih =>
   simp only[LH] at h;split at h;rename_i b bs h1 h2;cases h;exact .cons (IA x List.mem_cons_self b h1) (ih (λy hy=>IA y (List.mem_cons_of_mem _ hy)) h2);cases h
def eX(G:A6)(fr:List AV):Option Operand->Option (Option AV)
 | none=>some none
 | some x=>(A8 G fr x).map some
def mS{G:A6}{c:Cx}{w:World}{fr:List AV}{ρ:Operand->Value}{x:Option Operand}{v:Option AV}(IA:∀y∈x.toArray,Y4 G c w fr ρ y)(h:eX G fr x=some v):RO c w v (x.map ρ):=by
 cases x with
 | none=>simp[eX] at h;subst h;exact .none
 | some x =>
   simp only[eX] at h;cases hx:A8 G fr x with
   | none=>rw[hx] at h;cases h
   | some b=>rw[hx] at h;cases h;exact .some (IA x (by simp) b hx)
inductive AR where
 | val (v:AV) (s:AS)
 | ent (f:FuncId) (args:List AV)
 | IL (v:AV)
def LZ(P:Program)(g:FuncId):Bool:=match P.funcs[g]? with
 | some fn=>fn.name != "runtime.NumGoroutine"&&fn.body.isSome
 | none=>false
def notNil:AV->Bool
 | .ptr _ _ | .el _=>true
 | .fn (.func _) _ _=>true
 | _=>false
def isIface:TypeDesc->Bool
 | .interface _=>true
 | _=>false
def SE(P:Program)(G:A6)(fr:List AV)(s:AS)(o:Oper)(cl:Call):Option AR :=
 match cl.callee with
 | .builtin .len=>match cl.args.toList,cl.argTypes.toList with
   | [x],[t]=>((A8 G fr x).bind (Wc P s t)).map λv=>.val v s
   | _,_=>none
 | .builtin .append=>match cl.args.toList,cl.argTypes.toList with
   | [x,y],[t,tx]=>match A8 G fr x,A8 G fr y with
     | some a,some b=>(KN P s t tx a b).map λr=>.val r.1 r.2
     | _,_=>none
   | _,_=>none
 | .builtin .max=>((Y8 G fr cl.args.toList).bind OG).bind λvs=>(VK P (Builtin.max_ cl.argTypes o.type vs.toArray)).map λv=>.val v s
 | .builtin .min=>((Y8 G fr cl.args.toList).bind OG).bind λvs=>(VK P (Builtin.min_ cl.argTypes o.type vs.toArray)).map λv=>.val v s
 | .value f=>match A8 G fr f,Y8 G fr cl.args.toList with
   | some (.fn (.func g) first Mn),some as=>if LZ P g=true then some (.ent g (first++as++Mn)) else none
   | _,_=>none
 | _=>none
def PX(P:Program)(G:A6)(fr:List AV)(s:AS)(o:Oper):Option AR :=
 match o.op with
 | .move x=>(A8 G fr x).map λv=>.val v s
 | .assign x=>(A8 G fr x).map λv=>.val v s
 | .pick c a b=>match A8 G fr c with
   | some (.sc (.bool t))=>(if t then A8 G fr a else A8 G fr b).map λv=>.val v s
   | _=>none
 | .alloc e=>(LY P e).map λz=>.val (.ptr s.nx 0) (s.new (.cells (cellsOf z)))
 | .box _ x=>(A8 G fr x).bind λz=>match RB z with
   | true=>none
   | false=>some (.val (.ptr s.nx 0) (s.new (.cells (cellsOf z))))
 | .build t ps=>((LH G fr ps.toList).bind (Xc P t)).map λv=>.val v s
 | .buildSlice t n ps=>((LH G fr ps.toList).bind (LW P t n)).map λv=>.val v s
 | .load t a=>((A8 G fr a).bind (Jg P s t)).map λv=>.val v s
 | .store t a x=>match A8 G fr a,A8 G fr x with
   | some a,some x=>(Kk P s t a x).map λs'=>.val (.sc undef) s'
   | _,_=>none
 | .nilCheck x=>match A8 G fr x with
   | some v=>if notNil v=true then some (.val v s) else none
   | none=>none
 | .binOp op t x y _=>match A8 G fr x,A8 G fr y with
   | some a,some b=>(Mk P op t x y a b).map λv=>.val v s
   | _,_=>none
 | .unOp op _ x=>((A8 G fr x).bind YD).bind λv=>(VK P (Op.unary op v)).map λv=>.val v s
 | .convert src dst x=>((A8 G fr x).bind λa=>VJ P src dst a).map λv=>.val v s
 | .makeInterface t x=>match A8 G fr x,P.underlying t with
   | some v,some d=>if isIface d=true then none else some (.val (.E7 t v) s)
   | _,_=>none
 | .makeFunc f first Mn=>match Y8 G fr first.toList,Y8 G fr Mn.toList with
   | some a,some b=>some (.val (.fn f a b) s)
   | _,_=>none
 | .makeMap _ none=>some (.val (.mp s.nx) (s.new (.map [] 0)))
 | .makeSlice t l c=>match A8 G fr l,A8 G fr c with
   | some a,some b=>(Jh P s t a b).map λr=>.val r.1 r.2
   | _,_=>none
 | .slice t x lo hi mx=>match A8 G fr x,eX G fr lo,eX G fr hi,eX G fr mx with
   | some a,some l,some h,some m=>(Nk P t a l h m).map λv=>.val v s
   | _,_,_,_=>none
 | .fieldAddr t x k=>((A8 G fr x).bind λa=>Re P t a k).map λv=>.val v s
 | .field t x k=>((A8 G fr x).bind λa=>Xf P t a k).map λv=>.val v s
 | .indexAddr t x i=>match A8 G fr x,A8 G fr i with
   | some a,some b=>(Db P t a b).map λv=>.val v s
   | _,_=>none
 | .index t x i=>match A8 G fr x,A8 G fr i with
   | some a,some b=>(Ln P t a b).map λv=>.val v s
   | _,_=>none
 | .lookup t x k ok=>match A8 G fr x,A8 G fr k with
   | some a,some b=>(IV P s t a b ok).map λv=>.val v s
   | _,_=>none
 | .mapUpdate t m k x=>match A8 G fr m,A8 G fr k,A8 G fr x with
   | some a,some b,some v=>(Ka P s t a b v).map λs'=>.val (.sc undef) s'
   | _,_,_=>none
 | .insert t m k x=>match A8 G fr m,A8 G fr k,A8 G fr x with
   | some a,some b,some v=>(Ka P s t a b v).map λs'=>.val (.sc undef) s'
   | _,_,_=>none
 | .mapEntry t m k=>match A8 G fr m,A8 G fr k with
   | some a,some b=>(Ph P s t a b).map λr=>.val r.1 r.2
   | _,_=>none
 | .entryStore _ m st x=>match A8 G fr m,A8 G fr st,A8 G fr x with
   | some a,some b,some v=>(LX s a b v).map λs'=>.val (.sc undef) s'
   | _,_,_=>none
 | .extract x k=>((A8 G fr x).bind λa=>Rc a k).map λv=>.val v s
 | .call cl=>SE P G fr s o cl
 | .panic x=>match A8 G fr x with
   | some (.E7 t v)=>some (.IL (.E7 t v))
   | _=>none
 | _=>none
def W8(_P:Program)(G:A6)(c:Cx)(w:World)(r:Result Next):AR->Prop
 | .val v s'=>∃u w' c',(r=.ok (.value u) w'\/(r=.ok .skip w'/\u=undef))/\Ext c w c' w'/\St G c' w' s'/\Rp c' w' v u
 | .ent f args=>∃vs,r=.ok (.enter f vs.toArray) w/\CG c w args vs
 | .IL v=>∃u,r=.halt (.panic u) w/\Rp c w v u
def Es{P:Program}{G:A6}{c:Cx}{w:World}{s:AS}{v:AV}{m:Sem Value}(hs:St G c w s)(h:∃u,m.run P w=.ok u w/\Rp c w v u):W8 P G c w ((do pure (Next.value (<- m)):Sem Next).run P w) (.val v s):=by
 obtain⟨u,h1,h2⟩:=h;exact⟨u,w,c,.inl (by simp[h1]),Ext.refl c w,hs,h2⟩
def Nr{P:Program}{G:A6}{c:Cx}{w:World}{s':AS}{v:AV}{m:Sem Value}(h:∃u w' c',m.run P w=.ok u w'/\Ext c w c' w'/\St G c' w' s'/\Rp c' w' v u):W8 P G c w ((do pure (Next.value (<- m)):Sem Next).run P w) (.val v s'):=by
 obtain⟨u,w',c',h1,h2⟩:=h;exact⟨u,w',c',.inl (by simp[h1]),h2⟩
def R0{P:Program}{G:A6}{c:Cx}{w:World}{s':AS}{m:Sem Unit}(h:∃w',m.run P w=.ok () w'/\Ext c w c w'/\St G c w' s'):W8 P G c w ((do m;pure Next.skip:Sem Next).run P w) (.val (.sc undef) s'):=by
 obtain⟨w',h1,h2,h3⟩:=h;exact⟨undef,w',c,.inr ⟨by simp[h1],rfl⟩,h2,h3,.sc rfl⟩
def map_some{α β:Type}{o:Option α}{f:α->β}{b:β}(h:o.map f=some b):∃a,o=some a/\f a=b:=by
 cases o with
 | none=>cases h
 | some a=>exact⟨a,rfl,by simpa using h⟩
def bind_some{α β:Type}{o:Option α}{f:α->Option β}{b:β}(h:o.bind f=some b):∃a,o=some a/\f a=some b:=by
 cases o with
 | none=>cases h
 | some a=>exact⟨a,rfl,by simpa using h⟩
end AI
namespace AI
open Go Go.RowKit
def Ro{P:Program}{g:FuncId}(h:LZ P g=true)(args:Array Value)(w:World):(callFunc g args).run P w=.ok (.enter g args) w:=by
 unfold LZ at h;split at h;rename_i fn hf;simp only[Bool.and_eq_true,bne_iff_ne,ne_eq] at h;obtain⟨b,hb⟩:=Option.isSome_iff_exists.1 h.2;simp[callFunc,hf,h.1,hb];cases h
def yC{P:Program}{G:A6}{c:Cx}{w:World}{s:AS}{fr:List AV}{ρ:Operand->Value}{o:Oper}{cl:Call}{r:AR}(hs:St G c w s)(IA:∀x∈cl.operands,Y4 G c w fr ρ x)(h:SE P G fr s o cl=some r) :
   W8 P G c w ((do let d <- resolve ρ cl o.type;invoke d.target d.args:Sem Next).run P w) r:=by
 have Gp:∀x∈cl.args.toList,Y4 G c w fr ρ x:=λx hx=>IA x (by simp only[Call.operands,Array.mem_append];exact .inr (Array.mem_toList_iff.1 hx));unfold SE at h;split at h;rename_i Ih;split at h;rename_i x t hx ht;obtain⟨v,h1,rfl⟩:=map_some h;obtain⟨b,h2,h3⟩:=bind_some h1;have e1:cl.args=#[x]:=by apply Array.ext';rw[hx]
 have e2:cl.argTypes=#[t]:=by apply Array.ext';rw[ht]
 have:=Es hs (ad4 (ty:=o.type) hs h3 (Gp x (by rw[hx];simp) _ h2));simpa[resolve,Ih,e1,e2,invoke,builtin] using this
 cases h;rename_i Ih;split at h;rename_i x y t tx hx ht;split at h;rename_i b d h2 h3;obtain⟨v,h1,rfl⟩:=map_some h;have e1:cl.args=#[x,y]:=by apply Array.ext';rw[hx]
 have e2:cl.argTypes=#[t,tx]:=by apply Array.ext';rw[ht]
 have:=Nr (l9 (ty:=o.type) hs h1 (Gp x (by rw[hx];simp) _ h2) (Gp y (by rw[hx];simp) _ h3));simpa[resolve,Ih,e1,e2,invoke,builtin] using this
 cases h;cases h;rename_i Ih;obtain⟨vs,h1,h2⟩:=bind_some h;obtain⟨v,h3,rfl⟩:=map_some h2;obtain⟨as,h4,h5⟩:=bind_some h1;have e:=YE h5 (XC Gp h4);have e1:cl.args.map ρ=vs.toArray:=by apply Array.ext';rw[<- e];simp
 have:=Es hs (T6 h3 c w w);simpa[resolve,Ih,e1,invoke,builtin] using this
 rename_i Ih;obtain⟨vs,h1,h2⟩:=bind_some h;obtain⟨v,h3,rfl⟩:=map_some h2;obtain⟨as,h4,h5⟩:=bind_some h1;have e:=YE h5 (XC Gp h4);have e1:cl.args.map ρ=vs.toArray:=by apply Array.ext';rw[<- e];simp
 have:=Es hs (T6 h3 c w w);simpa[resolve,Ih,e1,invoke,builtin] using this
 . rename_i f Ih
   split at h
   . rename_i g first Mn as h1 h2
     split at h
     . rename_i hc
       cases h;have hr:=IA f (by simp[Call.operands,Ih]) _ h1;have Gp:=XC Gp h2;generalize hv:ρ f=v at hr;cases hr with
       | @fn _ _ _ us vs q1 q2 =>
         refine⟨us++cl.args.toList.map ρ++vs,?_,(q1.append Gp).append q2⟩
         have e3:(us++cl.args.toList.map ρ++vs).toArray=us.toArray++Array.map ρ cl.args++vs.toArray:=by
           apply Array.ext';simp
         rw[e3];simp only[resolve,Ih,hv,Sem.run_bind,Deferred.ofValue,Sem.run_pure,Result.andThen_ok,invoke,Ro hc]
     cases h
   cases h
 cases h
def bK{P:Program}{G:A6}{c:Cx}{w:World}{s:AS}{fr:List AV}{ρ:Operand->Value}{o:Oper}{r:AR}(hs:St G c w s)(IA:∀x∈o.op.operands,Y4 G c w fr ρ x)(hρ:∀k,ρ (.const k)=k)(h:PX P G fr s o=some r) :
   W8 P G c w ((execOp ρ o).run P w) r:=by
 unfold PX at h;split at h;rename_i x ho;obtain⟨v,h1,rfl⟩:=map_some h;simp only[execOp,ho];exact⟨_,w,c,.inl rfl,Ext.refl c w,hs,IA x (by rw[ho];simp[Op.operands]) v h1⟩;rename_i x ho;obtain⟨v,h1,rfl⟩:=map_some h;simp only[execOp,ho];exact⟨_,w,c,.inl rfl,Ext.refl c w,hs,IA x (by rw[ho];simp[Op.operands]) v h1⟩;rename_i x y z ho;split at h;rename_i t hc;obtain⟨v,h1,rfl⟩:=map_some h;have hb:=IA x (by rw[ho];simp[Op.operands]) _ hc;generalize hv:ρ x=vx at hb;cases hb;simp only[execOp,ho,hv];refine⟨if t then ρ y else ρ z,w,c,.inl (by simp[asBool]),Ext.refl c w,hs,?_⟩
 cases t;exact IA z (by rw[ho];simp[Op.operands]) v h1;exact IA y (by rw[ho];simp[Op.operands]) v h1;cases h;rename_i e ho;obtain⟨z,h1,rfl⟩:=map_some h;obtain⟨zv,qW,hzp⟩:=T8 h1 c w w;obtain⟨v',w',c',h2,h3⟩:=pM (P:=P) (t:=e) hs hzp (Zx h1);simp only[execOp,ho];refine Nr ⟨v',w',c',?_,h3⟩;simp only[Instr.box,Sem.run_bind] at h2;simp only[Instr.alloc,Sem.run_bind,qW,Result.andThen_ok];exact h2;rename_i e x ho;obtain⟨z,h1,h⟩:=bind_some h;split at h;cases h;rename_i hz;cases h;simp only[execOp,ho];exact Nr (pM (P:=P) (t:=e) hs (IA x (by rw[ho];simp[Op.operands]) z h1) hz);rename_i t ps ho;obtain⟨v,h1,rfl⟩:=map_some h;obtain⟨qs,h2,h3⟩:=bind_some h1;simp only[execOp,ho];refine Es hs (tP (qs:=ps.map λx=>(x.1,ρ x.2)) h3 (by simpa using XB (ρ:=ρ) (λx hx=>IA x.2 (by rw[ho];simp only[Op.operands,List.mem_toArray,List.mem_map];exact⟨x,hx,rfl⟩)) h2) w)
 rename_i t n ps ho;obtain⟨v,h1,rfl⟩:=map_some h;obtain⟨qs,h2,h3⟩:=bind_some h1;simp only[execOp,ho];obtain⟨u,w',q1,q2⟩:=Xd (qs:=ps.map λx=>(x.1,ρ x.2)) hs h3 (by simpa using XB (ρ:=ρ) (λx hx=>IA x.2 (by rw[ho];simp only[Op.operands,List.mem_toArray,List.mem_map];exact⟨x,hx,rfl⟩)) h2)
 exact Nr ⟨u,w',c,q1,q2⟩;rename_i t x ho;obtain⟨v,h1,rfl⟩:=map_some h;obtain⟨b,h2,h3⟩:=bind_some h1;simp only[execOp,ho];exact Es hs (fM hs h3 (IA x (by rw[ho];simp[Op.operands]) b h2));rename_i t x y ho;split at h;rename_i b d h2 h3;obtain⟨s',h1,rfl⟩:=map_some h;simp only[execOp,ho];exact R0 (tX hs h1 (IA x (by rw[ho];simp[Op.operands]) b h2) (IA y (by rw[ho];simp[Op.operands]) d h3));cases h
 . rename_i x ho
   split at h
   . rename_i v h1
     split at h
     . rename_i hn
       cases h;have hr:=IA x (by rw[ho];simp[Op.operands]) v h1;simp only[execOp,ho];generalize ρ x=vx at hr;cases hr with
       | ptr q=>exact⟨_,w,c,.inl rfl,Ext.refl c w,hs,.ptr q⟩
       | el q=>exact⟨_,w,c,.inl rfl,Ext.refl c w,hs,.el q⟩
       | @fn f _ _ us vs q1 q2 =>
         cases f with
         | func g=>exact⟨_,w,c,.inl rfl,Ext.refl c w,hs,.fn q1 q2⟩
         | _=>simp[notNil] at hn
       | _=>simp[notNil] at hn
     cases h
   cases h
 rename_i op t x y yt ho;split at h;rename_i b d h2 h3;obtain⟨v,h1,rfl⟩:=map_some h;simp only[execOp,ho];exact Es hs (ad2 h1 (IA x (by rw[ho];simp[Op.operands]) b h2) (IA y (by rw[ho];simp[Op.operands]) d h3) (λk hk=>by rw[hk];exact hρ k) w);cases h;rename_i op t x ho;obtain⟨v,h1,h2⟩:=bind_some h;obtain⟨b,h3,h4⟩:=bind_some h1;obtain⟨q,h5,rfl⟩:=map_some h2;have e:=UG h4 (IA x (by rw[ho];simp[Op.operands]) b h3);simp only[execOp,ho,e];exact Es hs (T6 h5 c w w);rename_i src dst x ho;obtain⟨q,h1,rfl⟩:=map_some h;obtain⟨b,h3,h4⟩:=bind_some h1;simp only[execOp,ho];exact Es hs (yD h4 (IA x (by rw[ho];simp[Op.operands]) b h3))
 . rename_i t x ho
   split at h
   . rename_i v d h1 hd
     split at h;cases h
     . rename_i hi
       cases h;simp only[execOp,ho];refine Es hs ⟨.iface t (ρ x),?_,.E7 (IA x (by rw[ho];simp[Op.operands]) v h1)⟩;unfold Instr.makeInterface;rw[Sem.run_bind,run_underlying hd];cases d<;>first | rfl | (simp[isIface] at hi;done)
   cases h
 rename_i f first Mn ho
 split at h;rename_i b d h2 h3;cases h;simp only[execOp,ho];refine Es hs ⟨.func f (first.map ρ) (Mn.map ρ),rfl,?_⟩
 have:=Rp.fn (f:=f) (XC (ρ:=ρ) (λx hx=>IA x (by rw[ho];simp only[Op.operands,Array.mem_append];exact .inl (Array.mem_toList_iff.1 hx))) h2) (XC (ρ:=ρ) (λx hx=>IA x (by rw[ho];simp only[Op.operands,Array.mem_append];exact .inr (Array.mem_toList_iff.1 hx))) h3);rwa[show(first.toList.map ρ).toArray=first.map ρ from by apply Array.ext';simp,show(Mn.toList.map ρ).toArray=Mn.map ρ from by apply Array.ext';simp] at this
 cases h;rename_i t ho;cases h;simp only[execOp,ho];exact Nr (fN (P:=P) (t:=t) hs);rename_i t x y ho;split at h;rename_i b d h2 h3;obtain⟨v,h1,rfl⟩:=map_some h;simp only[execOp,ho];exact Nr (Y6 hs h1 (IA x (by rw[ho];simp[Op.operands]) b h2) (IA y (by rw[ho];simp[Op.operands]) d h3));cases h;rename_i t x lo hi mx ho;split at h;rename_i b l hh m h2 h3 h4 h5;obtain⟨v,h1,rfl⟩:=map_some h;simp only[execOp,ho];exact Es hs (tW h1 (IA x (by rw[ho];simp[Op.operands]) b h2) (mS (λy hy=>IA y (by rw[ho];simp only[Op.operands,Array.mem_append];exact .inl (.inl (.inr hy)))) h3) (mS (λy hy=>IA y (by rw[ho];simp only[Op.operands,Array.mem_append];exact .inl (.inr hy))) h4) (mS (λy hy=>IA y (by rw[ho];simp only[Op.operands,Array.mem_append];exact .inr hy)) h5));cases h;rename_i t x k ho;obtain⟨v,h1,rfl⟩:=map_some h;obtain⟨b,h2,h3⟩:=bind_some h1;simp only[execOp,ho];exact Es hs (fK h3 (IA x (by rw[ho];simp[Op.operands]) b h2));rename_i t x k ho;obtain⟨v,h1,rfl⟩:=map_some h;obtain⟨b,h2,h3⟩:=bind_some h1;simp only[execOp,ho];exact Es hs (tR h3 (IA x (by rw[ho];simp[Op.operands]) b h2) w);rename_i t x y ho;split at h;rename_i b d h2 h3;obtain⟨v,h1,rfl⟩:=map_some h;simp only[execOp,ho];exact Es hs (fL h1 (IA x (by rw[ho];simp[Op.operands]) b h2) (IA y (by rw[ho];simp[Op.operands]) d h3));cases h;rename_i t x y ho;split at h;rename_i b d h2 h3;obtain⟨v,h1,rfl⟩:=map_some h;simp only[execOp,ho];exact Es hs (tS h1 (IA x (by rw[ho];simp[Op.operands]) b h2) (IA y (by rw[ho];simp[Op.operands]) d h3) w);cases h;rename_i t x k ok ho;split at h;rename_i b d h2 h3;obtain⟨v,h1,rfl⟩:=map_some h;simp only[execOp,ho];exact Es hs (mD hs h1 (IA x (by rw[ho];simp[Op.operands]) b h2) (IA k (by rw[ho];simp[Op.operands]) d h3));cases h;rename_i t m k x ho;split at h;rename_i b d e h2 h3 h4;obtain⟨s',h1,rfl⟩:=map_some h;simp only[execOp,ho];exact R0 (Xi hs h1 (IA m (by rw[ho];simp[Op.operands]) b h2) (IA k (by rw[ho];simp[Op.operands]) d h3) (IA x (by rw[ho];simp[Op.operands]) e h4));cases h;rename_i t m k x ho;split at h;rename_i b d e h2 h3 h4;obtain⟨s',h1,rfl⟩:=map_some h;simp only[execOp,ho];exact R0 (Xi hs h1 (IA m (by rw[ho];simp[Op.operands]) b h2) (IA k (by rw[ho];simp[Op.operands]) d h3) (IA x (by rw[ho];simp[Op.operands]) e h4));cases h;rename_i t m k ho;split at h;rename_i b d h2 h3;obtain⟨v,h1,rfl⟩:=map_some h;simp only[execOp,ho];obtain⟨u,w',q1,q2⟩:=bI hs h1 (IA m (by rw[ho];simp[Op.operands]) b h2) (IA k (by rw[ho];simp[Op.operands]) d h3);exact Nr ⟨u,w',c,q1,q2⟩;cases h;rename_i t m st x ho;split at h;rename_i b d e h2 h3 h4;obtain⟨s',h1,rfl⟩:=map_some h;simp only[execOp,ho];exact R0 (Xe hs h1 (IA m (by rw[ho];simp[Op.operands]) b h2) (IA st (by rw[ho];simp[Op.operands]) d h3) (IA x (by rw[ho];simp[Op.operands]) e h4));cases h;rename_i x k ho;obtain⟨v,h1,rfl⟩:=map_some h;obtain⟨b,h2,h3⟩:=bind_some h1;simp only[execOp,ho];exact Es hs (fJ h3 (IA x (by rw[ho];simp[Op.operands]) b h2) w);rename_i cl ho;simp only[execOp,ho];exact yC hs (λx hx=>IA x (by rw[ho];exact hx)) h;rename_i x ho;split at h;rename_i t v h1;cases h;have hr:=IA x (by rw[ho];simp[Op.operands]) _ h1;simp only[execOp,ho];generalize ρ x=vx at hr;cases hr with
 | E7 q=>exact⟨_,by simp[Instr.panic],.E7 q⟩
 cases h;cases h
def mC{P:Program}{G:A6}{c:Cx}{w:World}{s:AS}{ρ:Operand->Value}{o:Oper}{e:TypeId}{z:AV}{id:Nat}(hs:St G c w s)(ho:o.op=.alloc e)(hz:LY P e=some z)(hid:c.CS[id]?=some none)(OV:s.get id=some (.cells (cellsOf z))) :
   ∃u w' c',(execOp ρ o).run P w=.ok (.value u) w'/\Mon c w c' w'/\St G c' w' s/\Rp c' w' (.ptr id 0) u/\(∀c0 w0,Ext c0 w0 c w->c0.CS.length<=id->Ext c0 w0 c' w')/\∀i,i≠id->c'.CS[i]?=c.CS[i]?:=by
 obtain⟨zv,qW,hzp⟩:=T8 hz c w w;obtain⟨v',w',c',h2,h3⟩:=tO (P:=P) (t:=e) hs hzp (Zx hz) hid OV;refine⟨v',w',c',?_,h3⟩;simp only[execOp,ho];simp only[Instr.box,Sem.run_bind] at h2;simp only[Instr.alloc,Sem.run_bind,qW,Result.andThen_ok];rw[h2];simp
end AI
namespace AI
open Go Go.RowKit
def Tl(acc:List Nat):List Edge->Nat
 | []=>0
 | e::es=>if Region.binds .any e then Tl acc es ||| 2 ^ e.on ||| acc.getD e.on 0 else Tl acc es
def Hz:List Oper->List Nat->List Nat
 | [],acc=>acc
 | o::os,acc=>Hz os (acc++[Tl acc o.after.toList])
def Met(L:Nat->Bool)(o:Oper):Prop:=∀e∈o.after,Region.binds .any e=true->L e.on=true
def Nh(ops:List Oper)(L:Nat->Bool):Prop:=∀i o,ops[i]?=some o->L i=true->Met L o
def vM{ops:List Oper}{L:Nat->Bool}(hc:Nh ops L){acc:List Nat}(hU:∀(j:Nat) m,acc[j]?=some m->∀o,ops[j]?=some o->∀i,m.testBit i=true->Met L o->L i=true)(hlen:acc.length<=ops.length)
   (es:List Edge) {i:Nat} (hb:(Tl acc es).testBit i=true) (hm:∀e∈es,Region.binds .any e=true->L e.on=true):L i=true:=by
 induction es with
 | nil=>simp[Tl] at hb
 | cons e es ih =>
   simp only[Tl] at hb;split at hb
   . rename_i hbe
     rw[Nat.testBit_or,Nat.testBit_or,Bool.or_eq_true,Bool.or_eq_true] at hb;have he:=hm e List.mem_cons_self hbe;rcases hb with (hb | hb) | hb
     exact ih hb (λe he=>hm e (List.mem_cons_of_mem _ he));rw[Nat.testBit_two_pow] at hb;have:e.on=i:=by simpa using hb
     rw[<- this];exact he
     . rw[List.getD_eq_getElem?_getD] at hb
       cases hg:acc[e.on]? with
       | none=>rw[hg] at hb;simp at hb
       | some m =>
         rw[hg] at hb;have hl:=(List.getElem?_eq_some_iff.1 hg).1;have ZQ:e.on < ops.length:=by omega
         exact hU e.on m hg ops[e.on] (List.getElem?_eq_getElem ZQ) i hb (hc e.on _ (List.getElem?_eq_getElem ZQ) he)
   exact ih hb (λe he=>hm e (List.mem_cons_of_mem _ he))
def aby{ops:List Oper}{L:Nat->Bool}(hc:Nh ops L):∀(os:List Oper) (acc:List Nat),(∀k,os[k]?=ops[acc.length+k]?)->acc.length<=ops.length->(∀(j:Nat) m,acc[j]?=some m->∀o,ops[j]?=some o->∀i,m.testBit i=true->Met L o->L i=true) ->
   ∀(j:Nat) m,(Hz os acc)[j]?=some m->∀o,ops[j]?=some o->∀i,m.testBit i=true->Met L o->L i=true:=by
 intro os
 induction os with
 | nil=>intro acc _ _ hU;exact hU
 | cons o os ih =>
   intro acc hk hl hU;have h0:ops[acc.length]?=some o:=by have:=hk 0;simpa using this.symm
   have GI:=(List.getElem?_eq_some_iff.1 h0).1;refine ih (acc++[Tl acc o.after.toList]) (λk=>?_) (by simp;omega) (λj m hj o' VQ i hb hm=>?_);have:=hk (k+1);simp only[List.getElem?_cons_succ] at this;rw[this];congr 1;simp;omega;by_cases hjl:j < acc.length;rw[List.getElem?_append_left hjl] at hj;exact hU j m hj o' VQ i hb hm;have ZQ:=(List.getElem?_eq_some_iff.1 hj).1;simp at ZQ;have:j=acc.length:=by omega
   subst this;rw[List.getElem?_concat_length] at hj;cases hj;rw[h0] at VQ;cases VQ;exact vM hc hU hl _ hb (λe he=>hm e (Array.mem_toList_iff.1 he))
def RZ(ms:List Nat)(j i:Nat):Bool:=(ms.getD j 0).testBit i
def Xv{ops:List Oper}{L:Nat->Bool}(hc:Nh ops L){j i:Nat}{o:Oper}(ho:ops[j]?=some o)(hm:Met L o)(hd:RZ (Hz ops []) j i=true):L i=true:=by
 unfold RZ at hd;rw[List.getD_eq_getElem?_getD] at hd;cases hg:(Hz ops [])[j]? with
 | none=>rw[hg] at hd;simp at hd
 | some m =>
   rw[hg] at hd;exact aby hc ops [] (λk=>by simp) (by simp) (λj m h=>by simp at h) j m hg o ho i hd hm
def quiet:Op->Bool
 | .move _ | .assign _ | .pick .. | .build .. | .buildSlice .. | .load .. | .nilCheck _ | .binOp .. | .unOp .. | .convert .. | .makeInterface .. | .makeFunc .. | .slice .. | .fieldAddr .. | .field .. | .indexAddr .. | .index .. | .lookup .. | .extract ..=>true
 | .call cl=>(match cl.callee with
   | .builtin .len | .builtin .max | .builtin .min=>true
   | _=>false)
 | _=>false
def BY:Op->Bool
 | .alloc _=>true
 | _=>false
def Km{op:Op}(h:BY op=true):∃e,op=.alloc e:=by
 unfold BY at h;split at h;exact⟨_,rfl⟩;cases h
def calm(op:Op):Bool:=match BY op with
 | true=>true
 | false=>quiet op
def Xt{op:Op}(h:quiet op=true):calm op=true:=by
 unfold calm;cases BY op;exact h;rfl
def Xs{op:Op}(h:calm op=true):quiet op=true\/∃e,op=.alloc e:=by
 unfold calm at h;cases ha:BY op with
 | true=>exact .inr (Km ha)
 | false=>rw[ha] at h;exact .inl h
def lY:List Oper->Nat->Nat
 | _,0=>0
 | [],_+1=>0
 | o::l,n+1=>(match BY o.op with | true=>1 | false=>0)+lY l n
def rk(ops:Array Oper)(i:Nat):Nat:=lY ops.toList i
def oM{l:List Oper}{i j:Nat}{o:Oper}(ho:l[i]?=some o)(ha:BY o.op=true)(h:i < j):lY l i < lY l j:=by
 induction l generalizing i j with
 | nil=>simp at ho
 | cons x l ih =>
   cases j with
   | zero=>omega
   | succ j =>
     cases i with
     | zero =>
       simp at ho;subst ho;simp only[lY,ha];omega
     | succ i =>
       have:=ih (i:=i) (j:=j) (by simpa using ho) (by omega)
       simp only[lY];omega
def aj8{ops:Array Oper}{i j:Nat}{x y:Oper}(hx:ops[i]?=some x)(hy:ops[j]?=some y)(hxa:BY x.op=true)(cM:BY y.op=true)(h:rk ops i=rk ops j):i=j:=by
 have Wh:ops.toList[i]?=some x:=by rw[Array.getElem?_toList];exact hx
 have hy':ops.toList[j]?=some y:=by rw[Array.getElem?_toList];exact hy
 unfold rk at h;rcases Nat.lt_trichotomy i j with GI | he | GI
 have:=oM Wh hxa GI;omega;exact he;have:=oM hy' cM GI;omega
def Pn(ops:Array Oper)(x y:Oper):Bool :=
 (!calm x.op&&!calm y.op) ||
 (match x.dst with
  | some d=>(y.looksAt ops).contains d||y.dst == some d
  | none=>false) ||
 (match y.dst with
  | some d=>(x.looksAt ops).contains d
  | none=>false)
def Yh(ops:Array Oper)(ms:List Nat)(j:Nat)(y:Oper):List Oper->Nat->Bool
 | [],_=>true
 | x::xs,i=>(if i < j then !Pn ops x y||RZ ms j i else true)&&Yh ops ms j y xs (i+1)
def WT(ops:Array Oper)(ms:List Nat):List Oper->Nat->Bool
 | [],_=>true
 | y::ys,j=>Yh ops ms j y ops.toList 0&&(y.after.toList.all λe=>!Region.binds .any e||decide (e.on < j))&&WT ops ms ys (j+1)
def L2(ops:Array Oper):Bool:=WT ops (Hz ops.toList []) ops.toList 0
def vT{ops:Array Oper}{ms:List Nat}{j:Nat}{y:Oper}:∀(xs:List Oper) (i:Nat),Yh ops ms j y xs i=true->∀k x,xs[k]?=some x->i+k < j->Pn ops x y=true->RZ ms j (i+k)=true:=by
 intro xs
 induction xs with
 | nil=>intro i _ k x hx;simp at hx
 | cons z xs ih =>
   intro i h k x hx GI Ih;simp only[Yh,Bool.and_eq_true] at h;cases k with
   | zero =>
     simp at hx;subst hx;rw[Nat.add_zero] at GI ⊢;have:=h.1;rw[if_pos GI,Ih] at this;simpa using this
   | succ k =>
     have:=ih (i+1) h.2 k x (by simpa using hx) (by omega) Ih
     rwa[show i+1+k=i+(k+1) from by omega] at this
def Yi{ops:Array Oper}{ms:List Nat}:∀(ys:List Oper) (j:Nat),WT ops ms ys j=true->∀k y,ys[k]?=some y->Yh ops ms (j+k) y ops.toList 0=true/\∀e∈y.after,Region.binds .any e=true->e.on < j+k:=by
 intro ys
 induction ys with
 | nil=>intro j _ k y hy;simp at hy
 | cons z ys ih =>
   intro j h k y hy;simp only[WT,Bool.and_eq_true] at h;cases k with
   | zero =>
     simp at hy;subst hy;refine⟨h.1.1,λe he hb=>?_⟩;have:=List.all_eq_true.1 h.1.2 e (Array.mem_toList_iff.2 he);rw[hb] at this;simpa using this
   | succ k =>
     have:=ih (j+1) h.2 k y (by simpa using hy)
     rwa[show j+1+k=j+(k+1) from by omega] at this
def Z3{ops:Array Oper}(h:L2 ops=true){i j:Nat}{x y:Oper}(hx:ops[i]?=some x)(hy:ops[j]?=some y)(GI:i < j)(hc:Pn ops x y=true):RZ (Hz ops.toList []) j i=true:=by
 have h1:=(Yi ops.toList 0 h j y (by rw[Array.getElem?_toList];exact hy)).1;rw[Nat.zero_add] at h1;have:=vT ops.toList 0 h1 i x (by rw[Array.getElem?_toList];exact hx) (by omega) hc;rwa[Nat.zero_add] at this
def jE{ops:Array Oper}(h:L2 ops=true){j:Nat}{y:Oper}(hy:ops[j]?=some y){e:Edge}(he:e∈y.after)(hb:Region.binds .any e=true):e.on < j:=by
 have:=(Yi ops.toList 0 h j y (by rw[Array.getElem?_toList];exact hy)).2 e he hb;omega
def Ir(fr:List AV)(dst:Option Tmp)(v:AV):List AV:=match dst with
 | some d=>fr.set d v
 | none=>fr
def Og{c:Cx}{w:World}{fr:List AV}{a:Act}{dst:Option Tmp}{v:AV}{u:Value}(h:CG c w fr a.tmps.toList)(hv:Rp c w v u):CG c w (Ir fr dst v) (a.put dst u).tmps.toList:=by
 cases dst with
 | none=>exact h
 | some d=>simp only[Ir,Act.put,Array.toList_setIfInBounds];exact h.set hv d
def Ii(f0:List AV)(dst:Nat->Option Tmp)(vals:Nat->AV)(L:Nat->Bool):Nat->List AV
 | 0=>f0
 | n+1=>if L n then Ir (Ii f0 dst vals L n) (dst n) (vals n) else Ii f0 dst vals L n
def Rg{fr:List AV}{dst:Option Tmp}{v:AV}{t:Nat}(h:dst≠some t):(Ir fr dst v)[t]?=fr[t]?:=by
 cases dst with
 | none=>rfl
 | some d=>exact List.getElem?_set_ne (λe=>h (by rw[e]))
def yG{fr:List AV}{dst:Option Tmp}{v:AV}:(Ir fr dst v).length=fr.length:=by cases dst<;>simp[Ir]
def Of{fr:List AV}{v:AV}{t:Nat}:(Ir fr (some t) v)[t]?=if t < fr.length then some v else none:=by simp[Ir,List.getElem?_set]
def WB(f0:List AV)(dst:Nat->Option Tmp)(vals:Nat->AV)(L:Nat->Bool)(n:Nat):(Ii f0 dst vals L n).length=f0.length:=by
 induction n with
 | zero=>rfl
 | succ n ih=>simp only[Ii];split<;>simp[yG,ih]
def XE{f0:List AV}{dst:Nat->Option Tmp}{vals:Nat->AV}{L M:Nat->Bool}{t:Nat}:∀(n:Nat),(∀i,i < n->dst i=some t->L i=M i)->(Ii f0 dst vals L n)[t]?=(Ii f0 dst vals M n)[t]?:=by
 intro n
 induction n with
 | zero=>intro _;rfl
 | succ n ih =>
   intro h;have ih:=ih (λi hi hd=>h i (by omega) hd);by_cases hd:dst n=some t;have:=h n (by omega) hd;simp only[Ii,this];split;rw[hd,Of,Of,WB,WB];exact ih
   have e:∀K:Nat->Bool,(Ii f0 dst vals K (n+1))[t]?=(Ii f0 dst vals K n)[t]?:=by
     intro K;simp only[Ii];split;exact Rg hd;rfl
   rw[e,e,ih]
def qE{f0:List AV}{dst:Nat->Option Tmp}{vals:Nat->AV}{L:Nat->Bool}{t j:Nat}:∀(n:Nat),j<=n->(∀i,j<=i->i < n->dst i=some t->L i=false)->(Ii f0 dst vals L n)[t]?=(Ii f0 dst vals L j)[t]?:=by
 intro n
 induction n with
 | zero=>intro hj _;have:j=0:=by omega
         subst this;rfl
 | succ n ih =>
   intro hj h;by_cases hn:j=n+1;subst hn;rfl;have ih:=ih (by omega) (λi h1 h2 hd=>h i h1 (by omega) hd);rw[<- ih];simp only[Ii];split;rename_i hL;by_cases hd:dst n=some t;have:=h n (by omega) (by omega) hd;rw[this] at hL;cases hL;exact Rg hd;rfl
end AI
