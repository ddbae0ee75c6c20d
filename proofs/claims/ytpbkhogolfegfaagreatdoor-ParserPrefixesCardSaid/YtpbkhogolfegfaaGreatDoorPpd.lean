/- Part of a proof: see the last text. -/
import Derived.Test.YtpbkhogolfegfaaGreatDoorPpc
import Derived.IntWalk
set_option linter.unusedVariables false
set_option linter.unusedSimpArgs false
set_option linter.defProp false
noncomputable section
namespace AI
open Go Go.RowKit
def Zs{P:Program}{G:Bc}{c:Cx}{w:World}{s s':AS}{t:TypeId}{l k r:AV}{vl vk:Value}(hs:St G c w s)(h:JE P s t l k=some (r,s'))(hl:Rp c w l vl)(hk:Rp c w k vk) :
   ∃u w' c',(Instr.makeSlice t vl vk).run P w=.ok u w'/\Ext c w c' w'/\St G c' w' s'/\Rp c' w' r u:=by
 unfold JE at h;split at h;rename_i elem hu;split at h;rename_i e n m he hn hm;split at h;rename_i z hz;split at h;rename_i zs zA;split at h;rename_i hc;cases h;obtain⟨rfl,h24,h48,hne⟩:=hc;obtain⟨k1,i1,rfl,h1,e1⟩:=Nl hn hl;obtain⟨k2,i2,rfl,h2,e2⟩:=Nl hm hk;have w1:IntKind.i64.wrap i1=i1:=IntWalk.i64_in _ (by omega);have w2:IntKind.i64.wrap i2=i2:=IntWalk.i64_in _ (by omega);have rX:CT c w zs z.cells.toList:=QJ zA c w;have hin:=mA rX (n*e.size) (λ_ hn=>by rw[hn] at hne;cases hne);simp only[Array.toArray_toList] at hin
 have acT:(Array.range (n*e.size)).map (λi=>z.cells[i % z.cells.size]!)=((List.range (n*e.size)).map λi=>z.cells[i % z.cells.size]!).toArray:=by
   apply Array.ext';simp
 obtain⟨x,st⟩:=hs.new (b:=.cells ((List.range (n*e.size)).map λi=>zs.getD (i % zs.length) (.sc undef))) (o:=.cells ((List.range (n*e.size)).map λi=>z.cells[i % z.cells.size]!).toArray elem (0,0)) (.cells hin);refine⟨.slice (some ⟨w.heap.size,0,none⟩) n n,_,_,?_,x,st,.msl (Nat.le_refl _) (by simp[hs.len])⟩
 have hb:¬281474976710656 < (e.bytes:Int)*i2:=by
   have e3:(e.bytes:Int)*i2=((n*e.bytes:Nat):Int):=by
     rw[show i2=(n:Int) from by omega,Int.natCast_mul,Int.mul_comm]
   rw[e3];generalize n*e.bytes=q at h48;omega
 have hn2:¬i2 < 0:=by omega
 have hn1:¬i1 < 0:=by omega
 have hle:¬i2 < i1:=by omega
 simp only[Instr.makeSlice,Sem.run_bind,run_underlying hu,Result.andThen_ok,asInt,asIntOf,Sem.run_pure,typeInfo,run_program,he,w1,w2,hn1,hn2,gt_iff_lt,show(2:Int) ^ 48=281474976710656 from rfl,hb,decide_false,Bool.or_false,hle,Bool.false_eq_true,if_false,run_askRoom,e2,C6 he,newRow,e1];split;rename_i h0;have hz0:Array.range 0=#[]:=rfl;simp[h0,hz0];simp only[Sem.run_bind,zeroValue,typeInfo,run_program,Result.andThen_ok,he,hz,Sem.run_pure,run_newObj,acT];cases h;cases h;cases h;cases h;cases h
def PI(P:Program)(s:AS)(t:TypeId)(x k:AV):Option (AV×AS) :=
 match P.underlying t with
 | some (.map kt et)=>match P.underlying kt,Y1 k,x with
   | some kd,some key,.mp id=>if plainKey kd=true then
       (match s.get id with
       | some (.map es cl)=>match XA kd key es 0 with
         | some (some (j,v))=>match es[j]? with
           | some e=>some (.CZ [v,.sc (.int .i64 e.2.2)],(s.put id (.map (es.set j (key,v,e.2.2)) cl)))
           | none=>none
         | some none=>match Mw P et with
           | some z=>some (.CZ [z,.sc (.int .i64 cl)],(s.put id (.map (es++[(key,z,cl)]) (cl+1))))
           | none=>none
         | none=>none
       | _=>none) else none
   | _,_,_=>none
 | _=>none
def bV{P:Program}{G:Bc}{c:Cx}{w:World}{s s':AS}{t:TypeId}{x k r:AV}{vx vk:Value}(hs:St G c w s)(h:PI P s t x k=some (r,s'))(hx:Rp c w x vx)(hk:Rp c w k vk) :
   ∃u w',(Instr.mapEntry t vx vk).run P w=.ok u w'/\Ext c w c w'/\St G c w' s'/\Rp c w' r u:=by
 unfold PI at h;split at h
 · rename_i kt et hu
   split at h
   · rename_i kd key id hkd adC
     have:=UZ adC hk;subst this;split at h
     · rename_i hp
       split at h
       · rename_i es cl hb
         cases hx with
         | @mp _ g hid =>
           obtain⟨fs,hw,he⟩:=Uo hs hid hb;split at h;rename_i j v hf;split at h;rename_i e hej;cases h;rcases PH he hf with ⟨h1,_⟩ | ⟨j',a',v',e',f,h1,h2,h3,h4,h5,h6,h7,h8,h9,h10⟩
           cases h1;injection h1 with h1
           injection h1 with h1 h1'
           rw[Nat.zero_add] at h1;subst h1 h1';rw[hej] at h4;cases h4;rw[Nat.zero_add] at h2;have adE:fs.toArray.modify j (λe=>{ e with key:=vk })=(fs.set j ⟨vk,v',e.2.2⟩).toArray:=TF h5 (by rw[<- h9,<- h7])
           obtain⟨x1,st⟩:=hs.put (b:=.map (es.set j (vk,v,e.2.2)) cl) (o:=.map (fs.set j ⟨vk,v',e.2.2⟩).toArray cl) hid (Ut w g _) (UR w hw) (.map (he.set h3 j));refine⟨.tuple #[v',.int .i64 e.2.2],_,?_,x1,st,.CZ (vs:=[v',.int .i64 e.2.2]) (.cons (h3.mono x1) (.cons (.sc rfl) .nil))⟩;have acW:=YU h10;have yW:=run_findKey (P:=P) hkd h2 w;simp only[Instr.mapEntry,Sem.run_bind,run_underlying hu,Result.andThen_ok,JV hw,run_checkKey _ hkd hp,yW,List.getElem?_toArray,h5,Option.map_some,Option.getD_some,h8,h9,Instr.keyThatStays,acW,if_true,Sem.run_pure,adE,Oo _ hw,goInt];cases h;rename_i hf;split at h;rename_i z hz;cases h;rcases PH he hf with ⟨_,h2⟩ | ⟨j',a',v',e',f,h1,_⟩
           obtain⟨zv,rX,hzp⟩:=Um hz c w w;obtain⟨x1,st⟩:=hs.put (b:=.map (es++[(vk,z,cl)]) (cl+1)) (o:=.map (fs++[(⟨vk,zv,cl⟩:MapEntry)]).toArray (cl+1)) hid (Ut w g _) (UR w hw) (.map (he.snoc hzp));refine⟨.tuple #[zv,.int .i64 cl],_,?_,x1,st,.CZ (vs:=[zv,.int .i64 cl]) (.cons (hzp.mono x1) (.cons (.sc rfl) .nil))⟩;have yW:=run_findKey (P:=P) hkd h2 w;have adG:fs.toArray.push (⟨vk,zv,cl⟩:MapEntry)=(fs++[(⟨vk,zv,cl⟩:MapEntry)]).toArray:=by simp
           simp only[Instr.mapEntry,Sem.run_bind,run_underlying hu,Result.andThen_ok,JV hw,run_checkKey _ hkd hp,yW,rX,adG,Oo _ hw,Sem.run_pure,goInt];cases h1;cases h;cases h
       cases h
     cases h
   cases h
 cases h
def fT(b:Int):List (Value×AV×Nat)->Nat->Option Nat
 | [],_=>none
 | e::es,i=>if (e.2.2:Int) == b then some i else fT b es (i+1)
def zT{c:Cx}{w:World}{b:Int}{es:List (Value×AV×Nat)}{fs:List MapEntry}(h:KL c w es fs):fs.findIdx? (λe=>(e.born:Int) == b)=fT b es 0:=by
 have key:∀(es:List (Value×AV×Nat)) (fs:List MapEntry) (i:Nat),KL c w es fs->fT b es i=(fs.findIdx? (λe=>(e.born:Int) == b)).map (·+i):=by
   intro es fs i h
   induction h generalizing i with
   | nil=>rfl
   | cons _ _ ih =>
     simp only[fT,List.findIdx?_cons];split;simp;rw[ih,Option.map_map];congr 1;funext x;simp;omega
 rw[key es fs 0 h];simp
def Mv(s:AS)(x st v:AV):Option AS :=
 match x,st with
 | .mp id,.sc (.int _ b)=>match s.get id with
   | some (.map es cl)=>match fT b es 0 with
     | some j=>match es[j]? with
       | some e=>some (s.put id (.map (es.set j (e.1,v,e.2.2)) cl))
       | none=>none
     | none=>none
   | _=>none
 | _,_=>none
def KL.get{c:Cx}{w:World}{es:List (Value×AV×Nat)}{fs:List MapEntry}(h:KL c w es fs){j:Nat}{e:Value×AV×Nat}(he:es[j]?=some e):∃f,fs[j]?=some f/\f.key=e.1/\f.born=e.2.2:=by
 induction h generalizing j with
 | nil=>simp at he
 | cons h1 _ ih =>
   cases j with
   | zero=>simp at he;subst he;exact⟨_,rfl,rfl,rfl⟩
   | succ j=>simpa using ih (by simpa using he)
def Xx{P:Program}{G:Bc}{c:Cx}{w:World}{s s':AS}{t:TypeId}{x st v:AV}{vx vs vv:Value}(hs:St G c w s)(h:Mv s x st v=some s')(hx:Rp c w x vx)(Gt:Rp c w st vs)(hv:Rp c w v vv) :
   ∃w',(Instr.entryStore t vx vs vv).run P w=.ok () w'/\Ext c w c w'/\St G c w' s':=by
 unfold Mv at h;split at h
 · rename_i id k b
   split at h
   · rename_i es cl hb
     split at h
     · rename_i j hj
       split at h
       · rename_i e hej
         cases h;cases Gt;cases hx with
         | @mp _ g hid =>
           obtain⟨fs,hw,he⟩:=Uo hs hid hb;obtain⟨f,hf,yW,hfb⟩:=he.get hej;have adE:fs.toArray.modify j (λe=>{ e with val:=vv })=(fs.set j ⟨e.1,vv,e.2.2⟩).toArray:=TF hf (by rw[<- yW,<- hfb])
           obtain⟨x1,st⟩:=hs.put (b:=.map (es.set j (e.1,v,e.2.2)) cl) (o:=.map (fs.set j ⟨e.1,vv,e.2.2⟩).toArray cl) hid (Ut w g _) (UR w hw) (.map (he.set hv j));refine⟨_,?_,x1,st⟩
           have yU:fs.toArray.findIdx? (λe=>(e.born:Int) == b)=some j:=by
             rw[List.findIdx?_toArray,zT he,hj]
           simp only[Instr.entryStore,Sem.run_bind,Result.andThen_ok,JV hw,asInt,asIntOf,Sem.run_pure,yU,adE];exact Oo _ hw
       cases h
     cases h
   cases h
 cases h
end AI
namespace AI
open Go Go.RowKit
def byteOf:AV->Option UInt8
 | .sc (.int .u8 n)=>some (UInt8.ofNat n.toNat)
 | _=>none
def bytesOf:List AV->Option (List UInt8)
 | []=>some []
 | a::l=>match byteOf a,bytesOf l with
   | some b,some m=>some (b::m)
   | _,_=>none
def VX(P:Program)(src dst:TypeId):AV->Option AV
 | .sc v=>VY P (convert src dst v)
 | .sl _ n cs=>match P.underlying src,P.underlying dst with
   | some (.slice e),some .string=>(match P.underlying e with
     | some (.int .u8)=>if n=cs.length then (bytesOf cs).map λl=>.sc (.string ⟨l.toArray⟩) else none
     | _=>none)
   | _,_=>none
 | _=>none
def vC{c:Cx}{w:World}{a:AV}{b:UInt8}{v:Value}(h:byteOf a=some b)(hr:Rp c w a v):∃n,v=.int .u8 n/\UInt8.ofNat n.toNat=b:=by
 unfold byteOf at h;split at h;cases h;cases hr;exact⟨_,rfl,rfl⟩;cases h
def tA(s:ByteArray)(l:List UInt8):ByteArray:=l.foldl ByteArray.push s
def jR:∀(l:List UInt8) (s:ByteArray),tA s l=⟨s.data++l.toArray⟩
 | [],s=>by simp[tA]
 | b::l,s=>by
   have:=jR l (s.push b);unfold tA at this ⊢;rw[List.foldl_cons,this];simp[ByteArray.push]
def XL{P:Program}{c:Cx}{w w0:World}:∀{cs:List AV} {vs:List Value} {l:List UInt8} (s:ByteArray),CT c w cs vs->bytesOf cs=some l ->
   (forIn vs s λ(x:Value) (s:ByteArray)=>(match x with
     | .int .u8 n=>(pure (ForInStep.yield (s.push (UInt8.ofNat n.toNat))):Sem (ForInStep ByteArray))
     | _=>((λ_=>ForInStep.yield s) <$> (stuck "bytesToString: byte expected":Sem PUnit):Sem (ForInStep ByteArray)))).run P w0=.ok (tA s l) w0
 | [],_,_,s,h,hb=>by cases h;cases hb;rfl
 | a::cs,_,l,s,h,hb=>by
   cases h with
   | cons h1 t =>
     simp only[bytesOf] at hb;split at hb;rename_i b m h2 h3;cases hb;obtain⟨n,rfl,rfl⟩:=vC h2 h1;have:=XL (P:=P) (w0:=w0) (s.push (UInt8.ofNat n.toNat)) t h3;simp only[List.forIn_cons,Sem.run_bind,Sem.run_pure,Result.andThen_ok];exact this;cases hb
def zX{P:Program}{c:Cx}{w:World}{src dst:TypeId}{a r:AV}{v:Value}(h:VX P src dst a=some r)(hr:Rp c w a v):∃u,(convert src dst v).run P w=.ok u w/\Rp c w r u:=by
 unfold VX at h;split at h;cases hr;obtain⟨z,h1,h2⟩:=Uk h c w w;exact⟨z,h1,h2⟩
 · rename_i own n cs
   split at h
   · rename_i e hs hd
     split at h
     · rename_i he
       split at h
       · rename_i hn
         obtain⟨l,hb,rfl⟩:=Option.map_eq_some_iff.1 h;refine⟨.string ⟨l.toArray⟩,?_,.sc rfl⟩;unfold convert;cases hr with
         | @sl0 _ A cap h0 =>
           cases hb;cases A<;>simp[Sem.run_bind,run_underlying hs,run_underlying hd,run_underlying he,Conv.bytesToString,loadCells,loadCellsFrom]<;>rfl
         | @M4 _ _ cap g o _ hn' hc ho =>
           obtain⟨vs,hvs,Nr⟩:=hc.vals;have hlen:=hvs.len;have hld:=run_loadCells_list (P:=P) w ⟨g,o,none⟩ vs (λj v hj=>by rw[add_lit];exact(Nr j v hj).2.2);rw[hlen,<- hn] at hld;have hlp:=XL (P:=P) (w0:=w) ByteArray.empty hvs hb;rw[jR] at hlp;simp[Sem.run_bind,run_underlying hs,run_underlying hd,run_underlying he,Conv.bytesToString,hld];refine(congrArg (λr=>r.andThen λ(a:ByteArray) w'=>Result.ok (Value.string a) w') hlp).trans ?_;simp[ByteArray.empty,ByteArray.emptyWithCapacity];rfl
       cases h
     cases h
   cases h
 cases h
end AI
namespace AI
open Go Go.RowKit
def Bg(G:Bc)(fr:List AV):Operand->Option AV
 | .tmp t=>some (fr.getD t (.sc undef))
 | .const v=>Wg v
 | .global g=>(G g).map .el
 | .func f=>some (.fn (.func f) [] [])
def Gf{G:Bc}{c:Cx}{w:World}{s:AS}{fr:List AV}{a:Act}{x:Operand}{v:AV}(hs:St G c w s)(hf:CT c w fr a.tmps.toList)(h:Bg G fr x=some v):Rp c w v (a.eval x):=by
 cases x with
 | tmp t =>
   simp only[Bg,Option.some.injEq] at h;subst h;simp only[Act.eval];rw[List.getD_eq_getElem?_getD];cases hg:fr[t]? with
   | some b =>
     obtain⟨u,hu,hr⟩:=hf.get hg;rw[Array.getElem?_toList] at hu;simp[hu,hr]
   | none =>
     have hl:=hf.len;have h1:=List.getElem?_eq_none_iff.1 hg;have h2:a.tmps[t]?=none:=Array.getElem?_eq_none (by rw[<- Array.length_toList];omega);simp only[Array.getD_eq_getD_getElem?,h2,Option.getD_none];exact .sc rfl
 | const v=>exact jE h c w
 | global g =>
   simp only[Bg] at h;cases hg:G g with
   | none=>rw[hg] at h;cases h
   | some cs=>rw[hg] at h;cases h;exact .el (hs.Ph g cs hg)
 | func f=>simp only[Bg,Option.some.injEq] at h;subst h;exact .fn (us:=[]) (vs:=[]) .nil .nil
def Zu(G:Bc)(fr:List AV):List Operand->Option (List AV)
 | []=>some []
 | x::xs=>match Bg G fr x,Zu G fr xs with
   | some a,some as=>some (a::as)
   | _,_=>none
abbrev Zq(G:Bc)(c:Cx)(w:World)(fr:List AV)(ρ:Operand->Value)(x:Operand):Prop:=∀v,Bg G fr x=some v->Rp c w v (ρ x)
def X0{G:Bc}{c:Cx}{w:World}{fr:List AV}{ρ:Operand->Value}{xs:List Operand}{vs:List AV}(IY:∀x∈xs,Zq G c w fr ρ x)(h:Zu G fr xs=some vs):CT c w vs (xs.map ρ):=by
 induction xs generalizing vs with
 | nil=>simp[Zu] at h;subst h;exact .nil
 | cons x xs ih =>
   simp only[Zu] at h;split at h;rename_i b bs h1 h2;cases h;exact .cons (IY x List.mem_cons_self b h1) (ih (λy hy=>IY y (List.mem_cons_of_mem _ hy)) h2);cases h
def Mf(G:Bc)(fr:List AV):List (Nat×Operand)->Option (List (Nat×AV))
 | []=>some []
 | x::xs=>match Bg G fr x.2,Mf G fr xs with
   | some a,some as=>some ((x.1,a)::as)
   | _,_=>none
def XZ{G:Bc}{c:Cx}{w:World}{fr:List AV}{ρ:Operand->Value}{xs:List (Nat×Operand)}{vs:List (Nat×AV)}(IY:∀x∈xs,Zq G c w fr ρ x.2)(h:Mf G fr xs=some vs):PL c w vs (xs.map λx=>(x.1,ρ x.2)):=by
 induction xs generalizing vs with
 | nil=>simp[Mf] at h;subst h;exact .nil
 | cons x xs ih =>
   simp only[Mf] at h;split at h;rename_i b bs h1 h2;cases h;exact .cons (IY x List.mem_cons_self b h1) (ih (λy hy=>IY y (List.mem_cons_of_mem _ hy)) h2);cases h
def fO(G:Bc)(fr:List AV):Option Operand->Option (Option AV)
 | none=>some none
 | some x=>(Bg G fr x).map some
def nG{G:Bc}{c:Cx}{w:World}{fr:List AV}{ρ:Operand->Value}{x:Option Operand}{v:Option AV}(IY:∀y∈x.toArray,Zq G c w fr ρ y)(h:fO G fr x=some v):RO c w v (x.map ρ):=by
 cases x with
 | none=>simp[fO] at h;subst h;exact .none
 | some x =>
   simp only[fO] at h;cases hx:Bg G fr x with
   | none=>rw[hx] at h;cases h
   | some b=>rw[hx] at h;cases h;exact .some (IY x (by simp) b hx)
inductive AR where
 | val (v:AV) (s:AS)
 | ent (f:FuncId) (args:List AV)
 | pan (v:AV)
def Mx(P:Program)(g:FuncId):Bool:=match P.funcs[g]? with
 | some fn=>fn.name != "runtime.NumGoroutine"&&fn.body.isSome
 | none=>false
def notNil:AV->Bool
 | .ptr _ _ | .el _=>true
 | .fn (.func _) _ _=>true
 | _=>false
def isIface:TypeDesc->Bool
 | .interface _=>true
 | _=>false
def S4(P:Program)(G:Bc)(fr:List AV)(s:AS)(o:Oper)(cl:Call):Option AR :=
 match cl.callee with
 | .builtin .len=>match cl.args.toList,cl.argTypes.toList with
   | [x],[t]=>((Bg G fr x).bind (Wq P s t)).map λv=>.val v s
   | _,_=>none
 | .builtin .append=>match cl.args.toList,cl.argTypes.toList with
   | [x,y],[t,tx]=>match Bg G fr x,Bg G fr y with
     | some a,some b=>(Mc P s t tx a b).map λr=>.val r.1 r.2
     | _,_=>none
   | _,_=>none
 | .builtin .max=>((Zu G fr cl.args.toList).bind O4).bind λvs=>(VY P (Builtin.max_ cl.argTypes o.type vs.toArray)).map λv=>.val v s
 | .builtin .min=>((Zu G fr cl.args.toList).bind O4).bind λvs=>(VY P (Builtin.min_ cl.argTypes o.type vs.toArray)).map λv=>.val v s
 | .value f=>match Bg G fr f,Zu G fr cl.args.toList with
   | some (.fn (.func g) first caps),some as=>if Mx P g=true then some (.ent g (first++as++caps)) else none
   | _,_=>none
 | _=>none
def Qo(P:Program)(G:Bc)(fr:List AV)(s:AS)(o:Oper):Option AR :=
 match o.op with
 | .move x=>(Bg G fr x).map λv=>.val v s
 | .assign x=>(Bg G fr x).map λv=>.val v s
 | .pick c a b=>match Bg G fr c with
   | some (.sc (.bool t))=>(if t then Bg G fr a else Bg G fr b).map λv=>.val v s
   | _=>none
 | .alloc e=>(Mw P e).map λz=>.val (.ptr s.nx 0) (s.new (.cells (cellsOf z)))
 | .box _ x=>(Bg G fr x).bind λz=>match R0 z with
   | true=>none
   | false=>some (.val (.ptr s.nx 0) (s.new (.cells (cellsOf z))))
 | .build t ps=>((Mf G fr ps.toList).bind (Xv P t)).map λv=>.val v s
 | .buildSlice t n ps=>((Mf G fr ps.toList).bind (Mu P t n)).map λv=>.val v s
 | .load t a=>((Bg G fr a).bind (KY P s t)).map λv=>.val v s
 | .store t a x=>match Bg G fr a,Bg G fr x with
   | some a,some x=>(L2 P s t a x).map λs'=>.val (.sc undef) s'
   | _,_=>none
 | .nilCheck x=>match Bg G fr x with
   | some v=>if notNil v=true then some (.val v s) else none
   | none=>none
 | .binOp op t x y _=>match Bg G fr x,Bg G fr y with
   | some a,some b=>(Ll P op t x y a b).map λv=>.val v s
   | _,_=>none
 | .unOp op _ x=>((Bg G fr x).bind Y1).bind λv=>(VY P (Op.unary op v)).map λv=>.val v s
 | .convert src dst x=>((Bg G fr x).bind λa=>VX P src dst a).map λv=>.val v s
 | .makeInterface t x=>match Bg G fr x,P.underlying t with
   | some v,some d=>if isIface d=true then none else some (.val (.ifc t v) s)
   | _,_=>none
 | .makeFunc f first caps=>match Zu G fr first.toList,Zu G fr caps.toList with
   | some a,some b=>some (.val (.fn f a b) s)
   | _,_=>none
 | .makeMap _ none=>some (.val (.mp s.nx) (s.new (.map [] 0)))
 | .makeSlice t l c=>match Bg G fr l,Bg G fr c with
   | some a,some b=>(JE P s t a b).map λr=>.val r.1 r.2
   | _,_=>none
 | .slice t x lo hi mx=>match Bg G fr x,fO G fr lo,fO G fr hi,fO G fr mx with
   | some a,some l,some h,some m=>(KN P t a l h m).map λv=>.val v s
   | _,_,_,_=>none
 | .fieldAddr t x k=>((Bg G fr x).bind λa=>RH P t a k).map λv=>.val v s
 | .field t x k=>((Bg G fr x).bind λa=>Xy P t a k).map λv=>.val v s
 | .indexAddr t x i=>match Bg G fr x,Bg G fr i with
   | some a,some b=>(Dz P t a b).map λv=>.val v s
   | _,_=>none
 | .index t x i=>match Bg G fr x,Bg G fr i with
   | some a,some b=>(Lm P t a b).map λv=>.val v s
   | _,_=>none
 | .lookup t x k ok=>match Bg G fr x,Bg G fr k with
   | some a,some b=>(Ji P s t a b ok).map λv=>.val v s
   | _,_=>none
 | .mapUpdate t m k x=>match Bg G fr m,Bg G fr k,Bg G fr x with
   | some a,some b,some v=>(KF P s t a b v).map λs'=>.val (.sc undef) s'
   | _,_,_=>none
 | .insert t m k x=>match Bg G fr m,Bg G fr k,Bg G fr x with
   | some a,some b,some v=>(KF P s t a b v).map λs'=>.val (.sc undef) s'
   | _,_,_=>none
 | .mapEntry t m k=>match Bg G fr m,Bg G fr k with
   | some a,some b=>(PI P s t a b).map λr=>.val r.1 r.2
   | _,_=>none
 | .entryStore _ m st x=>match Bg G fr m,Bg G fr st,Bg G fr x with
   | some a,some b,some v=>(Mv s a b v).map λs'=>.val (.sc undef) s'
   | _,_,_=>none
 | .extract x k=>((Bg G fr x).bind λa=>RG a k).map λv=>.val v s
 | .call cl=>S4 P G fr s o cl
 | .panic x=>match Bg G fr x with
   | some (.ifc t v)=>some (.pan (.ifc t v))
   | _=>none
 | _=>none
def Xr(_P:Program)(G:Bc)(c:Cx)(w:World)(r:Result Next):AR->Prop
 | .val v s'=>∃u w' c',(r=.ok (.value u) w'\/(r=.ok .skip w'/\u=undef))/\Ext c w c' w'/\St G c' w' s'/\Rp c' w' v u
 | .ent f args=>∃vs,r=.ok (.enter f vs.toArray) w/\CT c w args vs
 | .pan v=>∃u,r=.halt (.panic u) w/\Rp c w v u
def EA{P:Program}{G:Bc}{c:Cx}{w:World}{s:AS}{v:AV}{m:Sem Value}(hs:St G c w s)(h:∃u,m.run P w=.ok u w/\Rp c w v u):Xr P G c w ((do pure (Next.value (<- m)):Sem Next).run P w) (.val v s):=by
 obtain⟨u,h1,h2⟩:=h;exact⟨u,w,c,.inl (by simp[h1]),Ext.refl c w,hs,h2⟩
def NT{P:Program}{G:Bc}{c:Cx}{w:World}{s':AS}{v:AV}{m:Sem Value}(h:∃u w' c',m.run P w=.ok u w'/\Ext c w c' w'/\St G c' w' s'/\Rp c' w' v u):Xr P G c w ((do pure (Next.value (<- m)):Sem Next).run P w) (.val v s'):=by
 obtain⟨u,w',c',h1,h2⟩:=h;exact⟨u,w',c',.inl (by simp[h1]),h2⟩
def Su{P:Program}{G:Bc}{c:Cx}{w:World}{s':AS}{m:Sem Unit}(h:∃w',m.run P w=.ok () w'/\Ext c w c w'/\St G c w' s'):Xr P G c w ((do m;pure Next.skip:Sem Next).run P w) (.val (.sc undef) s'):=by
 obtain⟨w',h1,h2,h3⟩:=h;exact⟨undef,w',c,.inr ⟨by simp[h1],rfl⟩,h2,h3,.sc rfl⟩
def map_some{α β:Type}{o:Option α}{f:α->β}{b:β}(h:o.map f=some b):∃a,o=some a/\f a=b:=by
 cases o with
 | none=>cases h
 | some a=>exact⟨a,rfl,by simpa using h⟩
def bind_some{α β:Type}{o:Option α}{f:α->Option β}{b:β}(h:o.bind f=some b):∃a,o=some a/\f a=some b:=by
 cases o with
 | none=>cases h
 | some a=>exact⟨a,rfl,by simpa using h⟩
end AI
namespace AI
open Go Go.RowKit
def RU{P:Program}{g:FuncId}(h:Mx P g=true)(args:Array Value)(w:World):(callFunc g args).run P w=.ok (.enter g args) w:=by
 unfold Mx at h;split at h;rename_i fn hf;simp only[Bool.and_eq_true,bne_iff_ne,ne_eq] at h;obtain⟨b,hb⟩:=Option.isSome_iff_exists.1 h.2;simp[callFunc,hf,h.1,hb];cases h
def zV{P:Program}{G:Bc}{c:Cx}{w:World}{s:AS}{fr:List AV}{ρ:Operand->Value}{o:Oper}{cl:Call}{r:AR}(hs:St G c w s)(IY:∀x∈cl.operands,Zq G c w fr ρ x)(h:S4 P G fr s o cl=some r) :
   Xr P G c w ((do let d <- resolve ρ cl o.type;invoke d.target d.args:Sem Next).run P w) r:=by
 have IC:∀x∈cl.args.toList,Zq G c w fr ρ x:=λx hx=>IY x (by simp only[Call.operands,Array.mem_append];exact .inr (Array.mem_toList_iff.1 hx));unfold S4 at h;split at h;rename_i Iy;split at h;rename_i x t hx ht;obtain⟨v,h1,rfl⟩:=map_some h;obtain⟨b,h2,h3⟩:=bind_some h1;have e1:cl.args=#[x]:=by apply Array.ext';rw[hx]
 have e2:cl.argTypes=#[t]:=by apply Array.ext';rw[ht]
 have:=EA hs (akK (ty:=o.type) hs h3 (IC x (by rw[hx];simp) _ h2));simpa[resolve,Iy,e1,e2,invoke,builtin] using this
 cases h;rename_i Iy;split at h;rename_i x y t tx hx ht;split at h;rename_i b d h2 h3;obtain⟨v,h1,rfl⟩:=map_some h;have e1:cl.args=#[x,y]:=by apply Array.ext';rw[hx]
 have e2:cl.argTypes=#[t,tx]:=by apply Array.ext';rw[ht]
 have:=NT (mN (ty:=o.type) hs h1 (IC x (by rw[hx];simp) _ h2) (IC y (by rw[hx];simp) _ h3));simpa[resolve,Iy,e1,e2,invoke,builtin] using this
 cases h;cases h;rename_i Iy;obtain⟨vs,h1,h2⟩:=bind_some h;obtain⟨v,h3,rfl⟩:=map_some h2;obtain⟨as,h4,h5⟩:=bind_some h1;have e:=Y2 h5 (X0 IC h4);have e1:cl.args.map ρ=vs.toArray:=by apply Array.ext';rw[<- e];simp
 have:=EA hs (Uk h3 c w w);simpa[resolve,Iy,e1,invoke,builtin] using this
 rename_i Iy;obtain⟨vs,h1,h2⟩:=bind_some h;obtain⟨v,h3,rfl⟩:=map_some h2;obtain⟨as,h4,h5⟩:=bind_some h1;have e:=Y2 h5 (X0 IC h4);have e1:cl.args.map ρ=vs.toArray:=by apply Array.ext';rw[<- e];simp
 have:=EA hs (Uk h3 c w w);simpa[resolve,Iy,e1,invoke,builtin] using this
 · rename_i f Iy
   split at h
   · rename_i g first caps as h1 h2
     split at h
     · rename_i hc
       cases h;have hr:=IY f (by simp[Call.operands,Iy]) _ h1;have IC:=X0 IC h2;generalize hv:ρ f=v at hr;cases hr with
       | @fn _ _ _ us vs q1 q2 =>
         refine⟨us++cl.args.toList.map ρ++vs,?_,(q1.append IC).append q2⟩
         have e3:(us++cl.args.toList.map ρ++vs).toArray=us.toArray++Array.map ρ cl.args++vs.toArray:=by
           apply Array.ext';simp
         rw[e3];simp only[resolve,Iy,hv,Sem.run_bind,Deferred.ofValue,Sem.run_pure,Result.andThen_ok,invoke,RU hc]
     cases h
   cases h
 cases h
def bY{P:Program}{G:Bc}{c:Cx}{w:World}{s:AS}{fr:List AV}{ρ:Operand->Value}{o:Oper}{r:AR}(hs:St G c w s)(IY:∀x∈o.op.operands,Zq G c w fr ρ x)(hρ:∀k,ρ (.const k)=k)(h:Qo P G fr s o=some r) :
   Xr P G c w ((execOp ρ o).run P w) r:=by
 unfold Qo at h;split at h;rename_i x ho;obtain⟨v,h1,rfl⟩:=map_some h;simp only[execOp,ho];exact⟨_,w,c,.inl rfl,Ext.refl c w,hs,IY x (by rw[ho];simp[Op.operands]) v h1⟩;rename_i x ho;obtain⟨v,h1,rfl⟩:=map_some h;simp only[execOp,ho];exact⟨_,w,c,.inl rfl,Ext.refl c w,hs,IY x (by rw[ho];simp[Op.operands]) v h1⟩;rename_i x y z ho;split at h;rename_i t hc;obtain⟨v,h1,rfl⟩:=map_some h;have hb:=IY x (by rw[ho];simp[Op.operands]) _ hc;generalize hv:ρ x=vx at hb;cases hb;simp only[execOp,ho,hv];refine⟨if t then ρ y else ρ z,w,c,.inl (by simp[asBool]),Ext.refl c w,hs,?_⟩
 cases t;exact IY z (by rw[ho];simp[Op.operands]) v h1;exact IY y (by rw[ho];simp[Op.operands]) v h1;cases h;rename_i e ho;obtain⟨z,h1,rfl⟩:=map_some h;obtain⟨zv,rX,hzp⟩:=Um h1 c w w;obtain⟨v',w',c',h2,h3⟩:=qM (P:=P) (t:=e) hs hzp (ZO h1);simp only[execOp,ho];refine NT ⟨v',w',c',?_,h3⟩;simp only[Instr.box,Sem.run_bind] at h2;simp only[Instr.alloc,Sem.run_bind,rX,Result.andThen_ok];exact h2;rename_i e x ho;obtain⟨z,h1,h⟩:=bind_some h;split at h;cases h;rename_i hz;cases h;simp only[execOp,ho];exact NT (qM (P:=P) (t:=e) hs (IY x (by rw[ho];simp[Op.operands]) z h1) hz);rename_i t ps ho;obtain⟨v,h1,rfl⟩:=map_some h;obtain⟨qs,h2,h3⟩:=bind_some h1;simp only[execOp,ho];refine EA hs (uM (qs:=ps.map λx=>(x.1,ρ x.2)) h3 (by simpa using XZ (ρ:=ρ) (λx hx=>IY x.2 (by rw[ho];simp only[Op.operands,List.mem_toArray,List.mem_map];exact⟨x,hx,rfl⟩)) h2) w)
 rename_i t n ps ho;obtain⟨v,h1,rfl⟩:=map_some h;obtain⟨qs,h2,h3⟩:=bind_some h1;simp only[execOp,ho];obtain⟨u,w',q1,q2⟩:=Xw (qs:=ps.map λx=>(x.1,ρ x.2)) hs h3 (by simpa using XZ (ρ:=ρ) (λx hx=>IY x.2 (by rw[ho];simp only[Op.operands,List.mem_toArray,List.mem_map];exact⟨x,hx,rfl⟩)) h2)
 exact NT ⟨u,w',c,q1,q2⟩;rename_i t x ho;obtain⟨v,h1,rfl⟩:=map_some h;obtain⟨b,h2,h3⟩:=bind_some h1;simp only[execOp,ho];exact EA hs (fX hs h3 (IY x (by rw[ho];simp[Op.operands]) b h2));rename_i t x y ho;split at h;rename_i b d h2 h3;obtain⟨s',h1,rfl⟩:=map_some h;simp only[execOp,ho];exact Su (uU hs h1 (IY x (by rw[ho];simp[Op.operands]) b h2) (IY y (by rw[ho];simp[Op.operands]) d h3));cases h
 · rename_i x ho
   split at h
   · rename_i v h1
     split at h
     · rename_i hn
       cases h;have hr:=IY x (by rw[ho];simp[Op.operands]) v h1;simp only[execOp,ho];generalize ρ x=vx at hr;cases hr with
       | ptr q=>exact⟨_,w,c,.inl rfl,Ext.refl c w,hs,.ptr q⟩
       | el q=>exact⟨_,w,c,.inl rfl,Ext.refl c w,hs,.el q⟩
       | @fn f _ _ us vs q1 q2 =>
         cases f with
         | func g=>exact⟨_,w,c,.inl rfl,Ext.refl c w,hs,.fn q1 q2⟩
         | _=>simp[notNil] at hn
       | _=>simp[notNil] at hn
     cases h
   cases h
 rename_i op t x y yt ho;split at h;rename_i b d h2 h3;obtain⟨v,h1,rfl⟩:=map_some h;simp only[execOp,ho];exact EA hs (akI h1 (IY x (by rw[ho];simp[Op.operands]) b h2) (IY y (by rw[ho];simp[Op.operands]) d h3) (λk hk=>by rw[hk];exact hρ k) w);cases h;rename_i op t x ho;obtain⟨v,h1,h2⟩:=bind_some h;obtain⟨b,h3,h4⟩:=bind_some h1;obtain⟨q,h5,rfl⟩:=map_some h2;have e:=UZ h4 (IY x (by rw[ho];simp[Op.operands]) b h3);simp only[execOp,ho,e];exact EA hs (Uk h5 c w w);rename_i src dst x ho;obtain⟨q,h1,rfl⟩:=map_some h;obtain⟨b,h3,h4⟩:=bind_some h1;simp only[execOp,ho];exact EA hs (zX h4 (IY x (by rw[ho];simp[Op.operands]) b h3))
 · rename_i t x ho
   split at h
   · rename_i v d h1 hd
     split at h;cases h
     · rename_i hi
       cases h;simp only[execOp,ho];refine EA hs ⟨.iface t (ρ x),?_,.ifc (IY x (by rw[ho];simp[Op.operands]) v h1)⟩;unfold Instr.makeInterface;rw[Sem.run_bind,run_underlying hd];cases d<;>first | rfl | (simp[isIface] at hi;done)
   cases h
 rename_i f first caps ho
 split at h;rename_i b d h2 h3;cases h;simp only[execOp,ho];refine EA hs ⟨.func f (first.map ρ) (caps.map ρ),rfl,?_⟩
 have:=Rp.fn (f:=f) (X0 (ρ:=ρ) (λx hx=>IY x (by rw[ho];simp only[Op.operands,Array.mem_append];exact .inl (Array.mem_toList_iff.1 hx))) h2) (X0 (ρ:=ρ) (λx hx=>IY x (by rw[ho];simp only[Op.operands,Array.mem_append];exact .inr (Array.mem_toList_iff.1 hx))) h3);rwa[show(first.toList.map ρ).toArray=first.map ρ from by apply Array.ext';simp,show(caps.toList.map ρ).toArray=caps.map ρ from by apply Array.ext';simp] at this
 cases h;rename_i t ho;cases h;simp only[execOp,ho];exact NT (fY (P:=P) (t:=t) hs);rename_i t x y ho;split at h;rename_i b d h2 h3;obtain⟨v,h1,rfl⟩:=map_some h;simp only[execOp,ho];exact NT (Zs hs h1 (IY x (by rw[ho];simp[Op.operands]) b h2) (IY y (by rw[ho];simp[Op.operands]) d h3));cases h;rename_i t x lo hi mx ho;split at h;rename_i b l hh m h2 h3 h4 h5;obtain⟨v,h1,rfl⟩:=map_some h;simp only[execOp,ho];exact EA hs (uT h1 (IY x (by rw[ho];simp[Op.operands]) b h2) (nG (λy hy=>IY y (by rw[ho];simp only[Op.operands,Array.mem_append];exact .inl (.inl (.inr hy)))) h3) (nG (λy hy=>IY y (by rw[ho];simp only[Op.operands,Array.mem_append];exact .inl (.inr hy))) h4) (nG (λy hy=>IY y (by rw[ho];simp only[Op.operands,Array.mem_append];exact .inr hy)) h5));cases h;rename_i t x k ho;obtain⟨v,h1,rfl⟩:=map_some h;obtain⟨b,h2,h3⟩:=bind_some h1;simp only[execOp,ho];exact EA hs (fV h3 (IY x (by rw[ho];simp[Op.operands]) b h2));rename_i t x k ho;obtain⟨v,h1,rfl⟩:=map_some h;obtain⟨b,h2,h3⟩:=bind_some h1;simp only[execOp,ho];exact EA hs (uO h3 (IY x (by rw[ho];simp[Op.operands]) b h2) w);rename_i t x y ho;split at h;rename_i b d h2 h3;obtain⟨v,h1,rfl⟩:=map_some h;simp only[execOp,ho];exact EA hs (fW h1 (IY x (by rw[ho];simp[Op.operands]) b h2) (IY y (by rw[ho];simp[Op.operands]) d h3));cases h;rename_i t x y ho;split at h;rename_i b d h2 h3;obtain⟨v,h1,rfl⟩:=map_some h;simp only[execOp,ho];exact EA hs (uP h1 (IY x (by rw[ho];simp[Op.operands]) b h2) (IY y (by rw[ho];simp[Op.operands]) d h3) w);cases h;rename_i t x k ok ho;split at h;rename_i b d h2 h3;obtain⟨v,h1,rfl⟩:=map_some h;simp only[execOp,ho];exact EA hs (mQ hs h1 (IY x (by rw[ho];simp[Op.operands]) b h2) (IY k (by rw[ho];simp[Op.operands]) d h3));cases h;rename_i t m k x ho;split at h;rename_i b d e h2 h3 h4;obtain⟨s',h1,rfl⟩:=map_some h;simp only[execOp,ho];exact Su (XB hs h1 (IY m (by rw[ho];simp[Op.operands]) b h2) (IY k (by rw[ho];simp[Op.operands]) d h3) (IY x (by rw[ho];simp[Op.operands]) e h4));cases h;rename_i t m k x ho;split at h;rename_i b d e h2 h3 h4;obtain⟨s',h1,rfl⟩:=map_some h;simp only[execOp,ho];exact Su (XB hs h1 (IY m (by rw[ho];simp[Op.operands]) b h2) (IY k (by rw[ho];simp[Op.operands]) d h3) (IY x (by rw[ho];simp[Op.operands]) e h4));cases h;rename_i t m k ho;split at h;rename_i b d h2 h3;obtain⟨v,h1,rfl⟩:=map_some h;simp only[execOp,ho];obtain⟨u,w',q1,q2⟩:=bV hs h1 (IY m (by rw[ho];simp[Op.operands]) b h2) (IY k (by rw[ho];simp[Op.operands]) d h3);exact NT ⟨u,w',c,q1,q2⟩;cases h;rename_i t m st x ho;split at h;rename_i b d e h2 h3 h4;obtain⟨s',h1,rfl⟩:=map_some h;simp only[execOp,ho];exact Su (Xx hs h1 (IY m (by rw[ho];simp[Op.operands]) b h2) (IY st (by rw[ho];simp[Op.operands]) d h3) (IY x (by rw[ho];simp[Op.operands]) e h4));cases h;rename_i x k ho;obtain⟨v,h1,rfl⟩:=map_some h;obtain⟨b,h2,h3⟩:=bind_some h1;simp only[execOp,ho];exact EA hs (fU h3 (IY x (by rw[ho];simp[Op.operands]) b h2) w);rename_i cl ho;simp only[execOp,ho];exact zV hs (λx hx=>IY x (by rw[ho];exact hx)) h;rename_i x ho;split at h;rename_i t v h1;cases h;have hr:=IY x (by rw[ho];simp[Op.operands]) _ h1;simp only[execOp,ho];generalize ρ x=vx at hr;cases hr with
 | ifc q=>exact⟨_,by simp[Instr.panic],.ifc q⟩
 cases h;cases h
def mP{P:Program}{G:Bc}{c:Cx}{w:World}{s:AS}{ρ:Operand->Value}{o:Oper}{e:TypeId}{z:AV}{id:Nat}(hs:St G c w s)(ho:o.op=.alloc e)(hz:Mw P e=some z)(hid:c.Dy[id]?=some none)(cX:s.get id=some (.cells (cellsOf z))) :
   ∃u w' c',(execOp ρ o).run P w=.ok (.value u) w'/\Mon c w c' w'/\St G c' w' s/\Rp c' w' (.ptr id 0) u/\(∀c0 w0,Ext c0 w0 c w->c0.Dy.length<=id->Ext c0 w0 c' w')/\∀i,i≠id->c'.Dy[i]?=c.Dy[i]?:=by
 obtain⟨zv,rX,hzp⟩:=Um hz c w w;obtain⟨v',w',c',h2,h3⟩:=uL (P:=P) (t:=e) hs hzp (ZO hz) hid cX;refine⟨v',w',c',?_,h3⟩;simp only[execOp,ho];simp only[Instr.box,Sem.run_bind] at h2;simp only[Instr.alloc,Sem.run_bind,rX,Result.andThen_ok];rw[h2];simp
end AI
namespace AI
open Go Go.RowKit
def TE(acc:List Nat):List Edge->Nat
 | []=>0
 | e::es=>if Region.binds .any e then TE acc es ||| 2 ^ e.on ||| acc.getD e.on 0 else TE acc es
def Ij:List Oper->List Nat->List Nat
 | [],acc=>acc
 | o::os,acc=>Ij os (acc++[TE acc o.after.toList])
def Met(L:Nat->Bool)(o:Oper):Prop:=∀e∈o.after,Region.binds .any e=true->L e.on=true
def NM(ops:List Oper)(L:Nat->Bool):Prop:=∀i o,ops[i]?=some o->L i=true->Met L o
def wJ{ops:List Oper}{L:Nat->Bool}(hc:NM ops L){acc:List Nat}(iI:∀(j:Nat) m,acc[j]?=some m->∀o,ops[j]?=some o->∀i,m.testBit i=true->Met L o->L i=true)(hlen:acc.length<=ops.length)
   (es:List Edge) {i:Nat} (hb:(TE acc es).testBit i=true) (hm:∀e∈es,Region.binds .any e=true->L e.on=true):L i=true:=by
 induction es with
 | nil=>simp[TE] at hb
 | cons e es ih =>
   simp only[TE] at hb;split at hb
   · rename_i hbe
     rw[Nat.testBit_or,Nat.testBit_or,Bool.or_eq_true,Bool.or_eq_true] at hb;have he:=hm e List.mem_cons_self hbe;rcases hb with (hb | hb) | hb
     exact ih hb (λe he=>hm e (List.mem_cons_of_mem _ he));rw[Nat.testBit_two_pow] at hb;have:e.on=i:=by simpa using hb
     rw[<- this];exact he
     · rw[List.getD_eq_getElem?_getD] at hb
       cases hg:acc[e.on]? with
       | none=>rw[hg] at hb;simp at hb
       | some m =>
         rw[hg] at hb;have hl:=(List.getElem?_eq_some_iff.1 hg).1;have hl2:e.on < ops.length:=by omega
         exact iI e.on m hg ops[e.on] (List.getElem?_eq_getElem hl2) i hb (hc e.on _ (List.getElem?_eq_getElem hl2) he)
   exact ih hb (λe he=>hm e (List.mem_cons_of_mem _ he))
def aeP{ops:List Oper}{L:Nat->Bool}(hc:NM ops L):∀(os:List Oper) (acc:List Nat),(∀k,os[k]?=ops[acc.length+k]?)->acc.length<=ops.length->(∀(j:Nat) m,acc[j]?=some m->∀o,ops[j]?=some o->∀i,m.testBit i=true->Met L o->L i=true) ->
   ∀(j:Nat) m,(Ij os acc)[j]?=some m->∀o,ops[j]?=some o->∀i,m.testBit i=true->Met L o->L i=true:=by
 intro os
 induction os with
 | nil=>intro acc _ _ iI;exact iI
 | cons o os ih =>
   intro acc hk hl iI;have h0:ops[acc.length]?=some o:=by have:=hk 0;simpa using this.symm
   have hlt:=(List.getElem?_eq_some_iff.1 h0).1;refine ih (acc++[TE acc o.after.toList]) (λk=>?_) (by simp;omega) (λj m hj o' V8 i hb hm=>?_);have:=hk (k+1);simp only[List.getElem?_cons_succ] at this;rw[this];congr 1;simp;omega;by_cases hjl:j < acc.length;rw[List.getElem?_append_left hjl] at hj;exact iI j m hj o' V8 i hb hm;have hl2:=(List.getElem?_eq_some_iff.1 hj).1;simp at hl2;have:j=acc.length:=by omega
   subst this;rw[List.getElem?_concat_length] at hj;cases hj;rw[h0] at V8;cases V8;exact wJ hc iI hl _ hb (λe he=>hm e (Array.mem_toList_iff.1 he))
def Sr(ms:List Nat)(j i:Nat):Bool:=(ms.getD j 0).testBit i
def XT{ops:List Oper}{L:Nat->Bool}(hc:NM ops L){j i:Nat}{o:Oper}(ho:ops[j]?=some o)(hm:Met L o)(hd:Sr (Ij ops []) j i=true):L i=true:=by
 unfold Sr at hd;rw[List.getD_eq_getElem?_getD] at hd;cases hg:(Ij ops [])[j]? with
 | none=>rw[hg] at hd;simp at hd
 | some m =>
   rw[hg] at hd;exact aeP hc ops [] (λk=>by simp) (by simp) (λj m h=>by simp at h) j m hg o ho i hd hm
def quiet:Op->Bool
 | .move _ | .assign _ | .pick .. | .build .. | .buildSlice .. | .load .. | .nilCheck _ | .binOp .. | .unOp .. | .convert .. | .makeInterface .. | .makeFunc .. | .slice .. | .fieldAddr .. | .field .. | .indexAddr .. | .index .. | .lookup .. | .extract ..=>true
 | .call cl=>(match cl.callee with
   | .builtin .len | .builtin .max | .builtin .min=>true
   | _=>false)
 | _=>false
def B1:Op->Bool
 | .alloc _=>true
 | _=>false
def KR{op:Op}(h:B1 op=true):∃e,op=.alloc e:=by
 unfold B1 at h;split at h;exact⟨_,rfl⟩;cases h
def calm(op:Op):Bool:=match B1 op with
 | true=>true
 | false=>quiet op
def XN{op:Op}(h:quiet op=true):calm op=true:=by
 unfold calm;cases B1 op;exact h;rfl
def XM{op:Op}(h:calm op=true):quiet op=true\/∃e,op=.alloc e:=by
 unfold calm at h;cases ha:B1 op with
 | true=>exact .inr (KR ha)
 | false=>rw[ha] at h;exact .inl h
def mK:List Oper->Nat->Nat
 | _,0=>0
 | [],_+1=>0
 | o::l,n+1=>(match B1 o.op with | true=>1 | false=>0)+mK l n
def rk(ops:Array Oper)(i:Nat):Nat:=mK ops.toList i
def pK{l:List Oper}{i j:Nat}{o:Oper}(ho:l[i]?=some o)(ha:B1 o.op=true)(h:i < j):mK l i < mK l j:=by
 induction l generalizing i j with
 | nil=>simp at ho
 | cons x l ih =>
   cases j with
   | zero=>omega
   | succ j =>
     cases i with
     | zero =>
       simp at ho;subst ho;simp only[mK,ha];omega
     | succ i =>
       have:=ih (i:=i) (j:=j) (by simpa using ho) (by omega)
       simp only[mK];omega
def ayU{ops:Array Oper}{i j:Nat}{x y:Oper}(hx:ops[i]?=some x)(hy:ops[j]?=some y)(hxa:B1 x.op=true)(dI:B1 y.op=true)(h:rk ops i=rk ops j):i=j:=by
 have Tz:ops.toList[i]?=some x:=by rw[Array.getElem?_toList];exact hx
 have hy':ops.toList[j]?=some y:=by rw[Array.getElem?_toList];exact hy
 unfold rk at h;rcases Nat.lt_trichotomy i j with hlt | he | hlt
 have:=pK Tz hxa hlt;omega;exact he;have:=pK hy' dI hlt;omega
def PO(ops:Array Oper)(x y:Oper):Bool :=
 (!calm x.op&&!calm y.op) ||
 (match x.dst with
  | some d=>(y.looksAt ops).contains d||y.dst == some d
  | none=>false) ||
 (match y.dst with
  | some d=>(x.looksAt ops).contains d
  | none=>false)
def YC(ops:Array Oper)(ms:List Nat)(j:Nat)(y:Oper):List Oper->Nat->Bool
 | [],_=>true
 | x::xs,i=>(if i < j then !PO ops x y||Sr ms j i else true)&&YC ops ms j y xs (i+1)
def W9(ops:Array Oper)(ms:List Nat):List Oper->Nat->Bool
 | [],_=>true
 | y::ys,j=>YC ops ms j y ops.toList 0&&(y.after.toList.all λe=>!Region.binds .any e||decide (e.on < j))&&W9 ops ms ys (j+1)
def ME(ops:Array Oper):Bool:=W9 ops (Ij ops.toList []) ops.toList 0
def wQ{ops:Array Oper}{ms:List Nat}{j:Nat}{y:Oper}:∀(xs:List Oper) (i:Nat),YC ops ms j y xs i=true->∀k x,xs[k]?=some x->i+k < j->PO ops x y=true->Sr ms j (i+k)=true:=by
 intro xs
 induction xs with
 | nil=>intro i _ k x hx;simp at hx
 | cons z xs ih =>
   intro i h k x hx hlt Iy;simp only[YC,Bool.and_eq_true] at h;cases k with
   | zero =>
     simp at hx;subst hx;rw[Nat.add_zero] at hlt ⊢;have:=h.1;rw[if_pos hlt,Iy] at this;simpa using this
   | succ k =>
     have:=ih (i+1) h.2 k x (by simpa using hx) (by omega) Iy
     rwa[show i+1+k=i+(k+1) from by omega] at this
def YD{ops:Array Oper}{ms:List Nat}:∀(ys:List Oper) (j:Nat),W9 ops ms ys j=true->∀k y,ys[k]?=some y->YC ops ms (j+k) y ops.toList 0=true/\∀e∈y.after,Region.binds .any e=true->e.on < j+k:=by
 intro ys
 induction ys with
 | nil=>intro j _ k y hy;simp at hy
 | cons z ys ih =>
   intro j h k y hy;simp only[W9,Bool.and_eq_true] at h;cases k with
   | zero =>
     simp at hy;subst hy;refine⟨h.1.1,λe he hb=>?_⟩;have:=List.all_eq_true.1 h.1.2 e (Array.mem_toList_iff.2 he);rw[hb] at this;simpa using this
   | succ k =>
     have:=ih (j+1) h.2 k y (by simpa using hy)
     rwa[show j+1+k=j+(k+1) from by omega] at this
def aE{ops:Array Oper}(h:ME ops=true){i j:Nat}{x y:Oper}(hx:ops[i]?=some x)(hy:ops[j]?=some y)(hlt:i < j)(hc:PO ops x y=true):Sr (Ij ops.toList []) j i=true:=by
 have h1:=(YD ops.toList 0 h j y (by rw[Array.getElem?_toList];exact hy)).1;rw[Nat.zero_add] at h1;have:=wQ ops.toList 0 h1 i x (by rw[Array.getElem?_toList];exact hx) (by omega) hc;rwa[Nat.zero_add] at this
def jI{ops:Array Oper}(h:ME ops=true){j:Nat}{y:Oper}(hy:ops[j]?=some y){e:Edge}(he:e∈y.after)(hb:Region.binds .any e=true):e.on < j:=by
 have:=(YD ops.toList 0 h j y (by rw[Array.getElem?_toList];exact hy)).2 e he hb;omega
def Jw(fr:List AV)(dst:Option Tmp)(v:AV):List AV:=match dst with
 | some d=>fr.set d v
 | none=>fr
def Sk{c:Cx}{w:World}{fr:List AV}{a:Act}{dst:Option Tmp}{v:AV}{u:Value}(h:CT c w fr a.tmps.toList)(hv:Rp c w v u):CT c w (Jw fr dst v) (a.put dst u).tmps.toList:=by
 cases dst with
 | none=>exact h
 | some d=>simp only[Jw,Act.put,Array.toList_setIfInBounds];exact h.set hv d
def Iz(f0:List AV)(dst:Nat->Option Tmp)(vals:Nat->AV)(L:Nat->Bool):Nat->List AV
 | 0=>f0
 | n+1=>if L n then Jw (Iz f0 dst vals L n) (dst n) (vals n) else Iz f0 dst vals L n
def RJ{fr:List AV}{dst:Option Tmp}{v:AV}{t:Nat}(h:dst≠some t):(Jw fr dst v)[t]?=fr[t]?:=by
 cases dst with
 | none=>rfl
 | some d=>exact List.getElem?_set_ne (λe=>h (by rw[e]))
def aaA{fr:List AV}{dst:Option Tmp}{v:AV}:(Jw fr dst v).length=fr.length:=by cases dst<;>simp[Jw]
def OS{fr:List AV}{v:AV}{t:Nat}:(Jw fr (some t) v)[t]?=if t < fr.length then some v else none:=by simp[Jw,List.getElem?_set]
def WY(f0:List AV)(dst:Nat->Option Tmp)(vals:Nat->AV)(L:Nat->Bool)(n:Nat):(Iz f0 dst vals L n).length=f0.length:=by
 induction n with
 | zero=>rfl
 | succ n ih=>simp only[Iz];split<;>simp[aaA,ih]
def X2{f0:List AV}{dst:Nat->Option Tmp}{vals:Nat->AV}{L M:Nat->Bool}{t:Nat}:∀(n:Nat),(∀i,i < n->dst i=some t->L i=M i)->(Iz f0 dst vals L n)[t]?=(Iz f0 dst vals M n)[t]?:=by
 intro n
 induction n with
 | zero=>intro _;rfl
 | succ n ih =>
   intro h;have ih:=ih (λi hi hd=>h i (by omega) hd);by_cases hd:dst n=some t;have:=h n (by omega) hd;simp only[Iz,this];split;rw[hd,OS,OS,WY,WY];exact ih
   have e:∀K:Nat->Bool,(Iz f0 dst vals K (n+1))[t]?=(Iz f0 dst vals K n)[t]?:=by
     intro K;simp only[Iz];split;exact RJ hd;rfl
   rw[e,e,ih]
def rE{f0:List AV}{dst:Nat->Option Tmp}{vals:Nat->AV}{L:Nat->Bool}{t j:Nat}:∀(n:Nat),j<=n->(∀i,j<=i->i < n->dst i=some t->L i=false)->(Iz f0 dst vals L n)[t]?=(Iz f0 dst vals L j)[t]?:=by
 intro n
 induction n with
 | zero=>intro hj _;have:j=0:=by omega
         subst this;rfl
 | succ n ih =>
   intro hj h;by_cases hn:j=n+1;subst hn;rfl;have ih:=ih (by omega) (λi h1 h2 hd=>h i h1 (by omega) hd);rw[<- ih];simp only[Iz];split;rename_i hL;by_cases hd:dst n=some t;have:=h n (by omega) (by omega) hd;rw[this] at hL;cases hL;exact RJ hd;rfl
end AI
