/- Part of a proof: see the last text. -/
import Derived.Test.YtpbkhogolfegfaaGreatDoorPnc
import Derived.IntWalk
set_option linter.unusedVariables false
set_option linter.unusedSimpArgs false
set_option linter.defProp false
noncomputable section
open Array renaming ext'->bjQ,getElem?_toList->biZ,mem_append->bmL,mem_toList_iff->blP
open Bool renaming and_eq_true->bcA,or_eq_true->bqI
open ByteArray renaming empty->V4,push->brY
open ForInStep renaming yield->brQ
open Go.Call renaming operands->bqR
open Go.Conv renaming bytesToString->bqZ
open Go.Instr renaming box->bpZ,entryStore->brK,makeSlice->brP,mapEntry->bqL
open Go.IntKind renaming i64->bmJ
open Go.IntWalk renaming i64_in->bnF
open Go.Op renaming operands->bjA
open Go.Region renaming binds->bnZ
open Go.Result renaming andThen_ok->biS
open Go.Sem renaming run_bind->biV,run_pure->bjX
open List renaming getD_eq_getElem?_getD->bkG,getElem?_eq_getElem->abI,getElem?_eq_some_iff->abH,mem_cons_of_mem->bjI,mem_cons_self->bjW,mem_map->blE,mem_toArray->bqA,range->bjR
open Nat renaming testBit_or->brZ,zero_add->bcD
open Option.some renaming injEq->aOE
open UInt8 renaming ofNat->bnU
namespace AI
open Go Go.RowKit
def kG{P:Program}{G:AK}{c:Cx}{w:World}{s s':AS}{t:TypeId}{l k r:AV}{vl vk:Value}(hs:St G c w s)(h:JM P s t l k=some (r,s'))(hl:Rp c w l vl)(hk:Rp c w k vk) :
   ∃u w' c',(brP t vl vk).run P w=.ok u w'/\Ext c w c' w'/\St G c' w' s'/\Rp c' w' r u:=by
 unfold JM at h;split at h;rename_i elem hu;split at h;rename_i e n m he hn hm;split at h;rename_i z hz;split at h;rename_i zs hzs;split at h;rename_i hc;cases h;obtain⟨rfl,h24,h48,hne⟩:=hc;obtain⟨k1,i1,rfl,h1,e1⟩:=Oe hn hl;obtain⟨k2,i2,rfl,h2,e2⟩:=Oe hm hk;have w1:bmJ.wrap i1=i1:=bnF _ (by omega);have w2:bmJ.wrap i2=i2:=bnF _ (by omega);have hzr:Cv c w zs z.cells.toList:=Sn hzs c w;have hin:=zM hzr (n*e.size) (λ_ hn=>by rw[hn] at hne;cases hne);simp only[Array.toArray_toList] at hin
 have aqX:(Array.range (n*e.size)).map (λi=>z.cells[i % z.cells.size]!)=((bjR (n*e.size)).map λi=>z.cells[i % z.cells.size]!).toArray:=by
   apply bjQ;simp
 obtain⟨x,st⟩:=hs.new (b:=.cells ((bjR (n*e.size)).map λi=>zs.getD (i % zs.length) (.sc undef))) (o:=.cells ((bjR (n*e.size)).map λi=>z.cells[i % z.cells.size]!).toArray elem (0,0)) (.cells hin);refine⟨.slice (some ⟨w.heap.size,0,none⟩) n n,_,_,?_,x,st,.msl (Nat.le_refl _) (by simp[hs.len])⟩
 have hb:¬281474976710656 < (e.bytes:Int)*i2:=by
   have e3:(e.bytes:Int)*i2=((n*e.bytes:Nat):Int):=by
     rw[show i2=(n:Int) from by omega,Int.natCast_mul,Int.mul_comm]
   rw[e3];generalize n*e.bytes=q at h48;omega
 have hn2:¬i2 < 0:=by omega
 have hn1:¬i1 < 0:=by omega
 have hle:¬i2 < i1:=by omega
 simp only[brP,biV,run_underlying hu,biS,asInt,asIntOf,bjX,typeInfo,run_program,he,w1,w2,hn1,hn2,gt_iff_lt,show(2:Int) ^ 48=281474976710656 from rfl,hb,decide_false,Bool.or_false,hle,Bool.false_eq_true,if_false,run_askRoom,e2,CG he,newRow,e1];split;rename_i h0;have hz0:Array.range 0=#[]:=rfl;simp[h0,hz0];simp only[biV,zeroValue,typeInfo,run_program,biS,he,hz,bjX,run_newObj,aqX];cases h;cases h;cases h;cases h;cases h
def Ro(P:Program)(s:AS)(t:TypeId)(x k:AV):Option (AV×AS) :=
 match P.underlying t with
 | some (.map kt et)=>match P.underlying kt,iU k,x with
   | some kd,some key,.mp id=>if plainKey kd=true then
       (match s.get id with
       | some (.map es cl)=>match cY kd key es 0 with
         | some (some (j,v))=>match es[j]? with
           | some e=>some (.E9 [v,.sc (.int .i64 e.2.2)],(s.put id (.map (es.set j (key,v,e.2.2)) cl)))
           | none=>none
         | some none=>match M1 P et with
           | some z=>some (.E9 [z,.sc (.int .i64 cl)],(s.put id (.map (es++[(key,z,cl)]) (cl+1))))
           | none=>none
         | none=>none
       | _=>none) else none
   | _,_,_=>none
 | _=>none
def oX{P:Program}{G:AK}{c:Cx}{w:World}{s s':AS}{t:TypeId}{x k r:AV}{vx vk:Value}(hs:St G c w s)(h:Ro P s t x k=some (r,s'))(hx:Rp c w x vx)(hk:Rp c w k vk) :
   ∃u w',(bqL t vx vk).run P w=.ok u w'/\Ext c w c w'/\St G c w' s'/\Rp c w' r u:=by
 unfold Ro at h;split at h
 · rename_i kt et hu
   split at h
   · rename_i kd key id hkd arG
     have:=X8 arG hk;subst this;split at h
     · rename_i hp
       split at h
       · rename_i es cl hb
         cases hx with
         | @mp _ g hid =>
           obtain⟨fs,hw,he⟩:=Xb hs hid hb;split at h;rename_i j v hf;split at h;rename_i e hej;cases h;rcases Rm he hf with ⟨h1,_⟩ | ⟨j',a',v',e',f,h1,h2,h3,h4,h5,h6,h7,h8,h9,h10⟩
           cases h1;injection h1 with h1
           injection h1 with h1 h1'
           rw[bcD] at h1;subst h1 h1';rw[hej] at h4;cases h4;rw[bcD] at h2;have arQ:fs.toArray.modify j (λe=>{ e with key:=vk })=(fs.set j ⟨vk,v',e.2.2⟩).toArray:=Wc h5 (by rw[<- h9,<- h7])
           obtain⟨x1,st⟩:=hs.put (b:=.map (es.set j (vk,v,e.2.2)) cl) (o:=.map (fs.set j ⟨vk,v',e.2.2⟩).toArray cl) hid (Xf w g _) (X3 w hw) (.map (he.set h3 j));refine⟨.tuple #[v',.int .i64 e.2.2],_,?_,x1,st,.E9 (vs:=[v',.int .i64 e.2.2]) (.cons (h3.mono x1) (.cons (.sc rfl) .nil))⟩;have aqZ:=iH h10;have hfk:=run_findKey (P:=P) hkd h2 w;simp only[bqL,biV,run_underlying hu,biS,J8 hw,run_checkKey _ hkd hp,hfk,List.getElem?_toArray,h5,Option.map_some,Option.getD_some,h8,h9,Instr.keyThatStays,aqZ,if_true,bjX,arQ,PO _ hw,goInt];cases h;rename_i hf;split at h;rename_i z hz;cases h;rcases Rm he hf with ⟨_,h2⟩ | ⟨j',a',v',e',f,h1,_⟩
           obtain⟨zv,hzr,hzp⟩:=Xa hz c w w;obtain⟨x1,st⟩:=hs.put (b:=.map (es++[(vk,z,cl)]) (cl+1)) (o:=.map (fs++[(⟨vk,zv,cl⟩:MapEntry)]).toArray (cl+1)) hid (Xf w g _) (X3 w hw) (.map (he.snoc hzp));refine⟨.tuple #[zv,.int .i64 cl],_,?_,x1,st,.E9 (vs:=[zv,.int .i64 cl]) (.cons (hzp.mono x1) (.cons (.sc rfl) .nil))⟩;have hfk:=run_findKey (P:=P) hkd h2 w;have arS:fs.toArray.push (⟨vk,zv,cl⟩:MapEntry)=(fs++[(⟨vk,zv,cl⟩:MapEntry)]).toArray:=by simp
           simp only[bqL,biV,run_underlying hu,biS,J8 hw,run_checkKey _ hkd hp,hfk,hzr,arS,PO _ hw,bjX,goInt];cases h1;cases h;cases h
       cases h
     cases h
   cases h
 cases h
def tZ(b:Int):List (Value×AV×Nat)->Nat->Option Nat
 | [],_=>none
 | e::es,i=>if (e.2.2:Int) == b then some i else tZ b es (i+1)
def anC{c:Cx}{w:World}{b:Int}{es:List (Value×AV×Nat)}{fs:List MapEntry}(h:K8 c w es fs):fs.findIdx? (λe=>(e.born:Int) == b)=tZ b es 0:=by
 have key:∀(es:List (Value×AV×Nat)) (fs:List MapEntry) (i:Nat),K8 c w es fs->tZ b es i=(fs.findIdx? (λe=>(e.born:Int) == b)).map (·+i):=by
   intro es fs i h
   induction h generalizing i with
   | nil=>rfl
   | cons _ _ ih =>
     simp only[tZ,List.findIdx?_cons];split;simp;rw[ih,Option.map_map];congr 1;funext x;simp;omega
 rw[key es fs 0 h];simp
def M0(s:AS)(x st v:AV):Option AS :=
 match x,st with
 | .mp id,.sc (.int _ b)=>match s.get id with
   | some (.map es cl)=>match tZ b es 0 with
     | some j=>match es[j]? with
       | some e=>some (s.put id (.map (es.set j (e.1,v,e.2.2)) cl))
       | none=>none
     | none=>none
   | _=>none
 | _,_=>none
def K8.get{c:Cx}{w:World}{es:List (Value×AV×Nat)}{fs:List MapEntry}(h:K8 c w es fs){j:Nat}{e:Value×AV×Nat}(he:es[j]?=some e):∃f,fs[j]?=some f/\f.key=e.1/\f.born=e.2.2:=by
 induction h generalizing j with
 | nil=>simp at he
 | cons h1 _ ih =>
   cases j with
   | zero=>simp at he;subst he;exact⟨_,rfl,rfl,rfl⟩
   | succ j=>simpa using ih (by simpa using he)
def cV{P:Program}{G:AK}{c:Cx}{w:World}{s s':AS}{t:TypeId}{x st v:AV}{vx vs vv:Value}(hs:St G c w s)(h:M0 s x st v=some s')(hx:Rp c w x vx)(Fl:Rp c w st vs)(hv:Rp c w v vv) :
   ∃w',(brK t vx vs vv).run P w=.ok () w'/\Ext c w c w'/\St G c w' s':=by
 unfold M0 at h;split at h
 · rename_i id k b
   split at h
   · rename_i es cl hb
     split at h
     · rename_i j hj
       split at h
       · rename_i e hej
         cases h;cases Fl;cases hx with
         | @mp _ g hid =>
           obtain⟨fs,hw,he⟩:=Xb hs hid hb;obtain⟨f,hf,hfk,hfb⟩:=he.get hej;have arQ:fs.toArray.modify j (λe=>{ e with val:=vv })=(fs.set j ⟨e.1,vv,e.2.2⟩).toArray:=Wc hf (by rw[<- hfk,<- hfb])
           obtain⟨x1,st⟩:=hs.put (b:=.map (es.set j (e.1,v,e.2.2)) cl) (o:=.map (fs.set j ⟨e.1,vv,e.2.2⟩).toArray cl) hid (Xf w g _) (X3 w hw) (.map (he.set hv j));refine⟨_,?_,x1,st⟩
           have hfi:fs.toArray.findIdx? (λe=>(e.born:Int) == b)=some j:=by
             rw[List.findIdx?_toArray,anC he,hj]
           simp only[brK,biV,biS,J8 hw,asInt,asIntOf,bjX,hfi,arQ];exact PO _ hw
       cases h
     cases h
   cases h
 cases h
end AI
namespace AI
open Go Go.RowKit
def byteOf:AV->Option UInt8
 | .sc (.int .u8 n)=>some (bnU n.toNat)
 | _=>none
def bytesOf:List AV->Option (List UInt8)
 | []=>some []
 | a::l=>match byteOf a,bytesOf l with
   | some b,some m=>some (b::m)
   | _,_=>none
def Ty(P:Program)(src dst:TypeId):AV->Option AV
 | .sc v=>Zr P (convert src dst v)
 | .sl _ n cs=>match P.underlying src,P.underlying dst with
   | some (.slice e),some .string=>(match P.underlying e with
     | some (.int .u8)=>if n=cs.length then (bytesOf cs).map λl=>.sc (.string ⟨l.toArray⟩) else none
     | _=>none)
   | _,_=>none
 | _=>none
def ajP{c:Cx}{w:World}{a:AV}{b:UInt8}{v:Value}(h:byteOf a=some b)(hr:Rp c w a v):∃n,v=.int .u8 n/\bnU n.toNat=b:=by
 unfold byteOf at h;split at h;cases h;cases hr;exact⟨_,rfl,rfl⟩;cases h
def ahD(s:ByteArray)(l:List UInt8):ByteArray:=l.foldl brY s
def xJ:∀(l:List UInt8) (s:ByteArray),ahD s l=⟨s.data++l.toArray⟩
 | [],s=>by simp[ahD]
 | b::l,s=>by
   have:=xJ l (s.push b);unfold ahD at this ⊢;rw[List.foldl_cons,this];simp[brY]
def dH{P:Program}{c:Cx}{w w0:World}:∀{cs:List AV} {vs:List Value} {l:List UInt8} (s:ByteArray),Cv c w cs vs->bytesOf cs=some l ->
   (forIn vs s λ(x:Value) (s:ByteArray)=>(match x with
     | .int .u8 n=>(pure (brQ (s.push (bnU n.toNat))):Sem (ForInStep ByteArray))
     | _=>((λ_=>brQ s) <$> (stuck "bytesToString: byte expected":Sem PUnit):Sem (ForInStep ByteArray)))).run P w0=.ok (ahD s l) w0
 | [],_,_,s,h,hb=>by cases h;cases hb;rfl
 | a::cs,_,l,s,h,hb=>by
   cases h with
   | cons h1 t =>
     simp only[bytesOf] at hb;split at hb;rename_i b m h2 h3;cases hb;obtain⟨n,rfl,rfl⟩:=ajP h2 h1;have:=dH (P:=P) (w0:=w0) (s.push (bnU n.toNat)) t h3;simp only[List.forIn_cons,biV,bjX,biS];exact this;cases hb
def anE{P:Program}{c:Cx}{w:World}{src dst:TypeId}{a r:AV}{v:Value}(h:Ty P src dst a=some r)(hr:Rp c w a v):∃u,(convert src dst v).run P w=.ok u w/\Rp c w r u:=by
 unfold Ty at h;split at h;cases hr;obtain⟨z,h1,h2⟩:=W9 h c w w;exact⟨z,h1,h2⟩
 · rename_i own n cs
   split at h
   · rename_i e hs hd
     split at h
     · rename_i he
       split at h
       · rename_i hn
         obtain⟨l,hb,rfl⟩:=Option.map_eq_some_iff.1 h;refine⟨.string ⟨l.toArray⟩,?_,.sc rfl⟩;unfold convert;cases hr with
         | @sl0 _ A cap h0 =>
           cases hb;cases A<;>simp[biV,run_underlying hs,run_underlying hd,run_underlying he,bqZ,loadCells,loadCellsFrom]<;>rfl
         | @K6 _ _ cap g o _ hn' hc ho =>
           obtain⟨vs,hvs,IL⟩:=hc.vals;have hlen:=hvs.len;have hld:=run_loadCells_list (P:=P) w ⟨g,o,none⟩ vs (λj v hj=>by rw[add_lit];exact(IL j v hj).2.2);rw[hlen,<- hn] at hld;have hlp:=dH (P:=P) (w0:=w) V4 hvs hb;rw[xJ] at hlp;simp[biV,run_underlying hs,run_underlying hd,run_underlying he,bqZ,hld];refine(congrArg (λr=>r.andThen λ(a:ByteArray) w'=>Result.ok (Value.string a) w') hlp).trans ?_;simp[V4,ByteArray.emptyWithCapacity];rfl
       cases h
     cases h
   cases h
 cases h
end AI
namespace AI
open Go Go.RowKit
def AZ(G:AK)(fr:List AV):Operand->Option AV
 | .tmp t=>some (fr.getD t (.sc undef))
 | .const v=>ZJ v
 | .global g=>(G g).map .el
 | .func f=>some (.fn (.func f) [] [])
def EB{G:AK}{c:Cx}{w:World}{s:AS}{fr:List AV}{a:Act}{x:Operand}{v:AV}(hs:St G c w s)(hf:Cv c w fr a.tmps.toList)(h:AZ G fr x=some v):Rp c w v (a.eval x):=by
 cases x with
 | tmp t =>
   simp only[AZ,aOE] at h;subst h;simp only[Act.eval];rw[bkG];cases hg:fr[t]? with
   | some b =>
     obtain⟨u,hu,hr⟩:=hf.get hg;rw[biZ] at hu;simp[hu,hr]
   | none =>
     have hl:=hf.len;have h1:=List.getElem?_eq_none_iff.1 hg;have h2:a.tmps[t]?=none:=Array.getElem?_eq_none (by rw[<- Array.length_toList];omega);simp only[Array.getD_eq_getD_getElem?,h2,Option.getD_none];exact .sc rfl
 | const v=>exact wW h c w
 | global g =>
   simp only[AZ] at h;cases hg:G g with
   | none=>rw[hg] at h;cases h
   | some cs=>rw[hg] at h;cases h;exact .el (hs.Mr g cs hg)
 | func f=>simp only[AZ,aOE] at h;subst h;exact .fn (us:=[]) (vs:=[]) .nil .nil
def kJ(G:AK)(fr:List AV):List Operand->Option (List AV)
 | []=>some []
 | x::xs=>match AZ G fr x,kJ G fr xs with
   | some a,some as=>some (a::as)
   | _,_=>none
abbrev kE(G:AK)(c:Cx)(w:World)(fr:List AV)(ρ:Operand->Value)(x:Operand):Prop:=∀v,AZ G fr x=some v->Rp c w v (ρ x)
def dY{G:AK}{c:Cx}{w:World}{fr:List AV}{ρ:Operand->Value}{xs:List Operand}{vs:List AV}(Je:∀x∈xs,kE G c w fr ρ x)(h:kJ G fr xs=some vs):Cv c w vs (xs.map ρ):=by
 induction xs generalizing vs with
 | nil=>simp[kJ] at h;subst h;exact .nil
 | cons x xs ih =>
   simp only[kJ] at h;split at h;rename_i b bs h1 h2;cases h;exact .cons (Je x bjW b h1) (ih (λy hy=>Je y (bjI _ hy)) h2);cases h
def ME(G:AK)(fr:List AV):List (Nat×Operand)->Option (List (Nat×AV))
 | []=>some []
 | x::xs=>match AZ G fr x.2,ME G fr xs with
   | some a,some as=>some ((x.1,a)::as)
   | _,_=>none
def dX{G:AK}{c:Cx}{w:World}{fr:List AV}{ρ:Operand->Value}{xs:List (Nat×Operand)}{vs:List (Nat×AV)}(Je:∀x∈xs,kE G c w fr ρ x.2)(h:ME G fr xs=some vs):PL c w vs (xs.map λx=>(x.1,ρ x.2)):=by
 induction xs generalizing vs with
 | nil=>simp[ME] at h;subst h;exact .nil
 | cons x xs ih =>
   simp only[ME] at h;split at h;rename_i b bs h1 h2;cases h;exact .cons (Je x bjW b h1) (ih (λy hy=>Je y (bjI _ hy)) h2);cases h
def tG(G:AK)(fr:List AV):Option Operand->Option (Option AV)
 | none=>some none
 | some x=>(AZ G fr x).map some
def aaX{G:AK}{c:Cx}{w:World}{fr:List AV}{ρ:Operand->Value}{x:Option Operand}{v:Option AV}(Je:∀y∈x.toArray,kE G c w fr ρ y)(h:tG G fr x=some v):RO c w v (x.map ρ):=by
 cases x with
 | none=>simp[tG] at h;subst h;exact .none
 | some x =>
   simp only[tG] at h;cases hx:AZ G fr x with
   | none=>rw[hx] at h;cases h
   | some b=>rw[hx] at h;cases h;exact .some (Je x (by simp) b hx)
inductive AR where
 | val (v:AV) (s:AS)
 | ent (f:FuncId) (args:List AV)
 | pan (v:AV)
def M5(P:Program)(g:FuncId):Bool:=match P.funcs[g]? with
 | some fn=>fn.name != "runtime.NumGoroutine"&&fn.body.isSome
 | none=>false
def notNil:AV->Bool
 | .ptr _ _ | .el _=>true
 | .fn (.func _) _ _=>true
 | _=>false
def isIface:TypeDesc->Bool
 | .interface _=>true
 | _=>false
def Vu(P:Program)(G:AK)(fr:List AV)(s:AS)(o:Oper)(cl:Call):Option AR :=
 match cl.callee with
 | .builtin .len=>match cl.args.toList,cl.argTypes.toList with
   | [x],[t]=>((AZ G fr x).bind (ZX P s t)).map λv=>.val v s
   | _,_=>none
 | .builtin .append=>match cl.args.toList,cl.argTypes.toList with
   | [x,y],[t,tx]=>match AZ G fr x,AZ G fr y with
     | some a,some b=>(LF P s t tx a b).map λr=>.val r.1 r.2
     | _,_=>none
   | _,_=>none
 | .builtin .max=>((kJ G fr cl.args.toList).bind QL).bind λvs=>(Zr P (Builtin.max_ cl.argTypes o.type vs.toArray)).map λv=>.val v s
 | .builtin .min=>((kJ G fr cl.args.toList).bind QL).bind λvs=>(Zr P (Builtin.min_ cl.argTypes o.type vs.toArray)).map λv=>.val v s
 | .value f=>match AZ G fr f,kJ G fr cl.args.toList with
   | some (.fn (.func g) first caps),some as=>if M5 P g=true then some (.ent g (first++as++caps)) else none
   | _,_=>none
 | _=>none
def RZ(P:Program)(G:AK)(fr:List AV)(s:AS)(o:Oper):Option AR :=
 match o.op with
 | .move x=>(AZ G fr x).map λv=>.val v s
 | .assign x=>(AZ G fr x).map λv=>.val v s
 | .pick c a b=>match AZ G fr c with
   | some (.sc (.bool t))=>(if t then AZ G fr a else AZ G fr b).map λv=>.val v s
   | _=>none
 | .alloc e=>(M1 P e).map λz=>.val (.ptr s.nx 0) (s.new (.cells (cellsOf z)))
 | .box _ x=>(AZ G fr x).bind λz=>match VE z with
   | true=>none
   | false=>some (.val (.ptr s.nx 0) (s.new (.cells (cellsOf z))))
 | .build t ps=>((ME G fr ps.toList).bind (cT P t)).map λv=>.val v s
 | .buildSlice t n ps=>((ME G fr ps.toList).bind (MZ P t n)).map λv=>.val v s
 | .load t a=>((AZ G fr a).bind (JL P s t)).map λv=>.val v s
 | .store t a x=>match AZ G fr a,AZ G fr x with
   | some a,some x=>(Lb P s t a x).map λs'=>.val (.sc undef) s'
   | _,_=>none
 | .nilCheck x=>match AZ G fr x with
   | some v=>if notNil v=true then some (.val v s) else none
   | none=>none
 | .binOp op t x y _=>match AZ G fr x,AZ G fr y with
   | some a,some b=>(LG P op t x y a b).map λv=>.val v s
   | _,_=>none
 | .unOp op _ x=>((AZ G fr x).bind iU).bind λv=>(Zr P (Op.unary op v)).map λv=>.val v s
 | .convert src dst x=>((AZ G fr x).bind λa=>Ty P src dst a).map λv=>.val v s
 | .makeInterface t x=>match AZ G fr x,P.underlying t with
   | some v,some d=>if isIface d=true then none else some (.val (.ifc t v) s)
   | _,_=>none
 | .makeFunc f first caps=>match kJ G fr first.toList,kJ G fr caps.toList with
   | some a,some b=>some (.val (.fn f a b) s)
   | _,_=>none
 | .makeMap _ none=>some (.val (.mp s.nx) (s.new (.map [] 0)))
 | .makeSlice t l c=>match AZ G fr l,AZ G fr c with
   | some a,some b=>(JM P s t a b).map λr=>.val r.1 r.2
   | _,_=>none
 | .slice t x lo hi mx=>match AZ G fr x,tG G fr lo,tG G fr hi,tG G fr mx with
   | some a,some l,some h,some m=>(Mn P t a l h m).map λv=>.val v s
   | _,_,_,_=>none
 | .fieldAddr t x k=>((AZ G fr x).bind λa=>TA P t a k).map λv=>.val v s
 | .field t x k=>((AZ G fr x).bind λa=>cW P t a k).map λv=>.val v s
 | .indexAddr t x i=>match AZ G fr x,AZ G fr i with
   | some a,some b=>(CO P t a b).map λv=>.val v s
   | _,_=>none
 | .index t x i=>match AZ G fr x,AZ G fr i with
   | some a,some b=>(LH P t a b).map λv=>.val v s
   | _,_=>none
 | .lookup t x k ok=>match AZ G fr x,AZ G fr k with
   | some a,some b=>(JA P s t a b ok).map λv=>.val v s
   | _,_=>none
 | .mapUpdate t m k x=>match AZ G fr m,AZ G fr k,AZ G fr x with
   | some a,some b,some v=>(KV P s t a b v).map λs'=>.val (.sc undef) s'
   | _,_,_=>none
 | .insert t m k x=>match AZ G fr m,AZ G fr k,AZ G fr x with
   | some a,some b,some v=>(KV P s t a b v).map λs'=>.val (.sc undef) s'
   | _,_,_=>none
 | .mapEntry t m k=>match AZ G fr m,AZ G fr k with
   | some a,some b=>(Ro P s t a b).map λr=>.val r.1 r.2
   | _,_=>none
 | .entryStore _ m st x=>match AZ G fr m,AZ G fr st,AZ G fr x with
   | some a,some b,some v=>(M0 s a b v).map λs'=>.val (.sc undef) s'
   | _,_,_=>none
 | .extract x k=>((AZ G fr x).bind λa=>Tz a k).map λv=>.val v s
 | .call cl=>Vu P G fr s o cl
 | .panic x=>match AZ G fr x with
   | some (.ifc t v)=>some (.pan (.ifc t v))
   | _=>none
 | _=>none
def cM(_P:Program)(G:AK)(c:Cx)(w:World)(r:Result Next):AR->Prop
 | .val v s'=>∃u w' c',(r=.ok (.value u) w'\/(r=.ok .skip w'/\u=undef))/\Ext c w c' w'/\St G c' w' s'/\Rp c' w' v u
 | .ent f args=>∃vs,r=.ok (.enter f vs.toArray) w/\Cv c w args vs
 | .pan v=>∃u,r=.halt (.panic u) w/\Rp c w v u
def EC{P:Program}{G:AK}{c:Cx}{w:World}{s:AS}{v:AV}{m:Sem Value}(hs:St G c w s)(h:∃u,m.run P w=.ok u w/\Rp c w v u):cM P G c w ((do pure (Next.value (<- m)):Sem Next).run P w) (.val v s):=by
 obtain⟨u,h1,h2⟩:=h;exact⟨u,w,c,.inl (by simp[h1]),Ext.refl c w,hs,h2⟩
def O4{P:Program}{G:AK}{c:Cx}{w:World}{s':AS}{v:AV}{m:Sem Value}(h:∃u w' c',m.run P w=.ok u w'/\Ext c w c' w'/\St G c' w' s'/\Rp c' w' v u):cM P G c w ((do pure (Next.value (<- m)):Sem Next).run P w) (.val v s'):=by
 obtain⟨u,w',c',h1,h2⟩:=h;exact⟨u,w',c',.inl (by simp[h1]),h2⟩
def UJ{P:Program}{G:AK}{c:Cx}{w:World}{s':AS}{m:Sem Unit}(h:∃w',m.run P w=.ok () w'/\Ext c w c w'/\St G c w' s'):cM P G c w ((do m;pure Next.skip:Sem Next).run P w) (.val (.sc undef) s'):=by
 obtain⟨w',h1,h2,h3⟩:=h;exact⟨undef,w',c,.inr ⟨by simp[h1],rfl⟩,h2,h3,.sc rfl⟩
def map_some{α β:Type}{o:Option α}{f:α->β}{b:β}(h:o.map f=some b):∃a,o=some a/\f a=b:=by
 cases o with
 | none=>cases h
 | some a=>exact⟨a,rfl,by simpa using h⟩
def bind_some{α β:Type}{o:Option α}{f:α->Option β}{b:β}(h:o.bind f=some b):∃a,o=some a/\f a=some b:=by
 cases o with
 | none=>cases h
 | some a=>exact⟨a,rfl,by simpa using h⟩
end AI
namespace AI
open Go Go.RowKit
def TI{P:Program}{g:FuncId}(h:M5 P g=true)(args:Array Value)(w:World):(callFunc g args).run P w=.ok (.enter g args) w:=by
 unfold M5 at h;split at h;rename_i fn hf;simp only[bcA,bne_iff_ne,ne_eq] at h;obtain⟨b,hb⟩:=Option.isSome_iff_exists.1 h.2;simp[callFunc,hf,h.1,hb];cases h
def anD{P:Program}{G:AK}{c:Cx}{w:World}{s:AS}{fr:List AV}{ρ:Operand->Value}{o:Oper}{cl:Call}{r:AR}(hs:St G c w s)(Je:∀x∈cl.operands,kE G c w fr ρ x)(h:Vu P G fr s o cl=some r) :
   cM P G c w ((do let d <- resolve ρ cl o.type;invoke d.target d.args:Sem Next).run P w) r:=by
 have GB:∀x∈cl.args.toList,kE G c w fr ρ x:=λx hx=>Je x (by simp only[bqR,bmL];exact .inr (blP.1 hx));unfold Vu at h;split at h;rename_i He;split at h;rename_i x t hx ht;obtain⟨v,h1,rfl⟩:=map_some h;obtain⟨b,h2,h3⟩:=bind_some h1;have e1:cl.args=#[x]:=by apply bjQ;rw[hx]
 have e2:cl.argTypes=#[t]:=by apply bjQ;rw[ht]
 have:=EC hs (ayU (ty:=o.type) hs h3 (GB x (by rw[hx];simp) _ h2));simpa[resolve,He,e1,e2,invoke,builtin] using this
 cases h;rename_i He;split at h;rename_i x y t tx hx ht;split at h;rename_i b d h2 h3;obtain⟨v,h1,rfl⟩:=map_some h;have e1:cl.args=#[x,y]:=by apply bjQ;rw[hx]
 have e2:cl.argTypes=#[t,tx]:=by apply bjQ;rw[ht]
 have:=O4 (aaD (ty:=o.type) hs h1 (GB x (by rw[hx];simp) _ h2) (GB y (by rw[hx];simp) _ h3));simpa[resolve,He,e1,e2,invoke,builtin] using this
 cases h;cases h;rename_i He;obtain⟨vs,h1,h2⟩:=bind_some h;obtain⟨v,h3,rfl⟩:=map_some h2;obtain⟨as,h4,h5⟩:=bind_some h1;have e:=iV h5 (dY GB h4);have e1:cl.args.map ρ=vs.toArray:=by apply bjQ;rw[<- e];simp
 have:=EC hs (W9 h3 c w w);simpa[resolve,He,e1,invoke,builtin] using this
 rename_i He;obtain⟨vs,h1,h2⟩:=bind_some h;obtain⟨v,h3,rfl⟩:=map_some h2;obtain⟨as,h4,h5⟩:=bind_some h1;have e:=iV h5 (dY GB h4);have e1:cl.args.map ρ=vs.toArray:=by apply bjQ;rw[<- e];simp
 have:=EC hs (W9 h3 c w w);simpa[resolve,He,e1,invoke,builtin] using this
 · rename_i f He
   split at h
   · rename_i g first caps as h1 h2
     split at h
     · rename_i hc
       cases h;have hr:=Je f (by simp[bqR,He]) _ h1;have GB:=dY GB h2;generalize hv:ρ f=v at hr;cases hr with
       | @fn _ _ _ us vs q1 q2 =>
         refine⟨us++cl.args.toList.map ρ++vs,?_,(q1.append GB).append q2⟩
         have e3:(us++cl.args.toList.map ρ++vs).toArray=us.toArray++Array.map ρ cl.args++vs.toArray:=by
           apply bjQ;simp
         rw[e3];simp only[resolve,He,hv,biV,Deferred.ofValue,bjX,biS,invoke,TI hc]
     cases h
   cases h
 cases h
def pA{P:Program}{G:AK}{c:Cx}{w:World}{s:AS}{fr:List AV}{ρ:Operand->Value}{o:Oper}{r:AR}(hs:St G c w s)(Je:∀x∈o.op.operands,kE G c w fr ρ x)(hρ:∀k,ρ (.const k)=k)(h:RZ P G fr s o=some r) :
   cM P G c w ((execOp ρ o).run P w) r:=by
 unfold RZ at h;split at h;rename_i x ho;obtain⟨v,h1,rfl⟩:=map_some h;simp only[execOp,ho];exact⟨_,w,c,.inl rfl,Ext.refl c w,hs,Je x (by rw[ho];simp[bjA]) v h1⟩;rename_i x ho;obtain⟨v,h1,rfl⟩:=map_some h;simp only[execOp,ho];exact⟨_,w,c,.inl rfl,Ext.refl c w,hs,Je x (by rw[ho];simp[bjA]) v h1⟩;rename_i x y z ho;split at h;rename_i t hc;obtain⟨v,h1,rfl⟩:=map_some h;have hb:=Je x (by rw[ho];simp[bjA]) _ hc;generalize hv:ρ x=vx at hb;cases hb;simp only[execOp,ho,hv];refine⟨if t then ρ y else ρ z,w,c,.inl (by simp[asBool]),Ext.refl c w,hs,?_⟩
 cases t;exact Je z (by rw[ho];simp[bjA]) v h1;exact Je y (by rw[ho];simp[bjA]) v h1;cases h;rename_i e ho;obtain⟨z,h1,rfl⟩:=map_some h;obtain⟨zv,hzr,hzp⟩:=Xa h1 c w w;obtain⟨v',w',c',h2,h3⟩:=aeI (P:=P) (t:=e) hs hzp (lZ h1);simp only[execOp,ho];refine O4 ⟨v',w',c',?_,h3⟩;simp only[bpZ,biV] at h2;simp only[Instr.alloc,biV,hzr,biS];exact h2;rename_i e x ho;obtain⟨z,h1,h⟩:=bind_some h;split at h;cases h;rename_i hz;cases h;simp only[execOp,ho];exact O4 (aeI (P:=P) (t:=e) hs (Je x (by rw[ho];simp[bjA]) z h1) hz);rename_i t ps ho;obtain⟨v,h1,rfl⟩:=map_some h;obtain⟨qs,h2,h3⟩:=bind_some h1;simp only[execOp,ho];refine EC hs (ajD (qs:=ps.map λx=>(x.1,ρ x.2)) h3 (by simpa using dX (ρ:=ρ) (λx hx=>Je x.2 (by rw[ho];simp only[bjA,bqA,blE];exact⟨x,hx,rfl⟩)) h2) w)
 rename_i t n ps ho;obtain⟨v,h1,rfl⟩:=map_some h;obtain⟨qs,h2,h3⟩:=bind_some h1;simp only[execOp,ho];obtain⟨u,w',q1,q2⟩:=cU (qs:=ps.map λx=>(x.1,ρ x.2)) hs h3 (by simpa using dX (ρ:=ρ) (λx hx=>Je x.2 (by rw[ho];simp only[bjA,bqA,blE];exact⟨x,hx,rfl⟩)) h2)
 exact O4 ⟨u,w',c,q1,q2⟩;rename_i t x ho;obtain⟨v,h1,rfl⟩:=map_some h;obtain⟨b,h2,h3⟩:=bind_some h1;simp only[execOp,ho];exact EC hs (uD hs h3 (Je x (by rw[ho];simp[bjA]) b h2));rename_i t x y ho;split at h;rename_i b d h2 h3;obtain⟨s',h1,rfl⟩:=map_some h;simp only[execOp,ho];exact UJ (ajK hs h1 (Je x (by rw[ho];simp[bjA]) b h2) (Je y (by rw[ho];simp[bjA]) d h3));cases h
 · rename_i x ho
   split at h
   · rename_i v h1
     split at h
     · rename_i hn
       cases h;have hr:=Je x (by rw[ho];simp[bjA]) v h1;simp only[execOp,ho];generalize ρ x=vx at hr;cases hr with
       | ptr q=>exact⟨_,w,c,.inl rfl,Ext.refl c w,hs,.ptr q⟩
       | el q=>exact⟨_,w,c,.inl rfl,Ext.refl c w,hs,.el q⟩
       | @fn f _ _ us vs q1 q2 =>
         cases f with
         | func g=>exact⟨_,w,c,.inl rfl,Ext.refl c w,hs,.fn q1 q2⟩
         | _=>simp[notNil] at hn
       | _=>simp[notNil] at hn
     cases h
   cases h
 rename_i op t x y yt ho;split at h;rename_i b d h2 h3;obtain⟨v,h1,rfl⟩:=map_some h;simp only[execOp,ho];exact EC hs (ayS h1 (Je x (by rw[ho];simp[bjA]) b h2) (Je y (by rw[ho];simp[bjA]) d h3) (λk hk=>by rw[hk];exact hρ k) w);cases h;rename_i op t x ho;obtain⟨v,h1,h2⟩:=bind_some h;obtain⟨b,h3,h4⟩:=bind_some h1;obtain⟨q,h5,rfl⟩:=map_some h2;have e:=X8 h4 (Je x (by rw[ho];simp[bjA]) b h3);simp only[execOp,ho,e];exact EC hs (W9 h5 c w w);rename_i src dst x ho;obtain⟨q,h1,rfl⟩:=map_some h;obtain⟨b,h3,h4⟩:=bind_some h1;simp only[execOp,ho];exact EC hs (anE h4 (Je x (by rw[ho];simp[bjA]) b h3))
 · rename_i t x ho
   split at h
   · rename_i v d h1 hd
     split at h;cases h
     · rename_i hi
       cases h;simp only[execOp,ho];refine EC hs ⟨.iface t (ρ x),?_,.ifc (Je x (by rw[ho];simp[bjA]) v h1)⟩;unfold Instr.makeInterface;rw[biV,run_underlying hd];cases d<;>first | rfl | (simp[isIface] at hi;done)
   cases h
 rename_i f first caps ho
 split at h;rename_i b d h2 h3;cases h;simp only[execOp,ho];refine EC hs ⟨.func f (first.map ρ) (caps.map ρ),rfl,?_⟩
 have:=Rp.fn (f:=f) (dY (ρ:=ρ) (λx hx=>Je x (by rw[ho];simp only[bjA,bmL];exact .inl (blP.1 hx))) h2) (dY (ρ:=ρ) (λx hx=>Je x (by rw[ho];simp only[bjA,bmL];exact .inr (blP.1 hx))) h3);rwa[show(first.toList.map ρ).toArray=first.map ρ from by apply bjQ;simp,show(caps.toList.map ρ).toArray=caps.map ρ from by apply bjQ;simp] at this
 cases h;rename_i t ho;cases h;simp only[execOp,ho];exact O4 (uE (P:=P) (t:=t) hs);rename_i t x y ho;split at h;rename_i b d h2 h3;obtain⟨v,h1,rfl⟩:=map_some h;simp only[execOp,ho];exact O4 (kG hs h1 (Je x (by rw[ho];simp[bjA]) b h2) (Je y (by rw[ho];simp[bjA]) d h3));cases h;rename_i t x lo hi mx ho;split at h;rename_i b l hh m h2 h3 h4 h5;obtain⟨v,h1,rfl⟩:=map_some h;simp only[execOp,ho];exact EC hs (ajJ h1 (Je x (by rw[ho];simp[bjA]) b h2) (aaX (λy hy=>Je y (by rw[ho];simp only[bjA,bmL];exact .inl (.inl (.inr hy)))) h3) (aaX (λy hy=>Je y (by rw[ho];simp only[bjA,bmL];exact .inl (.inr hy))) h4) (aaX (λy hy=>Je y (by rw[ho];simp only[bjA,bmL];exact .inr hy)) h5));cases h;rename_i t x k ho;obtain⟨v,h1,rfl⟩:=map_some h;obtain⟨b,h2,h3⟩:=bind_some h1;simp only[execOp,ho];exact EC hs (uB h3 (Je x (by rw[ho];simp[bjA]) b h2));rename_i t x k ho;obtain⟨v,h1,rfl⟩:=map_some h;obtain⟨b,h2,h3⟩:=bind_some h1;simp only[execOp,ho];exact EC hs (ajF h3 (Je x (by rw[ho];simp[bjA]) b h2) w);rename_i t x y ho;split at h;rename_i b d h2 h3;obtain⟨v,h1,rfl⟩:=map_some h;simp only[execOp,ho];exact EC hs (uC h1 (Je x (by rw[ho];simp[bjA]) b h2) (Je y (by rw[ho];simp[bjA]) d h3));cases h;rename_i t x y ho;split at h;rename_i b d h2 h3;obtain⟨v,h1,rfl⟩:=map_some h;simp only[execOp,ho];exact EC hs (ajG h1 (Je x (by rw[ho];simp[bjA]) b h2) (Je y (by rw[ho];simp[bjA]) d h3) w);cases h;rename_i t x k ok ho;split at h;rename_i b d h2 h3;obtain⟨v,h1,rfl⟩:=map_some h;simp only[execOp,ho];exact EC hs (aaH hs h1 (Je x (by rw[ho];simp[bjA]) b h2) (Je k (by rw[ho];simp[bjA]) d h3));cases h;rename_i t m k x ho;split at h;rename_i b d e h2 h3 h4;obtain⟨s',h1,rfl⟩:=map_some h;simp only[execOp,ho];exact UJ (cZ hs h1 (Je m (by rw[ho];simp[bjA]) b h2) (Je k (by rw[ho];simp[bjA]) d h3) (Je x (by rw[ho];simp[bjA]) e h4));cases h;rename_i t m k x ho;split at h;rename_i b d e h2 h3 h4;obtain⟨s',h1,rfl⟩:=map_some h;simp only[execOp,ho];exact UJ (cZ hs h1 (Je m (by rw[ho];simp[bjA]) b h2) (Je k (by rw[ho];simp[bjA]) d h3) (Je x (by rw[ho];simp[bjA]) e h4));cases h;rename_i t m k ho;split at h;rename_i b d h2 h3;obtain⟨v,h1,rfl⟩:=map_some h;simp only[execOp,ho];obtain⟨u,w',q1,q2⟩:=oX hs h1 (Je m (by rw[ho];simp[bjA]) b h2) (Je k (by rw[ho];simp[bjA]) d h3);exact O4 ⟨u,w',c,q1,q2⟩;cases h;rename_i t m st x ho;split at h;rename_i b d e h2 h3 h4;obtain⟨s',h1,rfl⟩:=map_some h;simp only[execOp,ho];exact UJ (cV hs h1 (Je m (by rw[ho];simp[bjA]) b h2) (Je st (by rw[ho];simp[bjA]) d h3) (Je x (by rw[ho];simp[bjA]) e h4));cases h;rename_i x k ho;obtain⟨v,h1,rfl⟩:=map_some h;obtain⟨b,h2,h3⟩:=bind_some h1;simp only[execOp,ho];exact EC hs (uA h3 (Je x (by rw[ho];simp[bjA]) b h2) w);rename_i cl ho;simp only[execOp,ho];exact anD hs (λx hx=>Je x (by rw[ho];exact hx)) h;rename_i x ho;split at h;rename_i t v h1;cases h;have hr:=Je x (by rw[ho];simp[bjA]) _ h1;simp only[execOp,ho];generalize ρ x=vx at hr;cases hr with
 | ifc q=>exact⟨_,by simp[Instr.panic],.ifc q⟩
 cases h;cases h
def aaG{P:Program}{G:AK}{c:Cx}{w:World}{s:AS}{ρ:Operand->Value}{o:Oper}{e:TypeId}{z:AV}{id:Nat}(hs:St G c w s)(ho:o.op=.alloc e)(hz:M1 P e=some z)(hid:c.CJ[id]?=some none)(QW:s.get id=some (.cells (cellsOf z))) :
   ∃u w' c',(execOp ρ o).run P w=.ok (.value u) w'/\Mon c w c' w'/\St G c' w' s/\Rp c' w' (.ptr id 0) u/\(∀c0 w0,Ext c0 w0 c w->c0.CJ.length<=id->Ext c0 w0 c' w')/\∀i,i≠id->c'.CJ[i]?=c.CJ[i]?:=by
 obtain⟨zv,hzr,hzp⟩:=Xa hz c w w;obtain⟨v',w',c',h2,h3⟩:=ajC (P:=P) (t:=e) hs hzp (lZ hz) hid QW;refine⟨v',w',c',?_,h3⟩;simp only[execOp,ho];simp only[bpZ,biV] at h2;simp only[Instr.alloc,biV,hzr,biS];rw[h2];simp
end AI
namespace AI
open Go Go.RowKit
def Wa(acc:List Nat):List Edge->Nat
 | []=>0
 | e::es=>if bnZ .any e then Wa acc es ||| 2 ^ e.on ||| acc.getD e.on 0 else Wa acc es
def Ig:List Oper->List Nat->List Nat
 | [],acc=>acc
 | o::os,acc=>Ig os (acc++[Wa acc o.after.toList])
def Met(L:Nat->Bool)(o:Oper):Prop:=∀e∈o.after,bnZ .any e=true->L e.on=true
def OV(ops:List Oper)(L:Nat->Bool):Prop:=∀i o,ops[i]?=some o->L i=true->Met L o
def akT{ops:List Oper}{L:Nat->Bool}(hc:OV ops L){acc:List Nat}(kL:∀(j:Nat) m,acc[j]?=some m->∀o,ops[j]?=some o->∀i,m.testBit i=true->Met L o->L i=true)(hlen:acc.length<=ops.length)
   (es:List Edge) {i:Nat} (hb:(Wa acc es).testBit i=true) (hm:∀e∈es,bnZ .any e=true->L e.on=true):L i=true:=by
 induction es with
 | nil=>simp[Wa] at hb
 | cons e es ih =>
   simp only[Wa] at hb;split at hb
   · rename_i hbe
     rw[brZ,brZ,bqI,bqI] at hb;have he:=hm e bjW hbe;rcases hb with (hb | hb) | hb
     exact ih hb (λe he=>hm e (bjI _ he));rw[Nat.testBit_two_pow] at hb;have:e.on=i:=by simpa using hb
     rw[<- this];exact he
     · rw[bkG] at hb
       cases hg:acc[e.on]? with
       | none=>rw[hg] at hb;simp at hb
       | some m =>
         rw[hg] at hb;have hl:=(abH.1 hg).1;have hl2:e.on < ops.length:=by omega
         exact kL e.on m hg ops[e.on] (abI hl2) i hb (hc e.on _ (abI hl2) he)
   exact ih hb (λe he=>hm e (bjI _ he))
def atF{ops:List Oper}{L:Nat->Bool}(hc:OV ops L):∀(os:List Oper) (acc:List Nat),(∀k,os[k]?=ops[acc.length+k]?)->acc.length<=ops.length->(∀(j:Nat) m,acc[j]?=some m->∀o,ops[j]?=some o->∀i,m.testBit i=true->Met L o->L i=true) ->
   ∀(j:Nat) m,(Ig os acc)[j]?=some m->∀o,ops[j]?=some o->∀i,m.testBit i=true->Met L o->L i=true:=by
 intro os
 induction os with
 | nil=>intro acc _ _ kL;exact kL
 | cons o os ih =>
   intro acc hk hl kL;have h0:ops[acc.length]?=some o:=by have:=hk 0;simpa using this.symm
   have hlt:=(abH.1 h0).1;refine ih (acc++[Wa acc o.after.toList]) (λk=>?_) (by simp;omega) (λj m hj o' Zy i hb hm=>?_);have:=hk (k+1);simp only[List.getElem?_cons_succ] at this;rw[this];congr 1;simp;omega;by_cases hjl:j < acc.length;rw[List.getElem?_append_left hjl] at hj;exact kL j m hj o' Zy i hb hm;have hl2:=(abH.1 hj).1;simp at hl2;have:j=acc.length:=by omega
   subst this;rw[List.getElem?_concat_length] at hj;cases hj;rw[h0] at Zy;cases Zy;exact akT hc kL hl _ hb (λe he=>hm e (blP.1 he))
def UI(ms:List Nat)(j i:Nat):Bool:=(ms.getD j 0).testBit i
def dR{ops:List Oper}{L:Nat->Bool}(hc:OV ops L){j i:Nat}{o:Oper}(ho:ops[j]?=some o)(hm:Met L o)(hd:UI (Ig ops []) j i=true):L i=true:=by
 unfold UI at hd;rw[bkG] at hd;cases hg:(Ig ops [])[j]? with
 | none=>rw[hg] at hd;simp at hd
 | some m =>
   rw[hg] at hd;exact atF hc ops [] (λk=>by simp) (by simp) (λj m h=>by simp at h) j m hg o ho i hd hm
def quiet:Op->Bool
 | .move _ | .assign _ | .pick .. | .build .. | .buildSlice .. | .load .. | .nilCheck _ | .binOp .. | .unOp .. | .convert .. | .makeInterface .. | .makeFunc .. | .slice .. | .fieldAddr .. | .field .. | .indexAddr .. | .index .. | .lookup .. | .extract ..=>true
 | .call cl=>(match cl.callee with
   | .builtin .len | .builtin .max | .builtin .min=>true
   | _=>false)
 | _=>false
def BM:Op->Bool
 | .alloc _=>true
 | _=>false
def Ld{op:Op}(h:BM op=true):∃e,op=.alloc e:=by
 unfold BM at h;split at h;exact⟨_,rfl⟩;cases h
def calm(op:Op):Bool:=match BM op with
 | true=>true
 | false=>quiet op
def dK{op:Op}(h:quiet op=true):calm op=true:=by
 unfold calm;cases BM op;exact h;rfl
def dJ{op:Op}(h:calm op=true):quiet op=true\/∃e,op=.alloc e:=by
 unfold calm at h;cases ha:BM op with
 | true=>exact .inr (Ld ha)
 | false=>rw[ha] at h;exact .inl h
def rkL:List Oper->Nat->Nat
 | _,0=>0
 | [],_+1=>0
 | o::l,n+1=>(match BM o.op with | true=>1 | false=>0)+rkL l n
def rk(ops:Array Oper)(i:Nat):Nat:=rkL ops.toList i
def acY{l:List Oper}{i j:Nat}{o:Oper}(ho:l[i]?=some o)(ha:BM o.op=true)(h:i < j):rkL l i < rkL l j:=by
 induction l generalizing i j with
 | nil=>simp at ho
 | cons x l ih =>
   cases j with
   | zero=>omega
   | succ j =>
     cases i with
     | zero =>
       simp at ho;subst ho;simp only[rkL,ha];omega
     | succ i =>
       have:=ih (i:=i) (j:=j) (by simpa using ho) (by omega)
       simp only[rkL];omega
def aSJ{ops:Array Oper}{i j:Nat}{x y:Oper}(hx:ops[i]?=some x)(hy:ops[j]?=some y)(hxa:BM x.op=true)(qR:BM y.op=true)(h:rk ops i=rk ops j):i=j:=by
 have Z2:ops.toList[i]?=some x:=by rw[biZ];exact hx
 have hy':ops.toList[j]?=some y:=by rw[biZ];exact hy
 unfold rk at h;rcases Nat.lt_trichotomy i j with hlt | he | hlt
 have:=acY Z2 hxa hlt;omega;exact he;have:=acY hy' qR hlt;omega
def Rx(ops:Array Oper)(x y:Oper):Bool :=
 (!calm x.op&&!calm y.op) ||
 (match x.dst with
  | some d=>(y.looksAt ops).contains d||y.dst == some d
  | none=>false) ||
 (match y.dst with
  | some d=>(x.looksAt ops).contains d
  | none=>false)
def gE(ops:Array Oper)(ms:List Nat)(j:Nat)(y:Oper):List Oper->Nat->Bool
 | [],_=>true
 | x::xs,i=>(if i < j then !Rx ops x y||UI ms j i else true)&&gE ops ms j y xs (i+1)
def bW(ops:Array Oper)(ms:List Nat):List Oper->Nat->Bool
 | [],_=>true
 | y::ys,j=>gE ops ms j y ops.toList 0&&(y.after.toList.all λe=>!Region.binds .any e||decide (e.on < j))&&bW ops ms ys (j+1)
def Nb(ops:Array Oper):Bool:=bW ops (Ig ops.toList []) ops.toList 0
def akX{ops:Array Oper}{ms:List Nat}{j:Nat}{y:Oper}:∀(xs:List Oper) (i:Nat),gE ops ms j y xs i=true->∀k x,xs[k]?=some x->i+k < j->Rx ops x y=true->UI ms j (i+k)=true:=by
 intro xs
 induction xs with
 | nil=>intro i _ k x hx;simp at hx
 | cons z xs ih =>
   intro i h k x hx hlt He;simp only[gE,bcA] at h;cases k with
   | zero =>
     simp at hx;subst hx;rw[Nat.add_zero] at hlt ⊢;have:=h.1;rw[if_pos hlt,He] at this;simpa using this
   | succ k =>
     have:=ih (i+1) h.2 k x (by simpa using hx) (by omega) He
     rwa[show i+1+k=i+(k+1) from by omega] at this
def gF{ops:Array Oper}{ms:List Nat}:∀(ys:List Oper) (j:Nat),bW ops ms ys j=true->∀k y,ys[k]?=some y->gE ops ms (j+k) y ops.toList 0=true/\∀e∈y.after,bnZ .any e=true->e.on < j+k:=by
 intro ys
 induction ys with
 | nil=>intro j _ k y hy;simp at hy
 | cons z ys ih =>
   intro j h k y hy;simp only[bW,bcA] at h;cases k with
   | zero =>
     simp at hy;subst hy;refine⟨h.1.1,λe he hb=>?_⟩;have:=List.all_eq_true.1 h.1.2 e (blP.2 he);rw[hb] at this;simpa using this
   | succ k =>
     have:=ih (j+1) h.2 k y (by simpa using hy)
     rwa[show j+1+k=j+(k+1) from by omega] at this
def nK{ops:Array Oper}(h:Nb ops=true){i j:Nat}{x y:Oper}(hx:ops[i]?=some x)(hy:ops[j]?=some y)(hlt:i < j)(hc:Rx ops x y=true):UI (Ig ops.toList []) j i=true:=by
 have h1:=(gF ops.toList 0 h j y (by rw[biZ];exact hy)).1;rw[bcD] at h1;have:=akX ops.toList 0 h1 i x (by rw[biZ];exact hx) (by omega) hc;rwa[bcD] at this
def xA{ops:Array Oper}(h:Nb ops=true){j:Nat}{y:Oper}(hy:ops[j]?=some y){e:Edge}(he:e∈y.after)(hb:bnZ .any e=true):e.on < j:=by
 have:=(gF ops.toList 0 h j y (by rw[biZ];exact hy)).2 e he hb;omega
def IW(fr:List AV)(dst:Option Tmp)(v:AV):List AV:=match dst with
 | some d=>fr.set d v
 | none=>fr
def Qm{c:Cx}{w:World}{fr:List AV}{a:Act}{dst:Option Tmp}{v:AV}{u:Value}(h:Cv c w fr a.tmps.toList)(hv:Rp c w v u):Cv c w (IW fr dst v) (a.put dst u).tmps.toList:=by
 cases dst with
 | none=>exact h
 | some d=>simp only[IW,Act.put,Array.toList_setIfInBounds];exact h.set hv d
def IJ(f0:List AV)(dst:Nat->Option Tmp)(vals:Nat->AV)(L:Nat->Bool):Nat->List AV
 | 0=>f0
 | n+1=>if L n then IW (IJ f0 dst vals L n) (dst n) (vals n) else IJ f0 dst vals L n
def TD{fr:List AV}{dst:Option Tmp}{v:AV}{t:Nat}(h:dst≠some t):(IW fr dst v)[t]?=fr[t]?:=by
 cases dst with
 | none=>rfl
 | some d=>exact List.getElem?_set_ne (λe=>h (by rw[e]))
def anH{fr:List AV}{dst:Option Tmp}{v:AV}:(IW fr dst v).length=fr.length:=by cases dst<;>simp[IW]
def Ql{fr:List AV}{v:AV}{t:Nat}:(IW fr (some t) v)[t]?=if t < fr.length then some v else none:=by simp[IW,List.getElem?_set]
def bH(f0:List AV)(dst:Nat->Option Tmp)(vals:Nat->AV)(L:Nat->Bool)(n:Nat):(IJ f0 dst vals L n).length=f0.length:=by
 induction n with
 | zero=>rfl
 | succ n ih=>simp only[IJ];split<;>simp[anH,ih]
def eB{f0:List AV}{dst:Nat->Option Tmp}{vals:Nat->AV}{L M:Nat->Bool}{t:Nat}:∀(n:Nat),(∀i,i < n->dst i=some t->L i=M i)->(IJ f0 dst vals L n)[t]?=(IJ f0 dst vals M n)[t]?:=by
 intro n
 induction n with
 | zero=>intro _;rfl
 | succ n ih =>
   intro h;have ih:=ih (λi hi hd=>h i (by omega) hd);by_cases hd:dst n=some t;have:=h n (by omega) hd;simp only[IJ,this];split;rw[hd,Ql,Ql,bH,bH];exact ih
   have e:∀K:Nat->Bool,(IJ f0 dst vals K (n+1))[t]?=(IJ f0 dst vals K n)[t]?:=by
     intro K;simp only[IJ];split;exact TD hd;rfl
   rw[e,e,ih]
def afD{f0:List AV}{dst:Nat->Option Tmp}{vals:Nat->AV}{L:Nat->Bool}{t j:Nat}:∀(n:Nat),j<=n->(∀i,j<=i->i < n->dst i=some t->L i=false)->(IJ f0 dst vals L n)[t]?=(IJ f0 dst vals L j)[t]?:=by
 intro n
 induction n with
 | zero=>intro hj _;have:j=0:=by omega
         subst this;rfl
 | succ n ih =>
   intro hj h;by_cases hn:j=n+1;subst hn;rfl;have ih:=ih (by omega) (λi h1 h2 hd=>h i h1 (by omega) hd);rw[<- ih];simp only[IJ];split;rename_i hL;by_cases hd:dst n=some t;have:=h n (by omega) (by omega) hd;rw[this] at hL;cases hL;exact TD hd;rfl
end AI
