/- Part of a proof: see the last text. -/
import Derived.Test.YtpbkhogolfegfaaGreatDoorPnb
import Derived.Lib.Strings
set_option linter.unusedVariables false
set_option linter.unusedSimpArgs false
set_option linter.defProp false
noncomputable section
open Array renaming ext'->bjQ,getElem?_eq_some_iff->aOA,getElem?_toList->biZ,length_toList->bjF
open Bool renaming and_eq_true->bcA
open Go renaming sizeOf->bpB
open Go.Builtin renaming append_->blK,firstCells->bkE,lenOf->bsI,len_->bnG,zeroCells->bjN
open Go.Instr renaming buildSlice->boK,checkKey->brX,extract->bsF,fieldAt->bqP,findKey->bsK,findNow->bmK,index->bkO,indexAt->bnO,lookup->bnY,makeMap->bsL,mapUpdate->bqH,sameBits->bpE,sameNow->bsJ,slice->bqK,sliceAt->bnB,sliceBound->brJ,sliceBounds->blR,sureAddr->blJ
open Go.Op renaming bytesLess->bqF
open Go.Question renaming appendCap->bpD
open Go.Result renaming andThen_ok->biS
open Go.Sem renaming run_bind->biV,run_pure->bjX
open Go.World renaming cell?->bkS,cell?_of_block->bmO
open List renaming drop_nil->bsG,eq_nil_of_length_eq_zero->biP,ext_getElem?->bmP,getElem?_append_left->bcF,getElem?_concat_length->bkJ,getElem?_eq_getElem->abI,getElem?_eq_some_iff->abH,getElem?_set_ne->bkF,getElem?_set_self->bjT,getElem?_take->blN,getElem?_toArray->blH,length_append->V5,length_drop->biR,length_take->bjG,mem_of_getElem?->bcH,range->bjR,size_toArray->bkR,take_nil->bsH
open Nat renaming add_mul->blG,add_zero->bkH,le_refl->aOC,le_trans->bjH,lt_of_lt_of_le->bcC,mul_le_mul_right->blO,sub_zero->bnX,zero_add->bcD,zero_le->bkI
open Option renaming bind_some->NF,map_some->biQ
open Option.some renaming inj->bjE,injEq->aOE
namespace AI
open Go Go.RowKit
def zM{c:Cx}{w:World}{zs:List AV}{vs:List Value}(h:Cv c w zs vs)(m:Nat)(hm:m≠0->zs≠[]) :
   Cv c w ((bjR m).map λi=>zs.getD (i % zs.length) (.sc undef)) ((bjR m).map λi=>vs.toArray[i % vs.toArray.size]!):=by
 refine Cv.aRQ (by simp) (λi a v h1 h2=>?_);rw[List.getElem?_map] at h1 h2;cases hr:(bjR m)[i]? with
 | none=>rw[hr] at h1;cases h1
 | some j =>
   rw[hr] at h1 h2;simp only[biQ,aOE] at h1 h2;have hj:j < m:=List.mem_range.1 (bcH hr);have hne:=hm (by omega);have hlen:zs.length≠0:=λe=>hne (biP e);have hlt:j % zs.length < zs.length:=Nat.mod_lt _ (by omega);have hl:=h.len;have hg:zs[j % zs.length]?=some (zs[j % zs.length]'hlt):=abI hlt;obtain⟨v',hv',hrv⟩:=h.get hg;rw[List.getD_eq_getElem?_getD,hg] at h1;subst h1;rw[bkR,hl] at h2
   have:vs.toArray[j % zs.length]! = v':=by
     rw[getElem!_def,blH,hv']
   rw[this] at h2;subst h2;exact hrv
def MZ(P:Program)(t:TypeId)(len:Nat)(parts:List (Nat×AV)):Option AV :=
 match P.underlying t with
 | some (.slice elem)=>match P.info? elem with
   | some e=>if len*e.size<=16777216 then
       (if len*e.size=0 then (if len=0/\parts.isEmpty=true then some (.sl .full 0 []) else none) else match e.zero with
         | some z=>match ML z.cells.toList with
           | some zs=>if zs.isEmpty=true then none else (Vv (λi=>some (i*e.size,e.size)) ((bjR (len*e.size)).map λi=>zs.getD (i % zs.length) (.sc undef)) parts).map (.sl .full len)
           | none=>none
         | none=>none)
     else none
   | none=>none
 | _=>none
def cU{P:Program}{G:AK}{c:Cx}{w:World}{s:AS}{t:TypeId}{len:Nat}{ps:List (Nat×AV)}{r:AV}{qs:Array (Nat×Value)}(hs:St G c w s)(h:MZ P t len ps=some r)(hp:PL c w ps qs.toList) :
   ∃u w',(boK t len qs).run P w=.ok u w'/\Ext c w c w'/\St G c w' s/\Rp c w' r u:=by
 unfold MZ at h;split at h
 · rename_i elem hu
   split at h
   · rename_i e he
     split at h
     · rename_i h24
       split at h;rename_i h0;split at h;rename_i hz;cases h
       have hq:qs.toList=[]:=by
         have jX:ps=[]:=List.isEmpty_iff.1 hz.2;subst jX;have:∀l,PL c w [] l->l=[]:=λl h=>by cases h;rfl
         exact this _ hp
       obtain⟨rfl,_⟩:=hz;obtain⟨x,st⟩:=hs.same (O1 w (.cells #[] elem));refine⟨.slice (some ⟨w.heap.size,0,none⟩) 0 0,_,?_,x,st,.sl0 rfl⟩;have hz0:Array.range 0=#[]:=rfl;simp[boK,run_underlying hu,CG he,hq,Instr.fill,newRow,hz0];cases h
       · rename_i h0
         split at h
         · rename_i z hz
           split at h
           · rename_i zs hzs
             split at h;cases h
             · rename_i hne
               have hzr:=Sn hzs c w;have hin:=zM hzr (len*e.size) (λ_ hn=>hne (by rw[hn];rfl));simp only[Array.toArray_toList] at hin;cases hf:Vv (λi=>some (i*e.size,e.size)) ((bjR (len*e.size)).map λi=>zs.getD (i % zs.length) (.sc undef)) ps with
               | none=>rw[hf] at h;cases h
               | some cs =>
                 rw[hf] at h;cases h;obtain⟨us,Zx,hur⟩:=cX hf hin hp;obtain⟨x,st⟩:=hs.same (O1 w (.cells us.toArray elem));refine⟨.slice (some ⟨w.heap.size,0,none⟩) len len,_,?_,x,st,.K6 (aOC _) (A1.Qw (hur.mono x) (λi v hv=>by rw[bcD];exact hs.aGC us elem hv)) rfl⟩
                 have aqX:(Array.range (len*e.size)).map (λi=>z.cells[i % z.cells.size]!)=((bjR (len*e.size)).map λi=>z.cells[i % z.cells.size]!).toArray:=by
                   apply bjQ;simp
                 rw[<- aqX] at Zx;have bbX:¬16777216 < len*e.size:=by omega
                 unfold boK;simp only[biV,run_underlying hu,biS,CG he,Sem.run_ite,gt_iff_lt,show(2:Nat) ^ 24=16777216 from rfl,bbX,if_false,bjX,h0,zeroValue,typeInfo,run_program,hz,he,Zx];simp[newRow]
           cases h
         cases h
     cases h
   cases h
 cases h
def TA(P:Program)(st:TypeId)(a:AV)(k:Nat):Option AV :=
 match P.underlying st with
 | some (.struct fields)=>match fields.toList[k]? with
   | some f=>match P.info? f.type with
     | some i=>if i.size=0 then none else match a with
       | .ptr id off=>some (.ptr id (off+f.offset))
       | .el cs=>some (.el (cs.drop f.offset))
       | _=>none
     | none=>none
   | none=>none
 | _=>none
def uB{P:Program}{c:Cx}{w:World}{st:TypeId}{a r:AV}{k:Nat}{v:Value}(h:TA P st a k=some r)(ha:Rp c w a v):∃u,(bqP st v k).run P w=.ok u w/\Rp c w r u:=by
 unfold TA at h;split at h
 · rename_i fields hu
   split at h
   · rename_i f hf
     split at h
     · rename_i i hi
       split at h;cases h
       · rename_i h0
         have jV:fields[k]?=some f:=by rw[<- biZ];exact hf
         split at h
         · cases h
           cases ha with
           | ptr hid =>
             refine⟨_,?_,.ptr hid⟩;simp[bqP,run_underlying hu,jV,blJ,fieldPlace,CG hi,h0,add_lit]
         · cases h
           cases ha with
           | el hc =>
             refine⟨_,?_,.el (hc.drop f.offset)⟩;simp[bqP,run_underlying hu,jV,blJ,fieldPlace,CG hi,h0,add_lit]
         cases h
     cases h
   cases h
 cases h
def cW(P:Program)(st:TypeId)(a:AV)(k:Nat):Option AV :=
 match P.underlying st with
 | some (.struct fields)=>match fields.toList[k]? with
   | some f=>match a with
     | .agg cs=>apart P f.type cs f.offset
     | _=>none
   | none=>none
 | _=>none
def ajF{P:Program}{c:Cx}{w:World}{st:TypeId}{a r:AV}{k:Nat}{v:Value}(h:cW P st a k=some r)(ha:Rp c w a v)(w0:World):∃u,(Instr.field st v k).run P w0=.ok u w0/\Rp c w r u:=by
 unfold cW at h;split at h
 · rename_i fields hu
   split at h
   · rename_i f hf
     split at h
     · cases ha with
       | agg hr =>
         have jV:fields[k]?=some f:=by rw[<- biZ];exact hf
         obtain⟨u,h1,h2⟩:=dA h hr w0;exact⟨u,by simp[Instr.field,run_underlying hu,jV,asAgg,h1],h2⟩
     cases h
   cases h
 cases h
def Tc:AV->Option Nat
 | .sc (.int _ i)=>if 0<=i then some i.toNat else none
 | _=>none
def Oe{c:Cx}{w:World}{a:AV}{v:Value}{n:Nat}(h:Tc a=some n)(ha:Rp c w a v):∃k i,v=.int k i/\0<=i/\i.toNat=n:=by
 unfold Tc at h;split at h;rename_i k i;split at h;rename_i h0;cases h;cases ha;exact⟨k,i,rfl,h0,rfl⟩;cases h;cases h
def CO(P:Program)(t:TypeId)(x ix:AV):Option AV :=
 match P.underlying t,Tc ix with
 | some (.slice elem),some i=>match P.info? elem,x with
   | some e,.sl _ n cs=>if i < n then some (.el (cs.drop (i*e.size))) else none
   | some e,.msl id off n=>if i < n then some (.ptr id (off+i*e.size)) else none
   | _,_=>none
 | some (.array len elem),some i=>match P.info? elem,x with
   | some e,.ptr id off=>if i < len then some (.ptr id (off+i*e.size)) else none
   | some e,.el cs=>if i < len then some (.el (cs.drop (i*e.size))) else none
   | _,_=>none
 | _,_=>none
def uC{P:Program}{c:Cx}{w:World}{t:TypeId}{x ix r:AV}{v vi:Value}(h:CO P t x ix=some r)(hx:Rp c w x v)(hi:Rp c w ix vi):∃u,(bnO t v vi).run P w=.ok u w/\Rp c w r u:=by
 unfold CO at h;split at h
 · rename_i elem i hu hn
   obtain⟨k,z,rfl,hz0,rfl⟩:=Oe hn hi;split at h
   · rename_i e n cs he
     split at h
     · rename_i hlt
       cases h;have hz1:z < (n:Int):=by omega
       cases hx with
       | sl0=>omega
       | K6 hn hc ho =>
         refine⟨_,?_,.el (hc.drop _)⟩;simp[bnO,asIntOf,run_underlying hu,hz0,hz1,CG he,add_lit]
     cases h
   · rename_i e id off n he
     split at h
     · rename_i hlt
       cases h;have hz1:z < (n:Int):=by omega
       cases hx with
       | msl hn hid =>
         refine⟨_,?_,.ptr hid⟩;simp[bnO,asIntOf,run_underlying hu,hz0,hz1,CG he,add_lit]
     cases h
   cases h
 · rename_i len elem i hu hn
   obtain⟨k,z,rfl,hz0,rfl⟩:=Oe hn hi;split at h
   · rename_i e id off he
     split at h
     · rename_i hlt
       cases h;have hz1:z < (len:Int):=by omega
       cases hx with
       | ptr hid =>
         refine⟨_,?_,.ptr hid⟩;simp[bnO,asIntOf,run_underlying hu,hz0,hz1,CG he,add_lit,blJ]
     cases h
   · rename_i e cs he
     split at h
     · rename_i hlt
       cases h;have hz1:z < (len:Int):=by omega
       cases hx with
       | el hc =>
         refine⟨_,?_,.el (hc.drop _)⟩;simp[bnO,asIntOf,run_underlying hu,hz0,hz1,CG he,add_lit,blJ]
     cases h
   cases h
 cases h
def LH(P:Program)(t:TypeId)(x ix:AV):Option AV :=
 match P.underlying t,Tc ix with
 | some (.array len elem),some i=>match P.info? elem,x with
   | some e,.agg cs=>if i < len then apart P elem cs (i*e.size) else none
   | _,_=>none
 | some .string,some i=>match x with
   | .sc (.string s)=>match s.data.toList[i]? with
     | some b=>some (.sc (.int .u8 b.toNat))
     | none=>none
   | _=>none
 | _,_=>none
def ajG{P:Program}{c:Cx}{w:World}{t:TypeId}{x ix r:AV}{v vi:Value}(h:LH P t x ix=some r)(hx:Rp c w x v)(hi:Rp c w ix vi)(w0:World):∃u,(bkO t v vi).run P w0=.ok u w0/\Rp c w r u:=by
 unfold LH at h;split at h
 · rename_i len elem i hu hn
   obtain⟨k,z,rfl,hz0,rfl⟩:=Oe hn hi;split at h
   · rename_i e cs he
     split at h
     · rename_i hlt
       have hz1:z < (len:Int):=by omega
       cases hx with
       | agg hr =>
         obtain⟨u,h1,h2⟩:=dA h hr w0;exact⟨u,by simp[bkO,asIntOf,run_underlying hu,hz0,hz1,CG he,h1],h2⟩
     cases h
   cases h
 rename_i i hu hn;obtain⟨k,z,rfl,hz0,rfl⟩:=Oe hn hi;split at h;rename_i s;split at h;rename_i b hb;cases h;cases hx;refine⟨_,?_,.sc rfl⟩
 have Xt:s[z.toNat]?=some b:=by
   rw[<- hb];have hlt:=(abH.1 hb).1;have hl2:z.toNat < s.size:=by simpa using hlt
   rw[getElem?_pos s z.toNat hl2,abI hlt];rfl
 simp[bkO,asIntOf,run_underlying hu,hz0,Xt];cases h;cases h;cases h
def Tz(x:AV)(k:Nat):Option AV :=
 match x with
 | .E9 vs=>vs[k]?
 | _=>none
def uA{P:Program}{c:Cx}{w:World}{x r:AV}{k:Nat}{v:Value}(h:Tz x k=some r)(hx:Rp c w x v)(w0:World):∃u,(bsF v k).run P w0=.ok u w0/\Rp c w r u:=by
 unfold Tz at h;split at h
 · cases hx with
   | E9 hr =>
     obtain⟨u,h1,h2⟩:=hr.get h;exact⟨u,by simp[bsF,h1],h2⟩
 cases h
end AI
namespace AI
open Go Go.RowKit
def iU:AV->Option Value
 | .sc v=>some v
 | _=>none
def QL:List AV->Option (List Value)
 | []=>some []
 | a::as=>match iU a,QL as with
   | some v,some vs=>some (v::vs)
   | _,_=>none
def X9:AV->Option Value
 | .sc v=>some v
 | .agg cs=>(QL cs).map λl=>.agg l.toArray
 | _=>none
def X8{c:Cx}{w:World}{a:AV}{v u:Value}(h:iU a=some v)(ha:Rp c w a u):u=v:=by
 unfold iU at h;split at h;cases h;cases ha;rfl;cases h
def iV{c:Cx}{w:World}{as:List AV}{vs us:List Value}(h:QL as=some vs)(ha:Cv c w as us):us=vs:=by
 induction as generalizing vs us with
 | nil=>simp[QL] at h;subst h;cases ha;rfl
 | cons a as ih =>
   simp only[QL] at h;split at h;rename_i v vs' h1 h2;cases h;cases ha with
   | cons p q=>rw[X8 h1 p,ih h2 q]
   cases h
def yS{c:Cx}{w:World}{a:AV}{v u:Value}(h:X9 a=some v)(ha:Rp c w a u):u=v:=by
 unfold X9 at h;split at h;cases h;cases ha;rfl
 · rename_i cs
   cases hc:QL cs with
   | none=>rw[hc] at h;cases h
   | some l =>
     rw[hc] at h;cases h;cases ha with
     | agg hr=>rw[iV hc hr]
 cases h
def lL(v:Value):Option AV:=if scalar v then some (.sc v) else none
def sG{v:Value}{a:AV}(h:lL v=some a)(c:Cx)(w:World):Rp c w a v:=by
 unfold lL at h;split at h;rename_i hs;cases h;exact .sc hs;cases h
def aaJ(op:BinOp)(x y:ByteArray):Option Value :=
 match op with
 | .add=>if x.data.toList.length+y.data.toList.length<=9223372036854775807 then some (.string ⟨(x.data.toList++y.data.toList).toArray⟩) else none
 | .eql=>some (.bool (x.data.toList == y.data.toList))
 | .neq=>some (.bool (!(x.data.toList == y.data.toList)))
 | .lss=>some (.bool (bqF x.data.toList y.data.toList))
 | .leq=>some (.bool (bqF x.data.toList y.data.toList||x.data.toList == y.data.toList))
 | .gtr=>some (.bool (!(bqF x.data.toList y.data.toList||x.data.toList == y.data.toList)))
 | .geq=>some (.bool (!(bqF x.data.toList y.data.toList)))
 | _=>none
def SY(P:Program)(op:BinOp)(t:TypeId)(xo yo:Operand)(a b:AV):Option AV :=
 match a,b with
 | .sc (.string x),.sc (.string y)=>(aaJ op x y).bind lL
 | a,b=>match X9 a,X9 b with
   | some u,some v=>(pv P (do eqGuard op t xo yo u v;binOp op t u v)).bind lL
   | _,_=>none
def W8(x y:ByteArray):x++y=⟨(x.data.toList++y.data.toList).toArray⟩:=by
 apply ByteArray.ext;simp
def anB{P:Program}{c:Cx}{w:World}{op:BinOp}{t:TypeId}{xo yo:Operand}{a b r:AV}{u v:Value}(h:SY P op t xo yo a b=some r)(ha:Rp c w a u)(hb:Rp c w b v)(w0:World) :
   ∃z,(do eqGuard op t xo yo u v;binOp op t u v:Sem Value).run P w0=.ok z w0/\Rp c w r z:=by
 unfold SY at h;split at h
 · rename_i x y
   cases ha;cases hb;cases hs:aaJ op x y with
   | none=>rw[hs] at h;cases h
   | some z =>
     rw[hs,NF] at h;refine⟨z,?_,sG h c w⟩;have hl1:x.data.toList.length=x.size:=by simp
     have hl2:y.data.toList.length=y.size:=by simp
     unfold aaJ at hs;split at hs;split at hs;rename_i hle;cases hs;rw[hl1,hl2] at hle
     have:¬((x.size+y.size:Nat):Int) > IntKind.i64.max:=by
       show ¬((x.size+y.size:Nat):Int) > 9223372036854775807;omega
     simp[eqGuard,binOp,Op.stringOp,W8];omega;cases hs
     all_goals first
       | (cases hs;simp[eqGuard,binOp,Op.stringOp,ByteArray.toList_eq];done)
       | (cases hs;done)
 · split at h
   · rename_i u' v' h1 h2
     have e1:=yS h1 ha;have e2:=yS h2 hb;subst e1 e2;cases hp:pv P (do eqGuard op t xo yo u v;binOp op t u v) with
     | none=>rw[hp] at h;cases h
     | some z =>
       rw[hp,NF] at h;exact⟨z,auT _ hp w0,sG h c w⟩
   cases h
def aYT:Operand->Bool
 | .const (.slice none 0 0)=>true
 | _=>false
def anG(P:Program)(op:BinOp)(t:TypeId)(yo:Operand)(z:Bool):Option AV:=match aYT yo,P.underlying t with
 | true,some (.slice _)=>(match op with
   | .eql=>some (.sc (.bool z))
   | .neq=>some (.sc (.bool (!z)))
   | _=>none)
 | _,_=>none
def LG(P:Program)(op:BinOp)(t:TypeId)(xo yo:Operand)(a b:AV):Option AV :=
 match a with
 | .sl .nil _ _=>anG P op t yo true
 | .sl .nn _ _=>anG P op t yo false
 | a=>SY P op t xo yo a b
def oZ{P:Program}{op:BinOp}{t:TypeId}{xo yo:Operand}{z:Bool}{r:AV}{A:Option Addr}{n cap:Nat}{v:Value}(h:anG P op t yo z=some r)(hA:A.isNone=z)(hy:∀k,yo=.const k->v=k)(c:Cx)(w w0:World) :
   ∃q,(do eqGuard op t xo yo (.slice A n cap) v;binOp op t (.slice A n cap) v:Sem Value).run P w0=.ok q w0/\Rp c w r q:=by
 unfold anG at h;split at h;rename_i e hn hu
 have hv:v=.slice none 0 0:=by
   unfold aYT at hn;split at hn;exact hy _ rfl;cases hn
 subst hv
 have Rk:(Op.equal t (.slice A n cap) (.slice none 0 0)).run P w0=.ok z w0:=by
   unfold Op.equal;obtain⟨d,hd⟩:∃d,Op.maxDepth=d+1:=⟨_,rfl⟩;rw[hd];unfold Op.equalIn;rw[biV,run_underlying hu,biS];cases A with
   | none=>simp only[Option.isNone_none] at hA;subst hA;rfl
   | some a=>simp only[Option.isNone_some] at hA;subst hA;rfl
 split at h;cases h;exact⟨.bool z,by simp only[eqGuard,binOp];rw[biV];simp[Rk],.sc rfl⟩;cases h;exact⟨.bool !z,by simp only[eqGuard,binOp];rw[biV];simp[Rk],.sc rfl⟩;cases h;cases h
def ayS{P:Program}{c:Cx}{w:World}{op:BinOp}{t:TypeId}{xo yo:Operand}{a b r:AV}{u v:Value}(h:LG P op t xo yo a b=some r)(ha:Rp c w a u)(hb:Rp c w b v)(hy:∀k,yo=.const k->v=k)(w0:World) :
   ∃z,(do eqGuard op t xo yo u v;binOp op t u v:Sem Value).run P w0=.ok z w0/\Rp c w r z:=by
 unfold LG at h;split at h;cases ha with
 | sl0 h0=>exact oZ h h0 hy c w w0
 | K6 _ _ ho=>exact ho.elim
 cases ha with
 | sl0 h0=>exact oZ h h0 hy c w w0
 | K6 _ _ ho=>exact oZ h rfl hy c w w0
 exact anB h ha hb w0
def Zr(P:Program)(s:Sem Value):Option AV:=(pv P s).bind lL
def W9{P:Program}{s:Sem Value}{r:AV}(h:Zr P s=some r)(c:Cx)(w w0:World):∃z,s.run P w0=.ok z w0/\Rp c w r z:=by
 unfold Zr at h;cases hp:pv P s with
 | none=>rw[hp] at h;cases h
 | some z =>
   rw[hp,NF] at h;exact⟨z,auT _ hp w0,sG h c w⟩
def OW(d:Nat):Option AV->Option Nat
 | none=>some d
 | some a=>Tc a
inductive RO(c:Cx)(w:World):Option AV->Option Value->Prop where
 | none:RO c w none none
 | some {a:AV} {v:Value} (h:Rp c w a v):RO c w (some a) (some v)
def Mn(P:Program)(t:TypeId)(x:AV)(lo hi mx:Option AV):Option AV :=
 match P.underlying t with
 | some .string=>match x with
   | .sc (.string s)=>match mx,OW 0 lo,OW s.data.toList.length hi with
     | none,some l,some h=>if l<=h/\h<=s.data.toList.length then some (.sc (.string ⟨((s.data.toList.drop l).take (h - l)).toArray⟩)) else none
     | _,_,_=>none
   | _=>none
 | some (.slice elem)=>match P.info? elem,x with
   | some e,.sl own n cs=>match OW 0 lo,OW n hi with
     | some l,some h=>if l<=h/\h<=n/\cs.length=n*e.size then
         (match mx with
         | none=>some (.sl (if l=0/\h=n then own else if h=n/\own=.full then .full else .lost) (h - l) ((cs.drop (l*e.size)).take ((h - l)*e.size)))
         | some m=>match Tc m with
           | some m=>if h=m/\hi.isSome=true then some (.sl .full (h - l) ((cs.drop (l*e.size)).take ((h - l)*e.size))) else none
           | none=>none)
       else none
     | _,_=>none
   | _,_=>none
 | _=>none
def UC(d:Nat)(o:Option Value)(n:Nat):Prop:=(o=none/\n=d)\/∃k i,o=some (.int k i)/\0<=i/\i.toNat=n
def UD{c:Cx}{w:World}{d n:Nat}{a:Option AV}{v:Option Value}(h:OW d a=some n)(ha:RO c w a v):UC d v n:=by
 cases ha with
 | none=>simp[OW] at h;exact .inl ⟨rfl,h.symm⟩
 | some h1 =>
   obtain⟨k,i,rfl,h2,h3⟩:=Oe h h1;exact .inr ⟨k,i,rfl,h2,h3⟩
def Ko{P:Program}(k:IntKind)(i:Int)(y:Nat)(code:BoundsCode)(w:World)(h0:0<=i)(h1:i.toNat<=y):(brJ (.int k i) y code).run P w=.ok i.toNat w:=by
 have:i<=(y:Int):=by omega
 simp[brJ,asIntOf,h0,this]
def WA{P:Program}{isSlice:Bool}{len cap l h:Nat}{lo hi:Option Value}(hlo:UC 0 lo l)(hhi:UC len hi h)(hle:l<=h)(hh:h<=cap)(w:World) :
   (blR isSlice len cap lo hi none).run P w=.ok (l,h,cap) w:=by
 rcases hlo with ⟨rfl,rfl⟩ | ⟨k,i,rfl,LC,rfl⟩<;>rcases hhi with ⟨rfl,rfl⟩ | ⟨k',i',rfl,arF,rfl⟩
 simp[blR];simp[blR,Ko k' i' cap _ w arF hh];simp[blR,Ko k i h _ w LC hle];simp[blR,Ko k' i' cap _ w arF hh,Ko k i _ _ w LC hle]
def yF{P:Program}{isSlice:Bool}{len cap l h:Nat}{lo hi:Option Value}{k:IntKind}{j:Int}(hlo:UC 0 lo l)(hhi:∃k i,hi=some (.int k i)/\0<=i/\i.toNat=h)(hle:l<=h)(hj:0<=j)(hh:h<=j.toNat)(hc:j.toNat<=cap)(w:World) :
   (blR isSlice len cap lo hi (some (.int k j))).run P w=.ok (l,h,j.toNat) w:=by
 obtain⟨k',i',rfl,arF,rfl⟩:=hhi;rcases hlo with ⟨rfl,rfl⟩ | ⟨k2,i,rfl,LC,rfl⟩
 simp[blR,Ko k j cap _ w hj hc,Ko k' i' _ _ w arF hh];simp[blR,Ko k j cap _ w hj hc,Ko k' i' _ _ w arF hh,Ko k2 i _ _ w LC hle]
def ajJ{P:Program}{c:Cx}{w:World}{t:TypeId}{x r:AV}{lo hi mx:Option AV}{v:Value}{lo' N1 mx':Option Value}(h:Mn P t x lo hi mx=some r)(hx:Rp c w x v)(hlo:RO c w lo lo')(hhi:RO c w hi N1)(hmx:RO c w mx mx') :
   ∃u,(bnB t v lo' N1 mx').run P w=.ok u w/\Rp c w r u:=by
 unfold Mn at h;split at h;rename_i hu;split at h;rename_i s;split at h;rename_i l hh e1 e2;split at h;rename_i hc;cases h;cases hx;cases hmx;have b1:=UD e1 hlo;have b2:=UD e2 hhi;rw[show s.data.toList.length=s.size from by simp] at b2 hc;refine⟨_,?_,.sc rfl⟩;simp only[bnB,biV,run_underlying hu,biS,bqK,Option.isSome_none,Bool.false_eq_true,if_false,WA b1 b2 hc.1 hc.2,bjX];congr 2;apply ByteArray.ext;apply bjQ;rw[Lib.extract_data];cases h;cases h;cases h
 · rename_i elem hu
   split at h
   · rename_i e own n cs he
     split at h
     · rename_i l hh e1 e2
       split at h
       · rename_i hc
         have b1:=UD e1 hlo;have b2:=UD e2 hhi
         have Tm:∀(A:Option Addr) (cap:Nat),n<=cap->mx'=none->(bnB t (.slice A n cap) lo' N1 mx').run P w=.ok (.slice (if cap=l then A else A.map (·.add (l*e.size))) (hh - l) (cap - l)) w:=by
           intro A cap abJ hm;subst hm;simp only[bnB,biV,run_underlying hu,biS,bqK,WA b1 b2 hc.1 (bjH hc.2.1 abJ),bjX,CG he]
         split at h
         · cases h
           cases hmx;cases hx with
           | sl0 h0 =>
             obtain⟨rfl,rfl⟩:l=0/\hh=0:=by omega
             refine⟨_,Tm _ _ (bkI _) rfl,?_⟩;simp only[bsG,bsH,bnX,if_true,and_self];exact .sl0 (h0.re (by split<;>simp))
           | K6 hn Yz ho =>
             rename_i cap g o;refine⟨_,Tm _ _ hn rfl,?_⟩;by_cases Gu:l=0/\hh=n;obtain⟨rfl,rfl⟩:=Gu;simp only[Nat.zero_mul,List.drop_zero,bnX,and_self,if_true];rw[List.take_of_length_le (by rw[hc.2.2];exact aOC _)]
             have:(if cap=0 then some (⟨g,o,none⟩:Addr) else Option.map (λx:Addr=>x.add 0) (some ⟨g,o,none⟩))=some ⟨g,o,none⟩:=by
               split;rfl;simp[Addr.add]
             rw[this];exact .K6 hn Yz ho;rw[if_neg Gu];by_cases hz:hh - l=0;have qK:((cs.drop (l*e.size)).take ((hh - l)*e.size))=[]:=by rw[hz];simp
             rw[qK,hz];by_cases hf:hh=n/\own=.full;rw[if_pos hf];obtain⟨rfl,rfl⟩:=hf;have:cap=hh:=ho;exact .sl0 (by show cap - l=0;omega);rw[if_neg hf];exact .sl0 trivial;have hne:¬cap=l:=by omega
             rw[if_neg hne];simp only[biQ,add_lit];refine .K6 (by omega) ((Yz.drop _).take _) ?_;by_cases hf:hh=n/\own=.full;rw[if_pos hf];obtain⟨rfl,rfl⟩:=hf;have:cap=hh:=ho;show cap - l=hh - l;omega;rw[if_neg hf];trivial
         · rename_i m
           split at h
           · rename_i j hj
             split at h
             · rename_i hjm
               cases h;obtain⟨rfl,aXN⟩:=hjm;cases hmx with
               | some hm =>
                 obtain⟨k,z,rfl,hz0,hz1⟩:=Oe hj hm
                 have TX:∃k i,N1=some (.int k i)/\0<=i/\i.toNat=hh:=by
                   cases hhi with
                   | none=>cases aXN
                   | some h1 =>
                     obtain⟨k,i,rfl,h2,h3⟩:=Oe e2 h1;exact⟨k,i,rfl,h2,h3⟩
                 have aIQ:∀(A:Option Addr) (cap:Nat),n<=cap->(bnB t (.slice A n cap) lo' N1 (some (.int k z))).run P w=.ok (.slice (if hh=l then A else A.map (·.add (l*e.size))) (hh - l) (hh - l)) w:=by
                   intro A cap abJ;simp only[bnB,biV,run_underlying hu,biS,bqK,yF b1 TX hc.1 hz0 (Nat.le_of_eq hz1.symm) (by rw[hz1];exact bjH hc.2.1 abJ),bjX,CG he];rw[hz1]
                 cases hx with
                 | sl0 h0 =>
                   obtain⟨rfl,rfl⟩:l=0/\hh=0:=by omega
                   refine⟨_,aIQ _ _ (bkI _),?_⟩;simp only[bsG,bsH,bnX,if_true];exact .sl0 rfl
                 | K6 hn Yz ho =>
                   refine⟨_,aIQ _ _ hn,?_⟩;by_cases hz:hh - l=0;have qK:((cs.drop (l*e.size)).take ((hh - l)*e.size))=[]:=by rw[hz];simp
                   rw[qK,hz];exact .sl0 rfl;rw[if_neg (by omega)];simp only[biQ,add_lit];exact .K6 (aOC _) ((Yz.drop _).take _) rfl
             cases h
           cases h
       cases h
     cases h
   cases h
 cases h
end AI
namespace AI
open Go Go.RowKit
def ZZ(P:Program)(s:AS)(size:Nat)(tx:TypeId)(b:AV):Option (Nat×List AV) :=
 match P.underlying tx,b with
 | some (.slice _),.sl _ n cs=>if cs.length=n*size then some (n,cs) else none
 | some (.slice _),.msl id off n=>match s.get id with
   | some (.cells cs)=>if off+n*size<=cs.length then some (n,(cs.drop off).take (n*size)) else none
   | _=>none
 | some .string,.sc (.string x)=>if size=1 then some (x.data.toList.length,x.data.toList.map λb=>.sc (.int .u8 b.toNat)) else none
 | _,_=>none
def anT(c:Cx)(w:World)(l:List UInt8):Cv c w (l.map λb=>.sc (.int .u8 b.toNat)) (l.map λb=>.int .u8 b.toNat):=by
 induction l with
 | nil=>exact .nil
 | cons b l ih=>exact .cons (.sc rfl) ih
structure amY(P:Program)(size:Nat)(tx:TypeId)(x:Value)(n:Nat)(news:List Value)(w:World):Prop where
 kind:(∃e',P.underlying tx=some (.slice e'))\/P.underlying tx=some .string
 len:∀w':World,(bsI x).run P w'=.ok n w'
 cells:∀w':World,w'.heap=w.heap->(bkE size n x).run P w'=.ok news.toArray w'
def pB{P:Program}{G:AK}{c:Cx}{w:World}{s:AS}{size:Nat}{tx:TypeId}{b:AV}{x:Value}{n:Nat}{cs:List AV}(hs:St G c w s)(h:ZZ P s size tx b=some (n,cs))(hb:Rp c w b x) :
   ∃news,Cv c w cs news/\news.length=n*size/\amY P size tx x n news w:=by
 unfold ZZ at h;split at h
 · rename_i e own n' cs' hu
   split at h
   · rename_i hl
     cases h;cases hb with
     | @sl0 _ A cap _ =>
       refine⟨[],.nil,by simp,.inl ⟨_,hu⟩,λ_=>rfl,λw' _=>?_⟩;cases A with
       | none=>simp[bkE]
       | some a=>simp[bkE,loadCells,loadCellsFrom]
     | K6 hn hc ho =>
       obtain⟨vs,hr,IL⟩:=hc.vals;have hlv:=hr.len;refine⟨vs,hr,by omega,.inl ⟨_,hu⟩,λ_=>rfl,λw' hw=>?_⟩;refine run_firstCells_some w' size n _ n _ vs (by omega) (λj v hj=>?_);rw[add_lit];have:=(IL j v hj).2.2;rw[bmO (w:=w) (by rw[hw])];exact this
   cases h
 · rename_i e id off n' hu
   split at h
   · rename_i cs' Xt
     split at h
     · rename_i hl
       cases h;cases hb with
       | msl hn hid =>
         obtain⟨vs,ext,T,hw,hr⟩:=Rr hs hid Xt;have hlv:=hr.len;have hll:((vs.drop off).take (n*size)).length=n*size:=by rw[bjG,biR];omega
         refine⟨(vs.drop off).take (n*size),(hr.drop off).take _,hll,.inl ⟨_,hu⟩,λ_=>rfl,λw' hw'=>?_⟩;refine run_firstCells_some w' size n _ n _ _ hll (λj v hj=>?_);rw[add_lit]
         have hj2:vs[off+j]?=some v:=by
           rw[blN] at hj;split at hj;rw[List.getElem?_drop] at hj;exact hj;cases hj
         exact cell_of_heap (by rw[hw'];exact hw) (UE hj2)
     cases h
   cases h
 rename_i x' hu;split at h;rename_i h1;cases h;cases hb;subst h1;refine⟨_,anT c w _,by simp,.inr hu,λ_=>by simp[bsI],λw' _=>?_⟩;simp only[bkE];rw[show x'.data.toList.length=x'.size from by simp];simp;apply bjQ;simp;cases h;cases h
def AS.grow(s:AS)(r n:Nat):AS:=⟨s.h,s.nx,alS r n s.F,s.nr⟩
def AS.add(s:AS)(n:Nat):AS:=⟨s.h,s.nx,(s.nr,n)::s.F,s.nr+1⟩
section
variable {G:AK} {c:Cx} {w:World} {s:AS}
def St.sA(h:St G c w s){r n:Nat}(hr:DY r s.F=some n):r < c.rows.length:=by
 rcases h.Jl r n hr with h1 | ⟨g,cap,sz,h1⟩
 exact(abH.1 h1.1).1;exact(abH.1 h1).1
def Nt{l:List Rw}{r r':Nat}{x y:Rw}(h:(l.set r x)[r']?=some y):(r'=r/\y=x/\r < l.length)\/(r'≠r/\l[r']?=some y):=by
 by_cases e:r=r';subst e;have hl:=(abH.1 h).1;rw[List.length_set] at hl;rw[bjT hl] at h;exact .inl ⟨rfl,(bjE h).symm,hl⟩;rw[bkF e] at h;exact .inr ⟨λx=>e x.symm,h⟩
def St.sB(h:St G c w s){r n0:Nat}(hF:DY r s.F=some n0){w':World}{g n cap sz:Nat}{vs:Array Value}{T:TypeId}(k:Tv w w' (λx=>x=g))(hb:c.base<=g)(hp:some g∉c.CJ)(hlt:n0 < n)(hlh:n<=cap)(hw:w'.heap[g]?=some (.cells vs T (0,0)))(hsz:vs.size=cap*sz)
   (hg:g=w.heap.size\/(c.rows[r]?=some (.R1 g n0 cap sz)/\∀i v,i < n0*sz->w.cell? ⟨g,i,none⟩=some v->vs[i]?=some v)) :
   Ext c w { c with rows:=c.rows.set r (.R1 g n cap sz) } w'/\St G { c with rows:=c.rows.set r (.R1 g n cap sz) } w' (s.grow r n):=by
 have biC:g < w'.heap.size:=(aOA.1 hw).1;have hrl:=h.sA hF
 have abN:∀(r':Nat) n' cap' OL,c.rows[r']?=some (.R1 g n' cap' OL)->r'=r:=by
   intro r' n' cap' OL hr;rcases hg with rfl | ⟨hr0,_⟩
   have:=h.NS hr;omega;exact h.IU r' r g _ _ _ _ _ _ hr hr0
 have e:Ext c w { c with rows:=c.rows.set r (.R1 g n cap sz) } w':=by
   refine⟨List.prefix_refl _,by simp,λr' y hr hy=>?_,λg' i v hv=>⟨bcC hv.1 k.size,λhs=>?_,?_⟩,k.below h.R2 (λx hx=>by rw[hx];exact hb),rfl,rfl,λ_ h=>.inl h,λr' g' n' cap' OL hr=>?_,λq hq _ hr=>?_⟩;rcases Nt hy with ⟨rfl,rfl,_⟩ | ⟨_,h1⟩
   rcases h.Jl r' n0 hF with ⟨h1,_⟩ | ⟨g1,bbH,sz1,h1⟩
   exact⟨_,h1,.inr (.inl rfl)⟩;exact⟨_,h1,.inr (.inr ⟨_,_,_,_,rfl,hlt⟩)⟩;exact⟨y,h1,La.refl y⟩
   · rcases hs with hs | ⟨r',n',cap',OL,hr,h1,h2⟩ | hs
     exact hv.2.1 (.inl hs);rotate_left;exact hv.2.1 (.inr (.inr hs));rcases Nt hr with ⟨rfl,h3,_⟩ | ⟨_,h3⟩
     injection h3 with e1 e2 e3 e4
     subst e1 e2 e3 e4;rcases hg with rfl | ⟨hr0,_⟩
     have:=hv.1;omega;have:=blO OL (Nat.le_of_lt hlt);exact hv.2.1 (.inr (.inl ⟨r',n0,cap',OL,hr0,by omega,h2⟩));exact hv.2.1 (.inr (.inl ⟨r',n',cap',OL,h3,h1,h2⟩))
   by_cases hgg:g'=g;subst hgg;rcases hg with rfl | ⟨hr0,aXC⟩
   have:=hv.1;omega
   have hi1:i < n0*sz:=by
     by_cases hlt:i < n0*sz;exact hlt;exfalso;obtain⟨_,_,_,_,vs0,T0,hh0,biG⟩:=h.row r g' n0 cap sz hr0;have hc:=hv.2.2;have hns:¬i < cap*sz:=λaAU=>hv.2.1 (.inr (.inl ⟨r,n0,cap,sz,hr0,by omega,aAU⟩));simp[bkS,hh0] at hc;have:=(aOA.1 hc).1;omega
   have:=aXC i v hi1 hv.2.2;simp[bkS,hw,this];rw[k.cell hv.1 hgg];exact hv.2.2;rcases Nt hr with ⟨rfl,h1,_⟩ | ⟨_,h1⟩
   injection h1 with e1 _
   subst e1;rcases hg with rfl | ⟨hr0,_⟩
   exact .inr (aOC _);exact .inl ⟨r',n0,_,_,hr0⟩;exact .inl ⟨r',n',cap',OL,h1⟩;refine k.block q hq (λe=>?_);subst e;rcases hg with rfl | ⟨hr0,_⟩
   omega;exact hr r _ _ _ hr0
 refine⟨e,⟨h.len,h.desc,h.nodup,h.low,λid g' b' h1 h2=>?_,by simp[AS.grow,h.I8],λr' g' n' cap' OL hr=>?_,λr' n' hr=>?_,λg hg=>bcC (h.Np g hg) k.size,λg i hb=>bcC (h.ND g i hb) k.size,λr1 r2 g' n1 c1 s1 n2 c2 s2 hr bK=>?_,λg' cs eZ=>(h.Mr g' cs eZ).mono e,bjH h.R2 k.size,h.Ol.mono e⟩⟩;obtain⟨o',ho,Xt⟩:=h.box id g' b' h1 h2;exact⟨o',by rw[k.block g' (aOA.1 ho).1 (λe=>hp (by rw[<- e];exact bcH h1))];exact ho,Xt.mono e⟩;rcases Nt hr with ⟨rfl,h2,_⟩ | ⟨hne,h1⟩
 injection h2 with e1 e2 e3 e4
 subst e1 e2 e3 e4;refine⟨λi Lz=>?_,hb,hp,hlh,vs,T,hw,hsz⟩;rcases hg with rfl | ⟨hr0,_⟩
 have:=h.ND _ i Lz;omega;exact(h.row r' _ _ _ _ hr0).1 i Lz;obtain⟨a1,a2,a3,a4,vs',T',ho,a5⟩:=h.row r' g' n' cap' OL h1
 have hne:¬g'=g:=λe=>by
   subst e;exact hne (abN r' _ _ _ h1)
 exact⟨a1,a2,a3,a4,vs',T',by rw[k.block g' (aOA.1 ho).1 hne];exact ho,a5⟩;rcases nV hr with ⟨rfl,rfl,_⟩ | ⟨hne,h2⟩
 exact .inr ⟨g,cap,sz,bjT hrl⟩;simp only;rw[bkF (λe=>hne e.symm)];exact h.Jl r' n' h2;rcases Nt hr with ⟨rfl,h2,_⟩ | ⟨hn1,h1⟩<;>rcases Nt bK with ⟨rfl,h4,_⟩ | ⟨hn2,h3⟩
 rfl;injection h2 with e1
 subst e1;exact(abN r2 _ _ _ h3).symm;injection h4 with e1
 subst e1;exact abN r1 _ _ _ h1;exact h.IU r1 r2 g' _ _ _ _ _ _ h1 h3
def St.aDR(h:St G c w s){w':World}{n cap sz:Nat}{vs:Array Value}{T:TypeId}(k:Tv w w' (λx=>x=w.heap.size))(hn:0 < n)(hlh:n<=cap)(hw:w'.heap[w.heap.size]?=some (.cells vs T (0,0)))(hsz:vs.size=cap*sz) :
   Ext c w { c with rows:=c.rows++[.R1 w.heap.size n cap sz] } w'/\St G { c with rows:=c.rows++[.R1 w.heap.size n cap sz] } w' (s.add n):=by
 obtain⟨e1,st1⟩:=h.tok
 have hl:DY s.nr s.tok.F=some 0:=by
   simp only[AS.tok,DY];split;rfl;rename_i hb;exact absurd rfl (beq_false hb)
 have hp:some w.heap.size∉c.CJ:=λhm=>by have:=h.NP hm;omega
 obtain⟨e2,Yk⟩:=st1.sB hl (g:=w.heap.size) (n:=n) (cap:=cap) (sz:=sz) k h.R2 hp hn hlh hw hsz (.inl rfl)
 have hs:(c.rows++[Rw.new]).set s.nr (.R1 w.heap.size n cap sz)=c.rows++[.R1 w.heap.size n cap sz]:=by
   rw[h.I8,List.set_append_right _ _ (aOC _)];simp
 have hf:s.tok.grow s.nr n=s.add n:=by
   simp only[AS.tok,AS.grow,AS.add,alS];have:Nat.beq s.nr s.nr=true:=Nat.beq_refl _;rw[this]
 simp only[hs] at e2 Yk;rw[hf] at Yk;exact⟨e1.trans e2,Yk⟩
end
end AI
namespace AI
open Go Go.RowKit
def SI{P:Program}{w:World}{t tx ty e:TypeId}{i:TypeInfo}(ht:P.underlying t=some (.slice e))(hi:P.info? e=some i){base:Option Addr}{n cap m:Nat}{x:Value}{news:List Value}(hs:amY P i.size tx x m news w)(Xv:n+m<=cap){w':World}
   (Fl:∀a,base=some a->(storeCells (a.add (n*i.size)) news).run P w=.ok () w') (hno:base=none->w'=w) :
   (blK #[t,tx] ty #[.slice base n cap,x]).run P w=.ok (.slice base (n+m) cap) w':=by
 have hc:=hs.cells w rfl;cases base with
 | none =>
   have:=hno rfl;subst this;rcases hs.kind with ⟨e',hk⟩ | hk<;>simp[blK,run_underlying ht,run_underlying hk,bpB,typeInfo,hi,hs.len,Xv,hc]
 | some a =>
   have:=Fl a rfl;rcases hs.kind with ⟨e',hk⟩ | hk<;>simp[blK,run_underlying ht,run_underlying hk,bpB,typeInfo,hi,hs.len,Xv,hc,this]
def SH{P:Program}{w:World}{t tx ty e:TypeId}{i:TypeInfo}{z:Value}(ht:P.underlying t=some (.slice e))(hi:P.info? e=some i)(hz:i.zero=some z){base:Option Addr}{n cap m:Nat}{x:Value}{olds news:List Value}(hs:amY P i.size tx x m news w)
   (hold:(bkE i.size n (.slice base n cap)).run P { w with drawn:=w.drawn+1 }=.ok olds.toArray { w with drawn:=w.drawn+1 }) (hg:cap < n+m) (h63:n+m<=9223372036854775807) (hb:(n+m)*i.bytes<=140737488355328) :
   ∃cap',n+m<=cap'/\(blK #[t,tx] ty #[.slice base n cap,x]).run P w=.ok (.slice (some ⟨w.heap.size,0,none⟩) (n+m) cap') { w with drawn:=w.drawn+1,heap:=w.heap.push (.cells ((olds++news).toArray++bjN z.cells (cap' - (n+m))) e) }:=by
 have hn:¬(n+m<=cap):=by omega
 have bbZ:¬(9223372036854775807 < ((n:Int)+(m:Int))):=by omega
 have akF:=growslice_fits hg hb;have bbY:¬(281474976710656 < Builtin.nextslicecap (n+m) cap*i.bytes):=by omega
 have hc:=hs.cells { w with drawn:=w.drawn+1 } rfl
 refine⟨(bpD (n+m) cap e).cut (w.tape w.drawn (.appendCap (n+m) cap e)),by simp[Question.cut],?_⟩;have qI:(bkE i.size m x).run P w.drew=.ok news.toArray w.drew:=hc;have aXF:(bkE i.size n (.slice base n cap)).run P w.drew=.ok olds.toArray w.drew:=hold
 have aqX:olds.toArray++(news.toArray++bjN z.cells ((bpD (n+m) cap e).cut (w.tape w.drawn (.appendCap (n+m) cap e)) - (n+m)))=(olds++news).toArray++bjN z.cells ((bpD (n+m) cap e).cut (w.tape w.drawn (.appendCap (n+m) cap e)) - (n+m)):=by
   apply bjQ;simp
 rcases hs.kind with ⟨e',hk⟩ | hk <;>
   (simp[blK,run_underlying ht,run_underlying hk,bpB,typeInfo,zeroValue,hi,hz,hs.len,hn,bbZ,bbY,Question.forced,qI,aXF,newRow]
    rw[aqX];rfl)
def Ph(sz:Nat)(F:List (Nat×Nat))(n:Nat):Own->Bool
 | .full=>true
 | .row r z=>z == sz&&(match DY r F with | some k=>k == n | none=>false)
 | _=>false
def aJP(s:AS)(sz:Nat):Own->Own
 | .row r _=>.row r sz
 | _=>.row s.nr sz
def AS.to(s:AS)(n:Nat):Own->AS
 | .row r _=>s.grow r n
 | _=>s.add n
def LF(P:Program)(s:AS)(t tx:TypeId)(a b:AV):Option (AV×AS) :=
 match P.underlying t with
 | some (.slice e)=>match P.info? e with
   | some i=>match i.zero with
     | some z=>if z.cells.size=i.size/\0 < i.size then (match a,ZZ P s i.size tx b with
       | .sl own n cs,some (m,ns)=>if cs.length=n*i.size/\ns.all one=true/\(n+m)*i.bytes<=140737488355328/\n+m<=9223372036854775807 then
           (if m=0 then some (.sl own n cs,s)
            else if Ph i.size s.F n own=true then some (.sl (aJP s i.size own) (n+m) (cs++ns),s.to (n+m) own) else none)
         else none
       | _,_=>none) else none
     | none=>none
   | none=>none
 | _=>none
def Zu{P:Program}{c:Cx}{w:World}{own:Own}{n size:Nat}{cs:List AV}{v:Value}(h:Rp c w (.sl own n cs) v)(hl:cs.length=n*size) :
   ∃base cap olds,v=.slice base n cap/\n<=cap/\Cv c w cs olds/\olds.length=n*size/\∀w':World,w'.heap=w.heap->(bkE size n (.slice base n cap)).run P w'=.ok olds.toArray w':=by
 cases h with
 | @sl0 _ A cap h0 =>
   refine⟨A,cap,[],rfl,bkI _,.nil,by simp,λw' _=>?_⟩;cases A with
   | none=>simp[bkE]
   | some a=>simp[bkE,loadCells,loadCellsFrom]
 | @K6 _ _ cap g o _ hn hc ho =>
   obtain⟨vs,hr,IL⟩:=hc.vals;have hlv:=hr.len;refine⟨_,cap,vs,rfl,hn,hr,by omega,λw' hw=>run_firstCells_some w' size n _ n _ vs (by omega) (λj v hj=>?_)⟩;rw[add_lit,bmO (w:=w) (by rw[hw])];exact(IL j v hj).2.2
def oN{c:Cx}{w':World}{g n m sz cap:Nat}{T:TypeId}{all olds news:List Value}{rows:List Rw}(hw:w'.heap[g]?=some (.cells all.toArray T (0,0)))(Gu:∀(j:Nat) v,(olds++news)[j]?=some v->all[j]?=some v)(hp:some g∉c.CJ)(hb:∀i,¬c.bad g i)
   (hol:olds.length=n*sz) (hnl:news.length=m*sz) (hrow:∀(r:Nat) n' cap' OL,rows[r]?=some (.R1 g n' cap' OL)->n'=n+m/\cap'=cap/\OL=sz) {j:Nat} {v:Value} (hj:(olds++news)[j]?=some v):MD { c with rows:=rows } w' g j v:=by
 have hjl:=(abH.1 hj).1;rw[V5] at hjl;refine⟨(aOA.1 hw).1,λhs=>?_,cell_of_heap hw (Gu j v hj)⟩;rcases hs with hs | ⟨r,n',cap',OL,hr,h1,h2⟩ | hs
 exact hp hs;obtain⟨rfl,rfl,rfl⟩:=hrow r n' cap' OL hr;rw[blG] at h1;omega;exact hb j hs
def aaD{P:Program}{G:AK}{c:Cx}{w:World}{s s':AS}{t tx ty:TypeId}{a b r:AV}{va vb:Value}(hs:St G c w s)(h:LF P s t tx a b=some (r,s'))(ha:Rp c w a va)(hb:Rp c w b vb) :
   ∃u w' c',(blK #[t,tx] ty #[va,vb]).run P w=.ok u w'/\Ext c w c' w'/\St G c' w' s'/\Rp c' w' r u:=by
 unfold LF at h;split at h
 · rename_i e ht
   split at h
   · rename_i i hi
     split at h
     · rename_i z hz
       split at h
       · rename_i hzs
         split at h
         · rename_i own n cs m ns aQA
           split at h
           · rename_i hc
             obtain⟨news,hnr,hnl,hsi⟩:=pB hs aQA hb;split at h;rename_i hm;cases h;subst hm;have qK:news=[]:=biP (by simpa using hnl)
             subst qK;obtain⟨base,cap,olds,rfl,abJ,_,_,_⟩:=Zu (P:=P) (size:=i.size) ha hc.1;refine⟨.slice base n cap,w,c,?_,Ext.refl c w,hs,ha⟩;exact SI ht hi hsi (by omega) (λa _=>by simp[storeCells]) (λ_=>rfl)
             · rename_i hm
               split at h
               · rename_i QX
                 cases h;obtain⟨base,cap,olds,rfl,abJ,hor,hol,hfc⟩:=Zu (P:=P) (size:=i.size) ha hc.1;by_cases Xv:n+m<=cap
                 · cases ha with
                   | sl0 h0 =>
                     exfalso;cases own with
                     | full=>have:cap=0:=h0;omega
                     | row r z=>have:cap=0:=h0.1;omega
                     | lost=>simp[Ph] at QX
                     | nil=>simp[Ph] at QX
                     | nn=>simp[Ph] at QX
                   | @K6 _ _ _ g o _ hn Yz ho =>
                     cases own with
                     | full=>exfalso;have:cap=n:=ho;omega
                     | lost=>simp[Ph] at QX
                     | nil=>simp[Ph] at QX
                     | nn=>simp[Ph] at QX
                     | row r0 sz =>
                       simp only[Ph,bcA,beq_iff_eq] at QX;obtain⟨rfl,hF⟩:=QX
                       have hF:DY r0 s.F=some n:=by
                         split at hF;rename_i k hk;rw[hk,beq_iff_eq.1 hF];cases hF
                       obtain⟨rfl,hlen,biE,vY,aXK⟩:=ho;rcases hs.Jl r0 n hF with ⟨h1,_⟩ | ⟨g',cap',OL,hrow⟩
                       exact absurd h1 vY;obtain⟨rfl,rfl,rfl⟩:=(aXK _ _ _ _ hrow).2 rfl;obtain⟨hgb,hbg,hgp,hlh,cur,T,aAR,bcR⟩:=hs.row r0 g' _ _ _ hrow;have akF:n*i.size+news.length<=cur.size:=by rw[hnl,bcR,<- blG];exact blO _ Xv
                       have Fl:=run_storeCells_at P g' (n*i.size) T news 0 cur w aAR (by simpa using akF) (bT hnr hc.2.1)
                       simp only[bkH] at Fl;have Ms:=setRow_heap w g' cur (cur.toList.take (n*i.size)++news++cur.toList.drop (n*i.size+news.length)).toArray T (0,0) aAR
                       have bcP:cur.toList.take (n*i.size)=olds:=by
                         obtain⟨vs,hr,IL⟩:=Yz.vals;have h1:=hfc w rfl;have h2:=run_firstCells_some (P:=P) w i.size n ⟨g',0,none⟩ n cap' vs (by rw[hr.len];exact hc.1) (λj v hj=>by rw[add_lit];exact(IL j v hj).2.2);rw[h1] at h2;injection h2 with h2 _
                         have h3:olds=vs:=by simpa using congrArg Array.toList h2
                         subst h3;apply bmP;intro j;rw[blN];by_cases hj:j < n*i.size;rw[if_pos hj];have hj2:j < olds.length:=by omega
                         have:=(IL j _ (abI hj2)).2.2;rw[bcD] at this;simp only[bkS,aAR] at this;rw[abI hj2,biZ];simpa using this
                         rw[if_neg hj,List.getElem?_eq_none (by omega)]
                       obtain⟨x,st⟩:=hs.sB hF (g:=g') (n:=n+m) (cap:=cap') (sz:=i.size) (T:=T) (Hy w g' (cur.toList.take (n*i.size)++news++cur.toList.drop (n*i.size+news.length)).toArray) hbg hgp (by omega) Xv Ms (by simp only[bkR,V5,bjG,biR,bjF];omega)
                         (.inr ⟨hrow,λj v hj hv=>by
                           rw[blH,List.append_assoc,bcF (by rw[bjG,bjF];omega),blN,if_pos hj];simpa[bkS,aAR] using hv⟩)
                       refine⟨_,_,_,SI ht hi hsi Xv (λa ha=>by cases ha;rw[add_lit,bcD];exact Fl) (λh=>by cases h),x,st,?_⟩;have hrl:=hs.sA hF;refine .K6 Xv (A1.Qw ((hor.append hnr).mono x) (λj v hj=>?_)) ⟨rfl,by rw[V5,hc.1,<- hnr.len,hnl,blG],by simpa using hrl,λh2=>?_,λg2 n2 c2 s2 h2=>?_⟩
                       rw[bcD];refine oN (olds:=olds) (news:=news) (cap:=cap') Ms (λj v hj=>?_) hgp hgb hol hnl (λr n' bhN biO hr=>?_) hj;rw[<- bcP] at hj;have hjl:=(abH.1 hj).1;rw[bcF hjl];exact hj;rcases Nt hr with ⟨rfl,h1,_⟩ | ⟨hne,h1⟩
                       injection h1 with _ e2 e3 e4
                       exact⟨e2,e3,e4⟩;exact absurd (hs.IU r r0 g' _ _ _ _ _ _ h1 hrow) hne;simp only at h2;rw[bjT hrl] at h2;cases h2;simp only at h2;rw[bjT hrl] at h2;injection h2 with h2
                       injection h2 with e1 e2 e3 e4
                       subst e1 e2 e3 e4;exact⟨aOC _,λ_=>⟨rfl,rfl,rfl⟩⟩
                 · obtain⟨cap',eV,Tm⟩:=SH (ty:=ty) ht hi hz hsi (hfc { w with drawn:=w.drawn+1 } rfl) (by omega) hc.2.2.2 hc.2.2.1
                   have hzc:(bjN z.cells (cap' - (n+m))).size=(cap' - (n+m))*i.size:=by rw[size_zeroCells,hzs.1]
                   have hk:Tv w { w with drawn:=w.drawn+1,heap:=w.heap.push (.cells ((olds++news).toArray++bjN z.cells (cap' - (n+m))) e) } (λx=>x=w.heap.size) :=
                     ⟨rfl,rfl,rfl,by simp,λk hk _=>by simp[Array.getElem?_push];intro h;omega⟩
                   have Ms:({ w with drawn:=w.drawn+1,heap:=w.heap.push (.cells ((olds++news).toArray++bjN z.cells (cap' - (n+m))) e) }:World).heap[w.heap.size]?=some (.cells ((olds++news).toArray++bjN z.cells (cap' - (n+m))) e (0,0)):=by simp
                   have aXE:({ w with drawn:=w.drawn+1,heap:=w.heap.push (.cells ((olds++news).toArray++bjN z.cells (cap' - (n+m))) e) }:World).heap[w.heap.size]?=some (.cells ((olds++news)++(bjN z.cells (cap' - (n+m))).toList).toArray e (0,0)):=by
                     rw[Ms];congr 2;apply bjQ;simp
                   have hpn:some w.heap.size∉c.CJ:=λhm=>by have:=hs.NP hm;omega
                   have hbn:∀i,¬c.bad w.heap.size i:=λi hb=>by have:=hs.ND _ i hb;omega
                   have hsz:((olds++news).toArray++bjN z.cells (cap' - (n+m))).size=cap'*i.size:=by
                     simp only[Array.size_append,bkR,V5,hol,hnl,hzc,<- blG];congr 1;omega
                   have aXJ:∀(r:Nat) n' c' s',c.rows[r]?≠some (.R1 w.heap.size n' c' s'):=λr n' c' s' hr=>by have:=hs.NS hr;omega
                   have fin:∀(rows:List Rw) (r:Nat),rows[r]?=some (.R1 w.heap.size (n+m) cap' i.size)->(∀(r':Nat) n' c' s',rows[r']?=some (.R1 w.heap.size n' c' s')->n'=n+m/\c'=cap'/\s'=i.size)->Ext c w { c with rows:=rows } { w with drawn:=w.drawn+1,heap:=w.heap.push (.cells ((olds++news).toArray++bjN z.cells (cap' - (n+m))) e) } ->
                       Rp { c with rows:=rows } { w with drawn:=w.drawn+1,heap:=w.heap.push (.cells ((olds++news).toArray++bjN z.cells (cap' - (n+m))) e) } (.sl (.row r i.size) (n+m) (cs++ns)) (.slice (some ⟨w.heap.size,0,none⟩) (n+m) cap'):=by
                     intro rows r hr Gu x;refine .K6 eV (A1.Qw ((hor.append hnr).mono x) (λj v hj=>?_)) ⟨rfl,by rw[V5,hc.1,<- hnr.len,hnl,blG],(abH.1 hr).1,λh2=>?_,λg2 n2 c2 s2 h2=>?_⟩;rw[bcD];refine oN (olds:=olds) (news:=news) (cap:=cap') aXE (λj v hj=>?_) hpn hbn hol hnl Gu hj;rw[bcF (abH.1 hj).1];exact hj;simp only at h2;rw[hr] at h2;cases h2;simp only at h2;rw[hr] at h2;injection h2 with h2
                     injection h2 with e1 e2 e3 e4
                     subst e1 e2 e3 e4;exact⟨aOC _,λ_=>⟨rfl,rfl,rfl⟩⟩
                   have aDS:∀r sz,Ph i.size s.F n (.row r sz)=true->∃u w' c',(blK #[t,tx] ty #[.slice base n cap,vb]).run P w=.ok u w'/\Ext c w c' w'/\St G c' w' (s.grow r (n+m))/\Rp c' w' (.sl (.row r i.size) (n+m) (cs++ns)) u:=by
                     intro r sz QX;simp only[Ph,bcA,beq_iff_eq] at QX
                     have hF:DY r s.F=some n:=by
                       have hF:=QX.2;split at hF;rename_i k hk;rw[hk,beq_iff_eq.1 hF];cases hF
                     have hrl:=hs.sA hF;obtain⟨x,st⟩:=hs.sB hF (g:=w.heap.size) (n:=n+m) (cap:=cap') (sz:=i.size) (T:=e) hk hs.R2 hpn (by omega) eV Ms hsz (.inl rfl);refine⟨_,_,_,Tm,x,st,fin _ r (bjT hrl) (λr' n' c' s' hr=>?_) x⟩;rcases Nt hr with ⟨rfl,h1,_⟩ | ⟨hne,h1⟩
                     injection h1 with _ e2 e3 e4
                     exact⟨e2,e3,e4⟩;exact absurd h1 (aXJ _ _ _ _)
                   cases own with
                   | lost=>simp[Ph] at QX
                   | nil=>simp[Ph] at QX
                   | nn=>simp[Ph] at QX
                   | row r sz=>exact aDS r sz QX
                   | full =>
                     obtain⟨x,st⟩:=hs.aDR (n:=n+m) (cap:=cap') (sz:=i.size) (T:=e) hk (by omega) eV Ms hsz;refine⟨_,_,_,Tm,x,st,fin _ s.nr (by rw[hs.I8];exact bkJ) (λr' n' c' s' hr=>?_) x⟩;by_cases hr2:r' < c.rows.length;rw[bcF hr2] at hr;exact absurd hr (aXJ _ _ _ _);have hl:=(abH.1 hr).1;simp at hl;have:r'=c.rows.length:=by omega
                     subst this;rw[bkJ] at hr;injection hr with hr
                     injection hr with _ e2 e3 e4
                     exact⟨e2.symm,e3.symm,e4.symm⟩
               cases h
           cases h
         cases h
       cases h
     cases h
   cases h
 cases h
end AI
namespace AI
open Go Go.RowKit
def plainKey:TypeDesc->Bool
 | .int _ | .string | .bool=>true
 | _=>false
def iG:TypeDesc->Value->Value->Option Bool
 | .int _,.int k a,.int k' b=>if k=k' then some (a == b) else none
 | .string,.string a,.string b=>some (a.data.toList == b.data.toList)
 | .bool,.bool a,.bool b=>some (a == b)
 | _,_,_=>none
def anL(a b:ByteArray):(a == b)=(a.data.toList == b.data.toList):=by
 obtain⟨⟨a⟩⟩:=a;obtain⟨⟨b⟩⟩:=b;show((⟨a⟩:Array UInt8) == ⟨b⟩)=(a == b);simp
def iI(d:TypeDesc)(a b:Value):bsJ d a b=iG d a b:=by
 unfold iG;split<;>simp_all [bsJ,anL]
def iH{d:TypeDesc}{a b:Value}(h:iG d a b=some true):bpE 10000 b a=true:=by
 unfold iG at h;split at h;split at h;rename_i e;subst e;simp at h;subst h;simp[bpE];cases h;rename_i x y;simp only[aOE,beq_iff_eq] at h;simp[bpE,anL,h];simp at h;subst h;simp[bpE];cases h
def cY(d:TypeDesc)(k:Value):List (Value×AV×Nat)->Nat->Option (Option (Nat×AV))
 | [],_=>some none
 | e::es,i=>match iG d k e.1 with
   | some true=>some (some (i,e.2.1))
   | some false=>cY d k es (i+1)
   | none=>none
def Rm{c:Cx}{w:World}{d:TypeDesc}{k:Value}{es:List (Value×AV×Nat)}{fs:List MapEntry}(h:K8 c w es fs){i:Nat}{r:Option (Nat×AV)}(hf:cY d k es i=some r) :
   (r=none/\bmK d k fs i=some none)\/∃j a v e f,r=some (i+j,a)/\bmK d k fs i=some (some (i+j,v))/\Rp c w a v/\es[j]?=some e/\fs[j]?=some f/\e.2.1=a/\f.val=v/\f.key=e.1/\f.born=e.2.2/\iG d k e.1=some true:=by
 induction h generalizing i r with
 | nil=>simp[cY] at hf;subst hf;exact .inl ⟨rfl,rfl⟩
 | @cons k' a v b es fs h1 _ ih =>
   simp only[cY] at hf;split at hf;rename_i hs;cases hf;refine .inr ⟨0,a,v,(k',a,b),⟨k',v,b⟩,rfl,?_,h1,rfl,rfl,rfl,rfl,rfl,rfl,hs⟩;simp only[bmK,iI,hs,bkH];rename_i hs;rcases ih hf with ⟨h2,h3⟩ | ⟨j,a',v',e,f,h2,h3,h4,h5,h6,h7⟩
   refine .inl ⟨h2,?_⟩;simp only[bmK,iI,hs];exact h3;refine .inr ⟨j+1,a',v',e,f,by rw[h2];congr 2;omega,?_,h4,by simpa using h5,by simpa using h6,h7⟩
   simp only[bmK,iI,hs];rw[h3];congr 3;omega;cases hf
def K8.set{c:Cx}{w:World}{es:List (Value×AV×Nat)}{fs:List MapEntry}(h:K8 c w es fs){k:Value}{a:AV}{v:Value}{b:Nat}(hr:Rp c w a v)(i:Nat):K8 c w (es.set i (k,a,b)) (fs.set i ⟨k,v,b⟩):=by
 induction h generalizing i with
 | nil=>exact .nil
 | cons h1 t ih =>
   cases i with
   | zero=>exact .cons hr t
   | succ i=>exact .cons h1 (ih i)
def K8.snoc{c:Cx}{w:World}{es:List (Value×AV×Nat)}{fs:List MapEntry}(h:K8 c w es fs){k:Value}{a:AV}{v:Value}{b:Nat}(hr:Rp c w a v):K8 c w (es++[(k,a,b)]) (fs++[⟨k,v,b⟩]):=by
 induction h with
 | nil=>exact .cons hr .nil
 | cons h1 _ ih=>exact .cons h1 ih
def K8.len{c:Cx}{w:World}{es:List (Value×AV×Nat)}{fs:List MapEntry}(h:K8 c w es fs):fs.length=es.length:=by
 induction h with
 | nil=>rfl
 | cons _ _ ih=>simp[ih]
def Xb{G:AK}{c:Cx}{w:World}{s:AS}(hs:St G c w s){id g:Nat}{es:List (Value×AV×Nat)}{clock:Nat}(hid:c.CJ[id]?=some (some g))(hb:s.get id=some (.map es clock)):∃fs,w.heap[g]?=some (.map fs.toArray clock)/\K8 c w es fs:=by
 obtain⟨o,ho,hbo⟩:=hs.box id g _ hid hb;cases hbo with
 | map h1=>exact⟨_,ho,h1⟩
def J8{P:Program}{w:World}{g:Nat}{es:Array MapEntry}{cl:Nat}(h:w.heap[g]?=some (.map es cl)):(getObj g).run P w=.ok (.map es cl) w:=by simp[getObj,Sem.run,h]
def PO{P:Program}{w:World}{g:Nat}{es:Array MapEntry}{cl:Nat}(o:Obj)(h:w.heap[g]?=some (.map es cl)):(setObj g o).run P w=.ok () { w with heap:=w.heap.setIfInBounds g o }:=by simp[setObj,Sem.run,h]
def Xf(w:World)(g:Nat)(o:Obj):Tv w { w with heap:=w.heap.setIfInBounds g o } (λx=>x=g) :=
 ⟨rfl,rfl,rfl,by simp,λk _ hne=>by simp only;rw[Array.getElem?_setIfInBounds_ne (λe=>hne e.symm)]⟩
def X3(w:World){g:Nat}{o o':Obj}(h:w.heap[g]?=some o'):({ w with heap:=w.heap.setIfInBounds g o }:World).heap[g]?=some o:=by
 have:=(aOA.1 h).1;simp[this]
def run_checkKey{P:Program}{kt:TypeId}{kd:TypeDesc}{v:Value}(b:Bool)(h:P.underlying kt=some kd)(hp:plainKey kd=true)(w:World):(brX b 10000 kt v).run P w=.ok () w:=by
 unfold brX;rw[biV,run_underlying h];cases kd<;>first | (simp[plainKey] at hp;done) | rfl
def run_findKey{P:Program}{kt:TypeId}{kd:TypeDesc}{v:Value}{es:List MapEntry}{r:Option (Nat×Value)}(h:P.underlying kt=some kd)(hf:bmK kd v es 0=some r)(w:World):(bsK kt v es).run P w=.ok r w:=by
 unfold bsK;rw[biV,run_underlying h];simp[hf]
def M1(P:Program)(t:TypeId):Option AV :=
 match P.info? t with
 | some i=>match i.zero with
   | some z=>ZJ z
   | none=>none
 | none=>none
def lZ{P:Program}{t:TypeId}{a:AV}(h:M1 P t=some a):VE a=false:=by
 unfold M1 at h;split at h;split at h;exact acL h;cases h;cases h
def Xa{P:Program}{t:TypeId}{a:AV}(h:M1 P t=some a)(c:Cx)(w w0:World):∃z,(zeroValue t).run P w0=.ok z w0/\Rp c w a z:=by
 unfold M1 at h;split at h;rename_i i hi;split at h;rename_i z hz;exact⟨z,by simp[zeroValue,typeInfo,hi,hz],wW h c w⟩;cases h;cases h
def JA(P:Program)(s:AS)(t:TypeId)(x k:AV)(ok:Bool):Option AV :=
 match P.underlying t with
 | some (.map kt et)=>match P.underlying kt,iU k with
   | some kd,some key=>if plainKey kd=true then
       (match (match x with
         | .sc (.map none)=>some []
         | .mp id=>match s.get id with
           | some (.map es _)=>some es
           | _=>none
         | _=>none) with
       | some es=>match cY kd key es 0 with
         | some (some (_,v))=>some (if ok then .E9 [v,.sc (.bool true)] else v)
         | some none=>(M1 P et).map λz=>if ok then .E9 [z,.sc (.bool false)] else z
         | none=>none
       | none=>none) else none
   | _,_=>none
 | _=>none
def amX(w:World)(vx:Value)(fs:List MapEntry):Prop:=(vx=.map none/\fs=[])\/∃g cl,vx=.map (some g)/\w.heap[g]?=some (.map fs.toArray cl)
def aX{P:Program}{w:World}{t kt et:TypeId}{kd:TypeDesc}{vx vk v:Value}{fs:List MapEntry}{j:Nat}(ok:Bool)(hu:P.underlying t=some (.map kt et))(hkd:P.underlying kt=some kd)(hp:plainKey kd=true)(hm:amX w vx fs)(hf:bmK kd vk fs 0=some (some (j,v))) :
   (bnY t vx vk ok).run P w=.ok (if ok then .tuple #[v,.bool true] else v) w:=by
 rcases hm with ⟨rfl,rfl⟩ | ⟨g,cl,rfl,hg⟩
 simp[bmK] at hf;simp only[bnY,biV,run_underlying hu,biS,J8 hg,bjX,run_checkKey _ hkd hp,run_findKey hkd hf]
def aW{P:Program}{w:World}{t kt et:TypeId}{kd:TypeDesc}{vx vk z:Value}{fs:List MapEntry}(ok:Bool)(hu:P.underlying t=some (.map kt et))(hkd:P.underlying kt=some kd)(hp:plainKey kd=true)(hm:amX w vx fs)(hf:bmK kd vk fs 0=some none)(hz:(zeroValue et).run P w=.ok z w) :
   (bnY t vx vk ok).run P w=.ok (if ok then .tuple #[z,.bool false] else z) w:=by
 rcases hm with ⟨rfl,rfl⟩ | ⟨g,cl,rfl,hg⟩
 simp only[bnY,biV,run_underlying hu,biS,bjX,run_checkKey _ hkd hp];rw[run_findKey hkd hf];simp only[biV,hz,biS,bjX];simp only[bnY,biV,run_underlying hu,biS,J8 hg,bjX,run_checkKey _ hkd hp,run_findKey hkd hf,hz]
def aaH{P:Program}{G:AK}{c:Cx}{w:World}{s:AS}{t:TypeId}{x k r:AV}{ok:Bool}{vx vk:Value}(hs:St G c w s)(h:JA P s t x k ok=some r)(hx:Rp c w x vx)(hk:Rp c w k vk) :
   ∃u,(bnY t vx vk ok).run P w=.ok u w/\Rp c w r u:=by
 unfold JA at h;split at h
 · rename_i kt et hu
   split at h
   · rename_i kd key hkd arG
     have:=X8 arG hk;subst this;split at h
     · rename_i hp
       split at h
       · rename_i es hes
         obtain⟨fs,hfs,hm⟩:∃fs,K8 c w es fs/\amX w vx fs:=by
           split at hes;cases hes;cases hx;exact⟨[],.nil,.inl ⟨rfl,rfl⟩⟩
           · split at hes
             · rename_i es' cl hb
               cases hes;cases hx with
               | mp hid =>
                 obtain⟨fs,hw,he⟩:=Xb hs hid hb;exact⟨fs,he,.inr ⟨_,_,rfl,hw⟩⟩
             cases hes
           cases hes
         split at h;rename_i j v hf;cases h;rcases Rm hfs hf with ⟨h1,_⟩ | ⟨j',a,v',e,f,h1,h2,h3,_⟩
         cases h1;injection h1 with h1
         injection h1 with _ h1
         subst h1;refine⟨_,aX ok hu hkd hp hm h2,?_⟩;cases ok;exact h3;exact .E9 (vs:=[v',.bool true]) (.cons h3 (.cons (.sc rfl) .nil))
         · rename_i hf
           cases hz:M1 P et with
           | none=>rw[hz] at h;cases h
           | some z =>
             rw[hz] at h;cases h;rcases Rm hfs hf with ⟨_,h2⟩ | ⟨j',a,v',e,f,h1,_⟩
             obtain⟨zv,hzr,hzp⟩:=Xa hz c w w;refine⟨_,aW ok hu hkd hp hm h2 hzr,?_⟩;cases ok;exact hzp;exact .E9 (vs:=[zv,.bool false]) (.cons hzp (.cons (.sc rfl) .nil));cases h1
         cases h
       cases h
     cases h
   cases h
 cases h
def KV(P:Program)(s:AS)(t:TypeId)(x k v:AV):Option AS :=
 match P.underlying t with
 | some (.map kt _)=>match P.underlying kt,iU k,x with
   | some kd,some key,.mp id=>if plainKey kd=true then
       (match s.get id with
       | some (.map es cl)=>match cY kd key es 0 with
         | some (some (j,_))=>match es[j]? with
           | some e=>some (s.put id (.map (es.set j (key,v,e.2.2)) cl))
           | none=>none
         | some none=>some (s.put id (.map (es++[(key,v,cl)]) (cl+1)))
         | none=>none
       | _=>none) else none
   | _,_,_=>none
 | _=>none
def Wc{fs:List MapEntry}{j:Nat}{f g:MapEntry}{F:MapEntry->MapEntry}(h:fs[j]?=some f)(hF:F f=g):fs.toArray.modify j F=(fs.set j g).toArray:=by
 apply bjQ;rw[List.modify_toArray];apply bmP;intro i;rw[List.getElem?_modify,List.getElem?_set];by_cases e:j=i;subst e;obtain⟨hl,he⟩:=abH.1 h;simp[hl,he,hF];simp[e]
def cZ{P:Program}{G:AK}{c:Cx}{w:World}{s s':AS}{t:TypeId}{x k v:AV}{vx vk vv:Value}(hs:St G c w s)(h:KV P s t x k v=some s')(hx:Rp c w x vx)(hk:Rp c w k vk)(hv:Rp c w v vv) :
   ∃w',(bqH t vx vk vv).run P w=.ok () w'/\Ext c w c w'/\St G c w' s':=by
 unfold KV at h;split at h
 · rename_i kt et hu
   split at h
   · rename_i kd key id hkd arG
     have:=X8 arG hk;subst this;split at h
     · rename_i hp
       split at h
       · rename_i es cl hb
         cases hx with
         | @mp _ g hid =>
           obtain⟨fs,hw,he⟩:=Xb hs hid hb;split at h;rename_i j a hf;split at h;rename_i e hej;cases h;rcases Rm he hf with ⟨h1,_⟩ | ⟨j',a',v',e',f,h1,h2,h3,h4,h5,h6,h7,h8,h9,h10⟩
           cases h1;injection h1 with h1
           injection h1 with h1 _
           rw[bcD] at h1;subst h1;rw[hej] at h4;cases h4;rw[bcD] at h2;have arQ:fs.toArray.modify j (λe=>{ e with key:=vk,val:=vv })=(fs.set j ⟨vk,vv,e.2.2⟩).toArray:=Wc h5 (by rw[<- h9])
           obtain⟨x1,st⟩:=hs.put (b:=.map (es.set j (vk,v,e.2.2)) cl) (o:=.map (fs.set j ⟨vk,vv,e.2.2⟩).toArray cl) hid (Xf w g _) (X3 w hw) (.map (he.set hv j));refine⟨_,?_,x1,st⟩;have aqZ:=iH h10;have hfk:=run_findKey (P:=P) hkd h2 w;simp only[bqH,biV,run_underlying hu,biS,J8 hw,run_checkKey _ hkd hp,hfk,blH,h5,biQ,Option.getD_some,h8,Instr.keyThatStays,aqZ,if_true,bjX,arQ];exact PO _ hw;cases h;rename_i hf;cases h;rcases Rm he hf with ⟨_,h2⟩ | ⟨j',a',v',e',f,h1,_⟩
           obtain⟨x1,st⟩:=hs.put (b:=.map (es++[(vk,v,cl)]) (cl+1)) (o:=.map (fs++[(⟨vk,vv,cl⟩:MapEntry)]).toArray (cl+1)) hid (Xf w g _) (X3 w hw) (.map (he.snoc hv));refine⟨_,?_,x1,st⟩;have hfk:=run_findKey (P:=P) hkd h2 w;have arS:fs.toArray.push (⟨vk,vv,cl⟩:MapEntry)=(fs++[(⟨vk,vv,cl⟩:MapEntry)]).toArray:=by simp
           simp only[bqH,biV,run_underlying hu,biS,J8 hw,run_checkKey _ hkd hp,hfk,arS];exact PO _ hw;cases h1;cases h
       cases h
     cases h
   cases h
 cases h
def uE{P:Program}{G:AK}{c:Cx}{w:World}{s:AS}{t:TypeId}(hs:St G c w s) :
   ∃v' w' c',(bsL t none).run P w=.ok v' w'/\Ext c w c' w'/\St G c' w' (s.new (.map [] 0))/\Rp c' w' (.mp s.nx) v':=by
 obtain⟨e,st⟩:=hs.new (b:=.map [] 0) (o:=.map #[] 0) (.map (fs:=[]) .nil);refine⟨.map (some w.heap.size),_,_,?_,e,st,.mp ?_⟩;simp[bsL];simp[hs.len]
def ZX(P:Program)(s:AS)(t:TypeId)(a:AV):Option AV :=
 match P.underlying t,a with
 | some .string,.sc (.string x)=>some (.sc (.int .i64 x.data.toList.length))
 | some (.slice _),.sl _ n _=>some (.sc (.int .i64 n))
 | some (.slice _),.msl _ _ n=>some (.sc (.int .i64 n))
 | some (.map _ _),.sc (.map none)=>some (.sc (.int .i64 0))
 | some (.map _ _),.mp id=>match s.get id with
   | some (.map es _)=>some (.sc (.int .i64 es.length))
   | _=>none
 | _,_=>none
def ayU{P:Program}{G:AK}{c:Cx}{w:World}{s:AS}{t ty:TypeId}{a r:AV}{v:Value}(hs:St G c w s)(h:ZX P s t a=some r)(ha:Rp c w a v):∃u,(bnG #[t] ty #[v]).run P w=.ok u w/\Rp c w r u:=by
 unfold ZX at h;split at h;rename_i x hu;cases h;cases ha;exact⟨_,by simp[bnG,run_underlying hu,goInt],.sc rfl⟩;rename_i hu;cases h;cases ha<;>exact⟨_,by simp[bnG,run_underlying hu,goInt],.sc rfl⟩
 rename_i hu;cases h;cases ha;exact⟨_,by simp[bnG,run_underlying hu,goInt],.sc rfl⟩;rename_i hu;cases h;cases ha;exact⟨_,by simp[bnG,run_underlying hu,goInt],.sc rfl⟩
 · rename_i hu
   split at h
   · rename_i es cl hb
     cases h;cases ha with
     | mp hid =>
       obtain⟨fs,hw,he⟩:=Xb hs hid hb;exact⟨_,by simp[bnG,run_underlying hu,J8 hw,he.len,goInt],.sc rfl⟩
   cases h
 cases h
def JM(P:Program)(s:AS)(t:TypeId)(l c:AV):Option (AV×AS) :=
 match P.underlying t with
 | some (.slice elem)=>match P.info? elem,Tc l,Tc c with
   | some e,some n,some m=>match e.zero with
     | some z=>match ML z.cells.toList with
       | some zs=>if n=m/\n<=16777216/\n*e.bytes<=281474976710656/\zs.isEmpty=false then some (.msl s.nx 0 n,s.new (.cells ((bjR (n*e.size)).map λi=>zs.getD (i % zs.length) (.sc undef)))) else none
       | none=>none
     | none=>none
   | _,_,_=>none
 | _=>none
end AI
