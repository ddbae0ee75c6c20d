/- Part of a proof: see the last text. -/
import Derived.Test.YtpbkhogolfegfaaGreatDoorPgb
import Derived.Lib.Strings
set_option linter.unusedVariables false
set_option linter.unusedSimpArgs false
set_option linter.defProp false
noncomputable section
namespace AI
open Go Go.RowKit
def nO{c:Cx}{w:World}{zs:List AV}{vs:List Value}(h:CG c w zs vs)(m:Nat)(hm:m≠0->zs≠[]) :
   CG c w ((List.range m).map λi=>zs.getD (i % zs.length) (.sc undef)) ((List.range m).map λi=>vs.toArray[i % vs.toArray.size]!):=by
 refine CG.aAZ (by simp) (λi a v h1 h2=>?_);rw[List.getElem?_map] at h1 h2;cases hr:(List.range m)[i]? with
 | none=>rw[hr] at h1;cases h1
 | some j =>
   rw[hr] at h1 h2;simp only[Option.map_some,Option.some.injEq] at h1 h2;have hj:j < m:=List.mem_range.1 (List.mem_of_getElem? hr);have hne:=hm (by omega);have hlen:zs.length≠0:=λe=>hne (List.eq_nil_of_length_eq_zero e);have hlt:j % zs.length < zs.length:=Nat.mod_lt _ (by omega);have hl:=h.len;have hg:zs[j % zs.length]?=some (zs[j % zs.length]'hlt):=List.getElem?_eq_getElem hlt;obtain⟨v',hv',hrv⟩:=h.get hg;rw[List.getD_eq_getElem?_getD,hg] at h1;subst h1;rw[List.size_toArray,hl] at h2
   have:vs.toArray[j % zs.length]! = v':=by
     rw[getElem!_def,List.getElem?_toArray,hv']
   rw[this] at h2;subst h2;exact hrv
def Mt(P:Program)(t:TypeId)(len:Nat)(parts:List (Nat×AV)):Option AV :=
 match P.underlying t with
 | some (.slice elem)=>match P.info? elem with
   | some e=>if len*e.size<=16777216 then
       (if len*e.size=0 then (if len=0/\parts.isEmpty=true then some (.sl .full 0 []) else none) else match e.zero with
         | some z=>match Mj z.cells.toList with
           | some zs=>if zs.isEmpty=true then none else (Tl (λi=>some (i*e.size,e.size)) ((List.range (len*e.size)).map λi=>zs.getD (i % zs.length) (.sc undef)) parts).map (.sl .full len)
           | none=>none
         | none=>none)
     else none
   | none=>none
 | _=>none
def XT{P:Program}{G:Bc}{c:Cx}{w:World}{s:AS}{t:TypeId}{len:Nat}{ps:List (Nat×AV)}{r:AV}{qs:Array (Nat×Value)}(hs:St G c w s)(h:Mt P t len ps=some r)(hp:PL c w ps qs.toList) :
   ∃u w',(Instr.buildSlice t len qs).run P w=.ok u w'/\Ext c w c w'/\St G c w' s/\Rp c w' r u:=by
 unfold Mt at h;split at h
 · rename_i elem hu
   split at h
   · rename_i e he
     split at h
     · rename_i h24
       split at h;rename_i h0;split at h;rename_i hz;cases h
       have hq:qs.toList=[]:=by
         have tU:ps=[]:=List.isEmpty_iff.1 hz.2;subst tU;have:∀l,PL c w [] l->l=[]:=λl h=>by cases h;rfl
         exact this _ hp
       obtain⟨rfl,_⟩:=hz;obtain⟨x,st⟩:=hs.same (N2 w (.cells #[] elem));refine⟨.slice (some ⟨w.heap.size,0,none⟩) 0 0,_,?_,x,st,.sl0 rfl⟩;have hz0:Array.range 0=#[]:=rfl;simp[Instr.buildSlice,run_underlying hu,CE he,hq,Instr.fill,newRow,hz0];cases h
       · rename_i h0
         split at h
         · rename_i z hz
           split at h
           · rename_i zs hzs
             split at h;cases h
             · rename_i hne
               have uA:=QV hzs c w;have hin:=nO uA (len*e.size) (λ_ hn=>hne (by rw[hn];rfl));simp only[Array.toArray_toList] at hin;cases hf:Tl (λi=>some (i*e.size,e.size)) ((List.range (len*e.size)).map λi=>zs.getD (i % zs.length) (.sc undef)) ps with
               | none=>rw[hf] at h;cases h
               | some cs =>
                 rw[hf] at h;cases h;obtain⟨us,Wt,hur⟩:=XW hf hin hp;obtain⟨x,st⟩:=hs.same (N2 w (.cells us.toArray elem));refine⟨.slice (some ⟨w.heap.size,0,none⟩) len len,_,?_,x,st,.Ll (Nat.le_refl _) (Be.O6 (hur.mono x) (λi v hv=>by rw[Nat.zero_add];exact hs.atI us elem hv)) rfl⟩
                 have aeR:(Array.range (len*e.size)).map (λi=>z.cells[i % z.cells.size]!)=((List.range (len*e.size)).map λi=>z.cells[i % z.cells.size]!).toArray:=by
                   apply Array.ext';simp
                 rw[<- aeR] at Wt;have aMO:¬16777216 < len*e.size:=by omega
                 unfold Instr.buildSlice;simp only[Sem.run_bind,run_underlying hu,Result.andThen_ok,CE he,Sem.run_ite,gt_iff_lt,show(2:Nat) ^ 24=16777216 from rfl,aMO,if_false,Sem.run_pure,h0,zeroValue,typeInfo,run_program,hz,he,Wt];simp[newRow]
           cases h
         cases h
     cases h
   cases h
 cases h
def RZ(P:Program)(st:TypeId)(a:AV)(k:Nat):Option AV :=
 match P.underlying st with
 | some (.struct fields)=>match fields.toList[k]? with
   | some f=>match P.info? f.type with
     | some i=>if i.size=0 then none else match a with
       | .ptr id off=>some (.ptr id (off+f.offset))
       | .el cs=>some (.el (cs.drop f.offset))
       | _=>none
     | none=>none
   | none=>none
 | _=>none
def iA{P:Program}{c:Cx}{w:World}{st:TypeId}{a r:AV}{k:Nat}{v:Value}(h:RZ P st a k=some r)(ha:Rp c w a v):∃u,(Instr.fieldAt st v k).run P w=.ok u w/\Rp c w r u:=by
 unfold RZ at h;split at h
 · rename_i fields hu
   split at h
   · rename_i f hf
     split at h
     · rename_i i hi
       split at h;cases h
       · rename_i h0
         have Yw:fields[k]?=some f:=by rw[<- Array.getElem?_toList];exact hf
         split at h
         · cases h
           cases ha with
           | ptr hid =>
             refine⟨_,?_,.ptr hid⟩;simp[Instr.fieldAt,run_underlying hu,Yw,Instr.sureAddr,fieldPlace,CE hi,h0,add_lit]
         · cases h
           cases ha with
           | el hc =>
             refine⟨_,?_,.el (hc.drop f.offset)⟩;simp[Instr.fieldAt,run_underlying hu,Yw,Instr.sureAddr,fieldPlace,CE hi,h0,add_lit]
         cases h
     cases h
   cases h
 cases h
def XV(P:Program)(st:TypeId)(a:AV)(k:Nat):Option AV :=
 match P.underlying st with
 | some (.struct fields)=>match fields.toList[k]? with
   | some f=>match a with
     | .agg cs=>apart P f.type cs f.offset
     | _=>none
   | none=>none
 | _=>none
def wX{P:Program}{c:Cx}{w:World}{st:TypeId}{a r:AV}{k:Nat}{v:Value}(h:XV P st a k=some r)(ha:Rp c w a v)(w0:World):∃u,(Instr.field st v k).run P w0=.ok u w0/\Rp c w r u:=by
 unfold XV at h;split at h
 · rename_i fields hu
   split at h
   · rename_i f hf
     split at h
     · cases ha with
       | agg hr =>
         have Yw:fields[k]?=some f:=by rw[<- Array.getElem?_toList];exact hf
         obtain⟨u,h1,h2⟩:=XZ h hr w0;exact⟨u,by simp[Instr.field,run_underlying hu,Yw,asAgg,h1],h2⟩
     cases h
   cases h
 cases h
def RA:AV->Option Nat
 | .sc (.int _ i)=>if 0<=i then some i.toNat else none
 | _=>none
def Nu{c:Cx}{w:World}{a:AV}{v:Value}{n:Nat}(h:RA a=some n)(ha:Rp c w a v):∃k i,v=.int k i/\0<=i/\i.toNat=n:=by
 unfold RA at h;split at h;rename_i k i;split at h;rename_i h0;cases h;cases ha;exact⟨k,i,rfl,h0,rfl⟩;cases h;cases h
def CH(P:Program)(t:TypeId)(x ix:AV):Option AV :=
 match P.underlying t,RA ix with
 | some (.slice elem),some i=>match P.info? elem,x with
   | some e,.sl _ n cs=>if i < n then some (.el (cs.drop (i*e.size))) else none
   | some e,.msl id off n=>if i < n then some (.ptr id (off+i*e.size)) else none
   | _,_=>none
 | some (.array len elem),some i=>match P.info? elem,x with
   | some e,.ptr id off=>if i < len then some (.ptr id (off+i*e.size)) else none
   | some e,.el cs=>if i < len then some (.el (cs.drop (i*e.size))) else none
   | _,_=>none
 | _,_=>none
def iB{P:Program}{c:Cx}{w:World}{t:TypeId}{x ix r:AV}{v vi:Value}(h:CH P t x ix=some r)(hx:Rp c w x v)(hi:Rp c w ix vi):∃u,(Instr.indexAt t v vi).run P w=.ok u w/\Rp c w r u:=by
 unfold CH at h;split at h
 · rename_i elem i hu hn
   obtain⟨k,z,rfl,hz0,rfl⟩:=Nu hn hi;split at h
   · rename_i e n cs he
     split at h
     · rename_i hlt
       cases h;have hz1:z < (n:Int):=by omega
       cases hx with
       | sl0=>omega
       | Ll hn hc ho =>
         refine⟨_,?_,.el (hc.drop _)⟩;simp[Instr.indexAt,asIntOf,run_underlying hu,hz0,hz1,CE he,add_lit]
     cases h
   · rename_i e id off n he
     split at h
     · rename_i hlt
       cases h;have hz1:z < (n:Int):=by omega
       cases hx with
       | msl hn hid =>
         refine⟨_,?_,.ptr hid⟩;simp[Instr.indexAt,asIntOf,run_underlying hu,hz0,hz1,CE he,add_lit]
     cases h
   cases h
 · rename_i len elem i hu hn
   obtain⟨k,z,rfl,hz0,rfl⟩:=Nu hn hi;split at h
   · rename_i e id off he
     split at h
     · rename_i hlt
       cases h;have hz1:z < (len:Int):=by omega
       cases hx with
       | ptr hid =>
         refine⟨_,?_,.ptr hid⟩;simp[Instr.indexAt,asIntOf,run_underlying hu,hz0,hz1,CE he,add_lit,Instr.sureAddr]
     cases h
   · rename_i e cs he
     split at h
     · rename_i hlt
       cases h;have hz1:z < (len:Int):=by omega
       cases hx with
       | el hc =>
         refine⟨_,?_,.el (hc.drop _)⟩;simp[Instr.indexAt,asIntOf,run_underlying hu,hz0,hz1,CE he,add_lit,Instr.sureAddr]
     cases h
   cases h
 cases h
def Lm(P:Program)(t:TypeId)(x ix:AV):Option AV :=
 match P.underlying t,RA ix with
 | some (.array len elem),some i=>match P.info? elem,x with
   | some e,.agg cs=>if i < len then apart P elem cs (i*e.size) else none
   | _,_=>none
 | some .string,some i=>match x with
   | .sc (.string s)=>match s.data.toList[i]? with
     | some b=>some (.sc (.int .u8 b.toNat))
     | none=>none
   | _=>none
 | _,_=>none
def wY{P:Program}{c:Cx}{w:World}{t:TypeId}{x ix r:AV}{v vi:Value}(h:Lm P t x ix=some r)(hx:Rp c w x v)(hi:Rp c w ix vi)(w0:World):∃u,(Instr.index t v vi).run P w0=.ok u w0/\Rp c w r u:=by
 unfold Lm at h;split at h
 · rename_i len elem i hu hn
   obtain⟨k,z,rfl,hz0,rfl⟩:=Nu hn hi;split at h
   · rename_i e cs he
     split at h
     · rename_i hlt
       have hz1:z < (len:Int):=by omega
       cases hx with
       | agg hr =>
         obtain⟨u,h1,h2⟩:=XZ h hr w0;exact⟨u,by simp[Instr.index,asIntOf,run_underlying hu,hz0,hz1,CE he,h1],h2⟩
     cases h
   cases h
 rename_i i hu hn;obtain⟨k,z,rfl,hz0,rfl⟩:=Nu hn hi;split at h;rename_i s;split at h;rename_i b hb;cases h;cases hx;refine⟨_,?_,.sc rfl⟩
 have WU:s[z.toNat]?=some b:=by
   rw[<- hb];have hlt:=(List.getElem?_eq_some_iff.1 hb).1;have hl2:z.toNat < s.size:=by simpa using hlt
   rw[getElem?_pos s z.toNat hl2,List.getElem?_eq_getElem hlt];rfl
 simp[Instr.index,asIntOf,run_underlying hu,hz0,WU];cases h;cases h;cases h
def RY(x:AV)(k:Nat):Option AV :=
 match x with
 | .C4 vs=>vs[k]?
 | _=>none
def hZ{P:Program}{c:Cx}{w:World}{x r:AV}{k:Nat}{v:Value}(h:RY x k=some r)(hx:Rp c w x v)(w0:World):∃u,(Instr.extract v k).run P w0=.ok u w0/\Rp c w r u:=by
 unfold RY at h;split at h
 · cases hx with
   | C4 hr =>
     obtain⟨u,h1,h2⟩:=hr.get h;exact⟨u,by simp[Instr.extract,h1],h2⟩
 cases h
end AI
namespace AI
open Go Go.RowKit
def Zm:AV->Option Value
 | .sc v=>some v
 | _=>none
def Pf:List AV->Option (List Value)
 | []=>some []
 | a::as=>match Zm a,Pf as with
   | some v,some vs=>some (v::vs)
   | _,_=>none
def Vm:AV->Option Value
 | .sc v=>some v
 | .agg cs=>(Pf cs).map λl=>.agg l.toArray
 | _=>none
def Vl{c:Cx}{w:World}{a:AV}{v u:Value}(h:Zm a=some v)(ha:Rp c w a u):u=v:=by
 unfold Zm at h;split at h;cases h;cases ha;rfl;cases h
def Zn{c:Cx}{w:World}{as:List AV}{vs us:List Value}(h:Pf as=some vs)(ha:CG c w as us):us=vs:=by
 induction as generalizing vs us with
 | nil=>simp[Pf] at h;subst h;cases ha;rfl
 | cons a as ih =>
   simp only[Pf] at h;split at h;rename_i v vs' h1 h2;cases h;cases ha with
   | cons p q=>rw[Vl h1 p,ih h2 q]
   cases h
def mK{c:Cx}{w:World}{a:AV}{v u:Value}(h:Vm a=some v)(ha:Rp c w a u):u=v:=by
 unfold Vm at h;split at h;cases h;cases ha;rfl
 · rename_i cs
   cases hc:Pf cs with
   | none=>rw[hc] at h;cases h
   | some l =>
     rw[hc] at h;cases h;cases ha with
     | agg hr=>rw[Zn hc hr]
 cases h
def Z5(v:Value):Option AV:=if scalar v then some (.sc v) else none
def fW{v:Value}{a:AV}(h:Z5 v=some a)(c:Cx)(w:World):Rp c w a v:=by
 unfold Z5 at h;split at h;rename_i hs;cases h;exact .sc hs;cases h
def xE(op:BinOp)(x y:ByteArray):Option Value :=
 match op with
 | .add=>if x.data.toList.length+y.data.toList.length<=9223372036854775807 then some (.string ⟨(x.data.toList++y.data.toList).toArray⟩) else none
 | .eql=>some (.bool (x.data.toList == y.data.toList))
 | .neq=>some (.bool (!(x.data.toList == y.data.toList)))
 | .lss=>some (.bool (Op.bytesLess x.data.toList y.data.toList))
 | .leq=>some (.bool (Op.bytesLess x.data.toList y.data.toList||x.data.toList == y.data.toList))
 | .gtr=>some (.bool (!(Op.bytesLess x.data.toList y.data.toList||x.data.toList == y.data.toList)))
 | .geq=>some (.bool (!(Op.bytesLess x.data.toList y.data.toList)))
 | _=>none
def Ti(P:Program)(op:BinOp)(t:TypeId)(xo yo:Operand)(a b:AV):Option AV :=
 match a,b with
 | .sc (.string x),.sc (.string y)=>(xE op x y).bind Z5
 | a,b=>match Vm a,Vm b with
   | some u,some v=>(pv P (do eqGuard op t xo yo u v;binOp op t u v)).bind Z5
   | _,_=>none
def dB(x y:ByteArray):x++y=⟨(x.data.toList++y.data.toList).toArray⟩:=by
 apply ByteArray.ext;simp
def abP{P:Program}{c:Cx}{w:World}{op:BinOp}{t:TypeId}{xo yo:Operand}{a b r:AV}{u v:Value}(h:Ti P op t xo yo a b=some r)(ha:Rp c w a u)(hb:Rp c w b v)(w0:World) :
   ∃z,(do eqGuard op t xo yo u v;binOp op t u v:Sem Value).run P w0=.ok z w0/\Rp c w r z:=by
 unfold Ti at h;split at h
 · rename_i x y
   cases ha;cases hb;cases hs:xE op x y with
   | none=>rw[hs] at h;cases h
   | some z =>
     rw[hs,Option.bind_some] at h;refine⟨z,?_,fW h c w⟩;have hl1:x.data.toList.length=x.size:=by simp
     have hl2:y.data.toList.length=y.size:=by simp
     unfold xE at hs;split at hs;split at hs;rename_i hle;cases hs;rw[hl1,hl2] at hle
     have:¬((x.size+y.size:Nat):Int) > IntKind.i64.max:=by
       show ¬((x.size+y.size:Nat):Int) > 9223372036854775807;omega
     simp[eqGuard,binOp,Op.stringOp,dB];omega;cases hs
     all_goals first
       | (cases hs;simp[eqGuard,binOp,Op.stringOp,ByteArray.toList_eq];done)
       | (cases hs;done)
 · split at h
   · rename_i u' v' h1 h2
     have e1:=mK h1 ha;have e2:=mK h2 hb;subst e1 e2;cases hp:pv P (do eqGuard op t xo yo u v;binOp op t u v) with
     | none=>rw[hp] at h;cases h
     | some z =>
       rw[hp,Option.bind_some] at h;exact⟨z,ahO _ hp w0,fW h c w⟩
   cases h
def aGI:Operand->Bool
 | .const (.slice none 0 0)=>true
 | _=>false
def amS(P:Program)(op:BinOp)(t:TypeId)(yo:Operand)(z:Bool):Option AV:=match aGI yo,P.underlying t with
 | true,some (.slice _)=>(match op with
   | .eql=>some (.sc (.bool z))
   | .neq=>some (.sc (.bool (!z)))
   | _=>none)
 | _,_=>none
def MZ(P:Program)(op:BinOp)(t:TypeId)(xo yo:Operand)(a b:AV):Option AV :=
 match a with
 | .sl .nil _ _=>amS P op t yo true
 | .sl .nn _ _=>amS P op t yo false
 | a=>Ti P op t xo yo a b
def cZ{P:Program}{op:BinOp}{t:TypeId}{xo yo:Operand}{z:Bool}{r:AV}{A:Option Addr}{n cap:Nat}{v:Value}(h:amS P op t yo z=some r)(hA:A.isNone=z)(hy:∀k,yo=.const k->v=k)(c:Cx)(w w0:World) :
   ∃q,(do eqGuard op t xo yo (.slice A n cap) v;binOp op t (.slice A n cap) v:Sem Value).run P w0=.ok q w0/\Rp c w r q:=by
 unfold amS at h;split at h;rename_i e hn hu
 have hv:v=.slice none 0 0:=by
   unfold aGI at hn;split at hn;exact hy _ rfl;cases hn
 subst hv
 have PR:(Op.equal t (.slice A n cap) (.slice none 0 0)).run P w0=.ok z w0:=by
   unfold Op.equal;obtain⟨d,hd⟩:∃d,Op.maxDepth=d+1:=⟨_,rfl⟩;rw[hd];unfold Op.equalIn;rw[Sem.run_bind,run_underlying hu,Result.andThen_ok];cases A with
   | none=>simp only[Option.isNone_none] at hA;subst hA;rfl
   | some a=>simp only[Option.isNone_some] at hA;subst hA;rfl
 split at h;cases h;exact⟨.bool z,by simp only[eqGuard,binOp];rw[Sem.run_bind];simp[PR],.sc rfl⟩;cases h;exact⟨.bool !z,by simp only[eqGuard,binOp];rw[Sem.run_bind];simp[PR],.sc rfl⟩;cases h;cases h
def amP{P:Program}{c:Cx}{w:World}{op:BinOp}{t:TypeId}{xo yo:Operand}{a b r:AV}{u v:Value}(h:MZ P op t xo yo a b=some r)(ha:Rp c w a u)(hb:Rp c w b v)(hy:∀k,yo=.const k->v=k)(w0:World) :
   ∃z,(do eqGuard op t xo yo u v;binOp op t u v:Sem Value).run P w0=.ok z w0/\Rp c w r z:=by
 unfold MZ at h;split at h;cases ha with
 | sl0 h0=>exact cZ h h0 hy c w w0
 | Ll _ _ ho=>exact ho.elim
 cases ha with
 | sl0 h0=>exact cZ h h0 hy c w w0
 | Ll _ _ ho=>exact cZ h rfl hy c w w0
 exact abP h ha hb w0
def Wk(P:Program)(s:Sem Value):Option AV:=(pv P s).bind Z5
def UO{P:Program}{s:Sem Value}{r:AV}(h:Wk P s=some r)(c:Cx)(w w0:World):∃z,s.run P w0=.ok z w0/\Rp c w r z:=by
 unfold Wk at h;cases hp:pv P s with
 | none=>rw[hp] at h;cases h
 | some z =>
   rw[hp,Option.bind_some] at h;exact⟨z,ahO _ hp w0,fW h c w⟩
def NX(d:Nat):Option AV->Option Nat
 | none=>some d
 | some a=>RA a
inductive RO(c:Cx)(w:World):Option AV->Option Value->Prop where
 | none:RO c w none none
 | some {a:AV} {v:Value} (h:Rp c w a v):RO c w (some a) (some v)
def LZ(P:Program)(t:TypeId)(x:AV)(lo hi mx:Option AV):Option AV :=
 match P.underlying t with
 | some .string=>match x with
   | .sc (.string s)=>match mx,NX 0 lo,NX s.data.toList.length hi with
     | none,some l,some h=>if l<=h/\h<=s.data.toList.length then some (.sc (.string ⟨((s.data.toList.drop l).take (h - l)).toArray⟩)) else none
     | _,_,_=>none
   | _=>none
 | some (.slice elem)=>match P.info? elem,x with
   | some e,.sl own n cs=>match NX 0 lo,NX n hi with
     | some l,some h=>if l<=h/\h<=n/\cs.length=n*e.size then
         (match mx with
         | none=>some (.sl (if l=0/\h=n then own else if h=n/\own=.full then .full else .lost) (h - l) ((cs.drop (l*e.size)).take ((h - l)*e.size)))
         | some m=>match RA m with
           | some m=>if h=m/\hi.isSome=true then some (.sl .full (h - l) ((cs.drop (l*e.size)).take ((h - l)*e.size))) else none
           | none=>none)
       else none
     | _,_=>none
   | _,_=>none
 | _=>none
def SD(d:Nat)(o:Option Value)(n:Nat):Prop:=(o=none/\n=d)\/∃k i,o=some (.int k i)/\0<=i/\i.toNat=n
def SE{c:Cx}{w:World}{d n:Nat}{a:Option AV}{v:Option Value}(h:NX d a=some n)(ha:RO c w a v):SD d v n:=by
 cases ha with
 | none=>simp[NX] at h;exact .inl ⟨rfl,h.symm⟩
 | some h1 =>
   obtain⟨k,i,rfl,h2,h3⟩:=Nu h h1;exact .inr ⟨k,i,rfl,h2,h3⟩
def Kl{P:Program}(k:IntKind)(i:Int)(y:Nat)(code:BoundsCode)(w:World)(h0:0<=i)(h1:i.toNat<=y):(Instr.sliceBound (.int k i) y code).run P w=.ok i.toNat w:=by
 have:i<=(y:Int):=by omega
 simp[Instr.sliceBound,asIntOf,h0,this]
def Un{P:Program}{isSlice:Bool}{len cap l h:Nat}{lo hi:Option Value}(hlo:SD 0 lo l)(hhi:SD len hi h)(hle:l<=h)(hh:h<=cap)(w:World) :
   (Instr.sliceBounds isSlice len cap lo hi none).run P w=.ok (l,h,cap) w:=by
 rcases hlo with ⟨rfl,rfl⟩ | ⟨k,i,rfl,PS,rfl⟩<;>rcases hhi with ⟨rfl,rfl⟩ | ⟨k',i',rfl,aeY,rfl⟩
 simp[Instr.sliceBounds];simp[Instr.sliceBounds,Kl k' i' cap _ w aeY hh];simp[Instr.sliceBounds,Kl k i h _ w PS hle];simp[Instr.sliceBounds,Kl k' i' cap _ w aeY hh,Kl k i _ _ w PS hle]
def lU{P:Program}{isSlice:Bool}{len cap l h:Nat}{lo hi:Option Value}{k:IntKind}{j:Int}(hlo:SD 0 lo l)(hhi:∃k i,hi=some (.int k i)/\0<=i/\i.toNat=h)(hle:l<=h)(hj:0<=j)(hh:h<=j.toNat)(hc:j.toNat<=cap)(w:World) :
   (Instr.sliceBounds isSlice len cap lo hi (some (.int k j))).run P w=.ok (l,h,j.toNat) w:=by
 obtain⟨k',i',rfl,aeY,rfl⟩:=hhi;rcases hlo with ⟨rfl,rfl⟩ | ⟨k2,i,rfl,PS,rfl⟩
 simp[Instr.sliceBounds,Kl k j cap _ w hj hc,Kl k' i' _ _ w aeY hh];simp[Instr.sliceBounds,Kl k j cap _ w hj hc,Kl k' i' _ _ w aeY hh,Kl k2 i _ _ w PS hle]
def take_nil{c:Cx}{w:World}{g o:Nat}{cs:List AV}(l n:Nat)(h:Be c w g o cs):Be c w g (o+l) ((cs.drop l).take n):=(h.drop l).take n
def xC{P:Program}{c:Cx}{w:World}{t:TypeId}{x r:AV}{lo hi mx:Option AV}{v:Value}{lo' Nl mx':Option Value}(h:LZ P t x lo hi mx=some r)(hx:Rp c w x v)(hlo:RO c w lo lo')(hhi:RO c w hi Nl)(hmx:RO c w mx mx') :
   ∃u,(Instr.sliceAt t v lo' Nl mx').run P w=.ok u w/\Rp c w r u:=by
 unfold LZ at h;split at h;rename_i hu;split at h;rename_i s;split at h;rename_i l hh e1 e2;split at h;rename_i hc;cases h;cases hx;cases hmx;have b1:=SE e1 hlo;have b2:=SE e2 hhi;rw[show s.data.toList.length=s.size from by simp] at b2 hc;refine⟨_,?_,.sc rfl⟩;simp only[Instr.sliceAt,Sem.run_bind,run_underlying hu,Result.andThen_ok,Instr.slice,Option.isSome_none,Bool.false_eq_true,if_false,Un b1 b2 hc.1 hc.2,Sem.run_pure];congr 2;apply ByteArray.ext;apply Array.ext';rw[Lib.extract_data];cases h;cases h;cases h
 · rename_i elem hu
   split at h
   · rename_i e own n cs he
     split at h
     · rename_i l hh e1 e2
       split at h
       · rename_i hc
         have b1:=SE e1 hlo;have b2:=SE e2 hhi
         have RG:∀(A:Option Addr) (cap:Nat),n<=cap->mx'=none->(Instr.sliceAt t (.slice A n cap) lo' Nl mx').run P w=.ok (.slice (if cap=l then A else A.map (·.add (l*e.size))) (hh - l) (cap - l)) w:=by
           intro A cap pI hm;subst hm;simp only[Instr.sliceAt,Sem.run_bind,run_underlying hu,Result.andThen_ok,Instr.slice,Un b1 b2 hc.1 (Nat.le_trans hc.2.1 pI),Sem.run_pure,CE he]
         split at h
         · cases h
           cases hmx;cases hx with
           | sl0 h0 =>
             obtain⟨rfl,rfl⟩:l=0/\hh=0:=by omega
             refine⟨_,RG _ _ (Nat.zero_le _) rfl,?_⟩;simp only[List.drop_nil,List.take_nil,Nat.sub_zero,if_true,and_self];exact .sl0 (h0.re (by split<;>simp))
           | Ll hn U1 ho =>
             rename_i cap g o;refine⟨_,RG _ _ hn rfl,?_⟩;by_cases Hg:l=0/\hh=n;obtain⟨rfl,rfl⟩:=Hg;simp only[Nat.zero_mul,List.drop_zero,Nat.sub_zero,and_self,if_true];rw[List.take_of_length_le (by rw[hc.2.2];exact Nat.le_refl _)]
             have:(if cap=0 then some (⟨g,o,none⟩:Addr) else Option.map (λx:Addr=>x.add 0) (some ⟨g,o,none⟩))=some ⟨g,o,none⟩:=by
               split;rfl;simp[Addr.add]
             rw[this];exact .Ll hn U1 ho;rw[if_neg Hg];by_cases hz:hh - l=0;have eC:((cs.drop (l*e.size)).take ((hh - l)*e.size))=[]:=by rw[hz];simp
             rw[eC,hz];by_cases hf:hh=n/\own=.full;rw[if_pos hf];obtain⟨rfl,rfl⟩:=hf;have:cap=hh:=ho;exact .sl0 (by show cap - l=0;omega);rw[if_neg hf];exact .sl0 trivial;have hne:¬cap=l:=by omega
             rw[if_neg hne];simp only[Option.map_some,add_lit];refine .Ll (by omega) ((U1.drop _).take _) ?_;by_cases hf:hh=n/\own=.full;rw[if_pos hf];obtain⟨rfl,rfl⟩:=hf;have:cap=hh:=ho;show cap - l=hh - l;omega;rw[if_neg hf];trivial
         · rename_i m
           split at h
           · rename_i j hj
             split at h
             · rename_i hjm
               cases h;obtain⟨rfl,aFS⟩:=hjm;cases hmx with
               | some hm =>
                 obtain⟨k,z,rfl,hz0,hz1⟩:=Nu hj hm
                 have U2:∃k i,Nl=some (.int k i)/\0<=i/\i.toNat=hh:=by
                   cases hhi with
                   | none=>cases aFS
                   | some h1 =>
                     obtain⟨k,i,rfl,h2,h3⟩:=Nu e2 h1;exact⟨k,i,rfl,h2,h3⟩
                 have avF:∀(A:Option Addr) (cap:Nat),n<=cap->(Instr.sliceAt t (.slice A n cap) lo' Nl (some (.int k z))).run P w=.ok (.slice (if hh=l then A else A.map (·.add (l*e.size))) (hh - l) (hh - l)) w:=by
                   intro A cap pI;simp only[Instr.sliceAt,Sem.run_bind,run_underlying hu,Result.andThen_ok,Instr.slice,lU b1 U2 hc.1 hz0 (Nat.le_of_eq hz1.symm) (by rw[hz1];exact Nat.le_trans hc.2.1 pI),Sem.run_pure,CE he];rw[hz1]
                 cases hx with
                 | sl0 h0 =>
                   obtain⟨rfl,rfl⟩:l=0/\hh=0:=by omega
                   refine⟨_,avF _ _ (Nat.zero_le _),?_⟩;simp only[List.drop_nil,List.take_nil,Nat.sub_zero,if_true];exact .sl0 rfl
                 | Ll hn U1 ho =>
                   refine⟨_,avF _ _ hn,?_⟩;by_cases hz:hh - l=0;have eC:((cs.drop (l*e.size)).take ((hh - l)*e.size))=[]:=by rw[hz];simp
                   rw[eC,hz];exact .sl0 rfl;rw[if_neg (by omega)];simp only[Option.map_some,add_lit];exact .Ll (Nat.le_refl _) ((U1.drop _).take _) rfl
             cases h
           cases h
       cases h
     cases h
   cases h
 cases h
end AI
namespace AI
open Go Go.RowKit
def UP(P:Program)(s:AS)(size:Nat)(tx:TypeId)(b:AV):Option (Nat×List AV) :=
 match P.underlying tx,b with
 | some (.slice _),.sl _ n cs=>if cs.length=n*size then some (n,cs) else none
 | some (.slice _),.msl id off n=>match s.get id with
   | some (.cells cs)=>if off+n*size<=cs.length then some (n,(cs.drop off).take (n*size)) else none
   | _=>none
 | some .string,.sc (.string x)=>if size=1 then some (x.data.toList.length,x.data.toList.map λb=>.sc (.int .u8 b.toNat)) else none
 | _,_=>none
def acE(c:Cx)(w:World)(l:List UInt8):CG c w (l.map λb=>.sc (.int .u8 b.toNat)) (l.map λb=>.int .u8 b.toNat):=by
 induction l with
 | nil=>exact .nil
 | cons b l ih=>exact .cons (.sc rfl) ih
structure abN(P:Program)(size:Nat)(tx:TypeId)(x:Value)(n:Nat)(news:List Value)(w:World):Prop where
 kind:(∃e',P.underlying tx=some (.slice e'))\/P.underlying tx=some .string
 len:∀w':World,(Builtin.lenOf x).run P w'=.ok n w'
 cells:∀w':World,w'.heap=w.heap->(Builtin.firstCells size n x).run P w'=.ok news.toArray w'
def dD{P:Program}{G:Bc}{c:Cx}{w:World}{s:AS}{size:Nat}{tx:TypeId}{b:AV}{x:Value}{n:Nat}{cs:List AV}(hs:St G c w s)(h:UP P s size tx b=some (n,cs))(hb:Rp c w b x) :
   ∃news,CG c w cs news/\news.length=n*size/\abN P size tx x n news w:=by
 unfold UP at h;split at h
 · rename_i e own n' cs' hu
   split at h
   · rename_i hl
     cases h;cases hb with
     | @sl0 _ A cap _ =>
       refine⟨[],.nil,by simp,.inl ⟨_,hu⟩,λ_=>rfl,λw' _=>?_⟩;cases A with
       | none=>simp[Builtin.firstCells]
       | some a=>simp[Builtin.firstCells,loadCells,loadCellsFrom]
     | Ll hn hc ho =>
       obtain⟨vs,hr,IQ⟩:=hc.vals;have hlv:=hr.len;refine⟨vs,hr,by omega,.inl ⟨_,hu⟩,λ_=>rfl,λw' hw=>?_⟩;refine run_firstCells_some w' size n _ n _ vs (by omega) (λj v hj=>?_);rw[add_lit];have:=(IQ j v hj).2.2;rw[World.cell?_of_block (w:=w) (by rw[hw])];exact this
   cases h
 · rename_i e id off n' hu
   split at h
   · rename_i cs' WU
     split at h
     · rename_i hl
       cases h;cases hb with
       | msl hn hid =>
         obtain⟨vs,ext,T,hw,hr⟩:=PX hs hid WU;have hlv:=hr.len;have pL:((vs.drop off).take (n*size)).length=n*size:=by rw[List.length_take,List.length_drop];omega
         refine⟨(vs.drop off).take (n*size),(hr.drop off).take _,pL,.inl ⟨_,hu⟩,λ_=>rfl,λw' hw'=>?_⟩;refine run_firstCells_some w' size n _ n _ _ pL (λj v hj=>?_);rw[add_lit]
         have hj2:vs[off+j]?=some v:=by
           rw[List.getElem?_take] at hj;split at hj;rw[List.getElem?_drop] at hj;exact hj;cases hj
         exact cell_of_heap (by rw[hw'];exact hw) (SF hj2)
     cases h
   cases h
 rename_i x' hu;split at h;rename_i h1;cases h;cases hb;subst h1;refine⟨_,acE c w _,by simp,.inr hu,λ_=>by simp[Builtin.lenOf],λw' _=>?_⟩;simp only[Builtin.firstCells];rw[show x'.data.toList.length=x'.size from by simp];simp;apply Array.ext';simp;cases h;cases h
def AS.grow(s:AS)(r n:Nat):AS:=⟨s.h,s.nx,aaI r n s.F,s.nr⟩
def AS.add(s:AS)(n:Nat):AS:=⟨s.h,s.nx,(s.nr,n)::s.F,s.nr+1⟩
section
variable {G:Bc} {c:Cx} {w:World} {s:AS}
def St.fR(h:St G c w s){r n:Nat}(hr:D8 r s.F=some n):r < c.rows.length:=by
 rcases h.Je r n hr with h1 | ⟨g,cap,sz,h1⟩
 exact(List.getElem?_eq_some_iff.1 h1.1).1;exact(List.getElem?_eq_some_iff.1 h1).1
def MS{l:List Rw}{r r':Nat}{x y:Rw}(h:(l.set r x)[r']?=some y):(r'=r/\y=x/\r < l.length)\/(r'≠r/\l[r']?=some y):=by
 by_cases e:r=r';subst e;have hl:=(List.getElem?_eq_some_iff.1 h).1;rw[List.length_set] at hl;rw[List.getElem?_set_self hl] at h;exact .inl ⟨rfl,(Option.some.inj h).symm,hl⟩;rw[List.getElem?_set_ne e] at h;exact .inr ⟨λx=>e x.symm,h⟩
def St.fS(h:St G c w s){r n0:Nat}(hF:D8 r s.F=some n0){w':World}{g n cap sz:Nat}{vs:Array Value}{T:TypeId}(k:RV w w' (λx=>x=g))(hb:c.base<=g)(hp:some g∉c.CX)(hlt:n0 < n)(hlh:n<=cap)(hw:w'.heap[g]?=some (.cells vs T (0,0)))(hsz:vs.size=cap*sz)
   (hg:g=w.heap.size\/(c.rows[r]?=some (.RC g n0 cap sz)/\∀i v,i < n0*sz->w.cell? ⟨g,i,none⟩=some v->vs[i]?=some v)) :
   Ext c w { c with rows:=c.rows.set r (.RC g n cap sz) } w'/\St G { c with rows:=c.rows.set r (.RC g n cap sz) } w' (s.grow r n):=by
 have aQS:g < w'.heap.size:=(Array.getElem?_eq_some_iff.1 hw).1;have hrl:=h.fR hF
 have pN:∀(r':Nat) n' cap' NK,c.rows[r']?=some (.RC g n' cap' NK)->r'=r:=by
   intro r' n' cap' NK hr;rcases hg with rfl | ⟨tV,_⟩
   have:=h.Ng hr;omega;exact h.IX r' r g _ _ _ _ _ _ hr tV
 have e:Ext c w { c with rows:=c.rows.set r (.RC g n cap sz) } w':=by
   refine⟨List.prefix_refl _,by simp,λr' y hr hy=>?_,λg' i v hv=>⟨Nat.lt_of_lt_of_le hv.1 k.size,λhs=>?_,?_⟩,k.below h.QB (λx hx=>by rw[hx];exact hb),rfl,rfl,λ_ h=>.inl h,λr' g' n' cap' NK hr=>?_,λq hq _ hr=>?_⟩;rcases MS hy with ⟨rfl,rfl,_⟩ | ⟨_,h1⟩
   rcases h.Je r' n0 hF with ⟨h1,_⟩ | ⟨g1,anB,sz1,h1⟩
   exact⟨_,h1,.inr (.inl rfl)⟩;exact⟨_,h1,.inr (.inr ⟨_,_,_,_,rfl,hlt⟩)⟩;exact⟨y,h1,KS.refl y⟩
   · rcases hs with hs | ⟨r',n',cap',NK,hr,h1,h2⟩ | hs
     exact hv.2.1 (.inl hs);rotate_left;exact hv.2.1 (.inr (.inr hs));rcases MS hr with ⟨rfl,h3,_⟩ | ⟨_,h3⟩
     injection h3 with e1 e2 e3 e4
     subst e1 e2 e3 e4;rcases hg with rfl | ⟨tV,_⟩
     have:=hv.1;omega;have:=Nat.mul_le_mul_right NK (Nat.le_of_lt hlt);exact hv.2.1 (.inr (.inl ⟨r',n0,cap',NK,tV,by omega,h2⟩));exact hv.2.1 (.inr (.inl ⟨r',n',cap',NK,h3,h1,h2⟩))
   by_cases hgg:g'=g;subst hgg;rcases hg with rfl | ⟨tV,aFE⟩
   have:=hv.1;omega
   have hi1:i < n0*sz:=by
     by_cases hlt:i < n0*sz;exact hlt;exfalso;obtain⟨_,_,_,_,vs0,T0,hh0,aQW⟩:=h.row r g' n0 cap sz tV;have hc:=hv.2.2;have hns:¬i < cap*sz:=λaNK=>hv.2.1 (.inr (.inl ⟨r,n0,cap,sz,tV,by omega,aNK⟩));simp[World.cell?,hh0] at hc;have:=(Array.getElem?_eq_some_iff.1 hc).1;omega
   have:=aFE i v hi1 hv.2.2;simp[World.cell?,hw,this];rw[k.cell hv.1 hgg];exact hv.2.2;rcases MS hr with ⟨rfl,h1,_⟩ | ⟨_,h1⟩
   injection h1 with e1 _
   subst e1;rcases hg with rfl | ⟨tV,_⟩
   exact .inr (Nat.le_refl _);exact .inl ⟨r',n0,_,_,tV⟩;exact .inl ⟨r',n',cap',NK,h1⟩;refine k.block q hq (λe=>?_);subst e;rcases hg with rfl | ⟨tV,_⟩
   omega;exact hr r _ _ _ tV
 refine⟨e,⟨h.len,h.desc,h.nodup,h.low,λid g' b' h1 h2=>?_,by simp[AS.grow,h.I2],λr' g' n' cap' NK hr=>?_,λr' n' hr=>?_,λg hg=>Nat.lt_of_lt_of_le (h.MM g hg) k.size,λg i hb=>Nat.lt_of_lt_of_le (h.M0 g i hb) k.size,λr1 r2 g' n1 c1 s1 n2 c2 s2 hr Xl=>?_,λg' cs Yy=>(h.M1 g' cs Yy).mono e,Nat.le_trans h.QB k.size⟩⟩;obtain⟨o',ho,WU⟩:=h.box id g' b' h1 h2;exact⟨o',by rw[k.block g' (Array.getElem?_eq_some_iff.1 ho).1 (λe=>hp (by rw[<- e];exact List.mem_of_getElem? h1))];exact ho,WU.mono e⟩;rcases MS hr with ⟨rfl,h2,_⟩ | ⟨hne,h1⟩
 injection h2 with e1 e2 e3 e4
 subst e1 e2 e3 e4;refine⟨λi Lg=>?_,hb,hp,hlh,vs,T,hw,hsz⟩;rcases hg with rfl | ⟨tV,_⟩
 have:=h.M0 _ i Lg;omega;exact(h.row r' _ _ _ _ tV).1 i Lg;obtain⟨a1,a2,a3,a4,vs',T',ho,a5⟩:=h.row r' g' n' cap' NK h1
 have hne:¬g'=g:=λe=>by
   subst e;exact hne (pN r' _ _ _ h1)
 exact⟨a1,a2,a3,a4,vs',T',by rw[k.block g' (Array.getElem?_eq_some_iff.1 ho).1 hne];exact ho,a5⟩;rcases bU hr with ⟨rfl,rfl,_⟩ | ⟨hne,h2⟩
 exact .inr ⟨g,cap,sz,List.getElem?_set_self hrl⟩;simp only;rw[List.getElem?_set_ne (λe=>hne e.symm)];exact h.Je r' n' h2;rcases MS hr with ⟨rfl,h2,_⟩ | ⟨hn1,h1⟩<;>rcases MS Xl with ⟨rfl,h4,_⟩ | ⟨hn2,h3⟩
 rfl;injection h2 with e1
 subst e1;exact(pN r2 _ _ _ h3).symm;injection h4 with e1
 subst e1;exact pN r1 _ _ _ h1;exact h.IX r1 r2 g' _ _ _ _ _ _ h1 h3
def St.aqW(h:St G c w s){w':World}{n cap sz:Nat}{vs:Array Value}{T:TypeId}(k:RV w w' (λx=>x=w.heap.size))(hn:0 < n)(hlh:n<=cap)(hw:w'.heap[w.heap.size]?=some (.cells vs T (0,0)))(hsz:vs.size=cap*sz) :
   Ext c w { c with rows:=c.rows++[.RC w.heap.size n cap sz] } w'/\St G { c with rows:=c.rows++[.RC w.heap.size n cap sz] } w' (s.add n):=by
 obtain⟨e1,st1⟩:=h.tok
 have hl:D8 s.nr s.tok.F=some 0:=by
   simp only[AS.tok,D8];split;rfl;rename_i hb;exact absurd rfl (beq_false hb)
 have hp:some w.heap.size∉c.CX:=λhm=>by have:=h.Na hm;omega
 obtain⟨e2,UF⟩:=st1.fS hl (g:=w.heap.size) (n:=n) (cap:=cap) (sz:=sz) k h.QB hp hn hlh hw hsz (.inl rfl)
 have hs:(c.rows++[Rw.new]).set s.nr (.RC w.heap.size n cap sz)=c.rows++[.RC w.heap.size n cap sz]:=by
   rw[h.I2,List.set_append_right _ _ (Nat.le_refl _)];simp
 have hf:s.tok.grow s.nr n=s.add n:=by
   simp only[AS.tok,AS.grow,AS.add,aaI];have:Nat.beq s.nr s.nr=true:=Nat.beq_refl _;rw[this]
 simp only[hs] at e2 UF;rw[hf] at UF;exact⟨e1.trans e2,UF⟩
end
end AI
namespace AI
open Go Go.RowKit
def Q5{P:Program}{w:World}{t tx ty e:TypeId}{i:TypeInfo}(ht:P.underlying t=some (.slice e))(hi:P.info? e=some i){base:Option Addr}{n cap m:Nat}{x:Value}{news:List Value}(hs:abN P i.size tx x m news w)(U5:n+m<=cap){w':World}
   (Gm:∀a,base=some a->(storeCells (a.add (n*i.size)) news).run P w=.ok () w') (hno:base=none->w'=w) :
   (Builtin.append_ #[t,tx] ty #[.slice base n cap,x]).run P w=.ok (.slice base (n+m) cap) w':=by
 have hc:=hs.cells w rfl;cases base with
 | none =>
   have:=hno rfl;subst this;rcases hs.kind with ⟨e',hk⟩ | hk<;>simp[Builtin.append_,run_underlying ht,run_underlying hk,Go.sizeOf,typeInfo,hi,hs.len,U5,hc]
 | some a =>
   have:=Gm a rfl;rcases hs.kind with ⟨e',hk⟩ | hk<;>simp[Builtin.append_,run_underlying ht,run_underlying hk,Go.sizeOf,typeInfo,hi,hs.len,U5,hc,this]
def Q4{P:Program}{w:World}{t tx ty e:TypeId}{i:TypeInfo}{z:Value}(ht:P.underlying t=some (.slice e))(hi:P.info? e=some i)(hz:i.zero=some z){base:Option Addr}{n cap m:Nat}{x:Value}{olds news:List Value}(hs:abN P i.size tx x m news w)
   (hold:(Builtin.firstCells i.size n (.slice base n cap)).run P { w with drawn:=w.drawn+1 }=.ok olds.toArray { w with drawn:=w.drawn+1 }) (hg:cap < n+m) (h63:n+m<=9223372036854775807) (hb:(n+m)*i.bytes<=140737488355328) :
   ∃cap',n+m<=cap'/\(Builtin.append_ #[t,tx] ty #[.slice base n cap,x]).run P w=.ok (.slice (some ⟨w.heap.size,0,none⟩) (n+m) cap') { w with drawn:=w.drawn+1,heap:=w.heap.push (.cells ((olds++news).toArray++Builtin.zeroCells z.cells (cap' - (n+m))) e) }:=by
 have hn:¬(n+m<=cap):=by omega
 have aMQ:¬(9223372036854775807 < ((n:Int)+(m:Int))):=by omega
 have yL:=growslice_fits hg hb;have aMP:¬(281474976710656 < Builtin.nextslicecap (n+m) cap*i.bytes):=by omega
 have hc:=hs.cells { w with drawn:=w.drawn+1 } rfl
 refine⟨(Question.appendCap (n+m) cap e).cut (w.tape w.drawn (.appendCap (n+m) cap e)),by simp[Question.cut],?_⟩;have gY:(Builtin.firstCells i.size m x).run P w.drew=.ok news.toArray w.drew:=hc;have aFI:(Builtin.firstCells i.size n (.slice base n cap)).run P w.drew=.ok olds.toArray w.drew:=hold
 have aeR:olds.toArray++(news.toArray++Builtin.zeroCells z.cells ((Question.appendCap (n+m) cap e).cut (w.tape w.drawn (.appendCap (n+m) cap e)) - (n+m)))=(olds++news).toArray++Builtin.zeroCells z.cells ((Question.appendCap (n+m) cap e).cut (w.tape w.drawn (.appendCap (n+m) cap e)) - (n+m)):=by
   apply Array.ext';simp
 rcases hs.kind with ⟨e',hk⟩ | hk <;>
   (simp[Builtin.append_,run_underlying ht,run_underlying hk,Go.sizeOf,typeInfo,zeroValue,hi,hz,hs.len,hn,aMQ,aMP,Question.forced,gY,aFI,newRow]
    rw[aeR];rfl)
def Of(sz:Nat)(F:List (Nat×Nat))(n:Nat):Own->Bool
 | .full=>true
 | .row r z=>z == sz&&(match D8 r F with | some k=>k == n | none=>false)
 | _=>false
def avR(s:AS)(sz:Nat):Own->Own
 | .row r _=>.row r sz
 | _=>.row s.nr sz
def AS.to(s:AS)(n:Nat):Own->AS
 | .row r _=>s.grow r n
 | _=>s.add n
def KL(P:Program)(s:AS)(t tx:TypeId)(a b:AV):Option (AV×AS) :=
 match P.underlying t with
 | some (.slice e)=>match P.info? e with
   | some i=>match i.zero with
     | some z=>if z.cells.size=i.size/\0 < i.size then (match a,UP P s i.size tx b with
       | .sl own n cs,some (m,ns)=>if cs.length=n*i.size/\ns.all one=true/\(n+m)*i.bytes<=140737488355328/\n+m<=9223372036854775807 then
           (if m=0 then some (.sl own n cs,s)
            else if Of i.size s.F n own=true then some (.sl (avR s i.size own) (n+m) (cs++ns),s.to (n+m) own) else none)
         else none
       | _,_=>none) else none
     | none=>none
   | none=>none
 | _=>none
def Wq{P:Program}{c:Cx}{w:World}{own:Own}{n size:Nat}{cs:List AV}{v:Value}(h:Rp c w (.sl own n cs) v)(hl:cs.length=n*size) :
   ∃base cap olds,v=.slice base n cap/\n<=cap/\CG c w cs olds/\olds.length=n*size/\∀w':World,w'.heap=w.heap->(Builtin.firstCells size n (.slice base n cap)).run P w'=.ok olds.toArray w':=by
 cases h with
 | @sl0 _ A cap h0 =>
   refine⟨A,cap,[],rfl,Nat.zero_le _,.nil,by simp,λw' _=>?_⟩;cases A with
   | none=>simp[Builtin.firstCells]
   | some a=>simp[Builtin.firstCells,loadCells,loadCellsFrom]
 | @Ll _ _ cap g o _ hn hc ho =>
   obtain⟨vs,hr,IQ⟩:=hc.vals;have hlv:=hr.len;refine⟨_,cap,vs,rfl,hn,hr,by omega,λw' hw=>run_firstCells_some w' size n _ n _ vs (by omega) (λj v hj=>?_)⟩;rw[add_lit,World.cell?_of_block (w:=w) (by rw[hw])];exact(IQ j v hj).2.2
def cO{c:Cx}{w':World}{g n m sz cap:Nat}{T:TypeId}{all olds news:List Value}{rows:List Rw}(hw:w'.heap[g]?=some (.cells all.toArray T (0,0)))(Hg:∀(j:Nat) v,(olds++news)[j]?=some v->all[j]?=some v)(hp:some g∉c.CX)(hb:∀i,¬c.bad g i)
   (hol:olds.length=n*sz) (hnl:news.length=m*sz) (hrow:∀(r:Nat) n' cap' NK,rows[r]?=some (.RC g n' cap' NK)->n'=n+m/\cap'=cap/\NK=sz) {j:Nat} {v:Value} (hj:(olds++news)[j]?=some v):Me { c with rows:=rows } w' g j v:=by
 have hjl:=(List.getElem?_eq_some_iff.1 hj).1;rw[List.length_append] at hjl;refine⟨(Array.getElem?_eq_some_iff.1 hw).1,λhs=>?_,cell_of_heap hw (Hg j v hj)⟩;rcases hs with hs | ⟨r,n',cap',NK,hr,h1,h2⟩ | hs
 exact hp hs;obtain⟨rfl,rfl,rfl⟩:=hrow r n' cap' NK hr;rw[Nat.add_mul] at h1;omega;exact hb j hs
def nZ{P:Program}{G:Bc}{c:Cx}{w:World}{s s':AS}{t tx ty:TypeId}{a b r:AV}{va vb:Value}(hs:St G c w s)(h:KL P s t tx a b=some (r,s'))(ha:Rp c w a va)(hb:Rp c w b vb) :
   ∃u w' c',(Builtin.append_ #[t,tx] ty #[va,vb]).run P w=.ok u w'/\Ext c w c' w'/\St G c' w' s'/\Rp c' w' r u:=by
 unfold KL at h;split at h
 · rename_i e ht
   split at h
   · rename_i i hi
     split at h
     · rename_i z hz
       split at h
       · rename_i hzs
         split at h
         · rename_i own n cs m ns azB
           split at h
           · rename_i hc
             obtain⟨news,hnr,hnl,hsi⟩:=dD hs azB hb;split at h;rename_i hm;cases h;subst hm;have eC:news=[]:=List.eq_nil_of_length_eq_zero (by simpa using hnl)
             subst eC;obtain⟨base,cap,olds,rfl,pI,_,_,_⟩:=Wq (P:=P) (size:=i.size) ha hc.1;refine⟨.slice base n cap,w,c,?_,Ext.refl c w,hs,ha⟩;exact Q5 ht hi hsi (by omega) (λa _=>by simp[storeCells]) (λ_=>rfl)
             · rename_i hm
               split at h
               · rename_i N9
                 cases h;obtain⟨base,cap,olds,rfl,pI,hor,hol,hfc⟩:=Wq (P:=P) (size:=i.size) ha hc.1;by_cases U5:n+m<=cap
                 · cases ha with
                   | sl0 h0 =>
                     exfalso;cases own with
                     | full=>have:cap=0:=h0;omega
                     | row r z=>have:cap=0:=h0.1;omega
                     | lost=>simp[Of] at N9
                     | nil=>simp[Of] at N9
                     | nn=>simp[Of] at N9
                   | @Ll _ _ _ g o _ hn U1 ho =>
                     cases own with
                     | full=>exfalso;have:cap=n:=ho;omega
                     | lost=>simp[Of] at N9
                     | nil=>simp[Of] at N9
                     | nn=>simp[Of] at N9
                     | row r0 sz =>
                       simp only[Of,Bool.and_eq_true,beq_iff_eq] at N9;obtain⟨rfl,hF⟩:=N9
                       have hF:D8 r0 s.F=some n:=by
                         split at hF;rename_i k hk;rw[hk,beq_iff_eq.1 hF];cases hF
                       obtain⟨rfl,hlen,aQU,eE,aFN⟩:=ho;rcases hs.Je r0 n hF with ⟨h1,_⟩ | ⟨g',cap',NK,hrow⟩
                       exact absurd h1 eE;obtain⟨rfl,rfl,rfl⟩:=(aFN _ _ _ _ hrow).2 rfl;obtain⟨hgb,hbg,hgp,hlh,cur,T,aoK,aMX⟩:=hs.row r0 g' _ _ _ hrow;have yL:n*i.size+news.length<=cur.size:=by rw[hnl,aMX,<- Nat.add_mul];exact Nat.mul_le_mul_right _ U5
                       have Gm:=run_storeCells_at P g' (n*i.size) T news 0 cur w aoK (by simpa using yL) (Xt hnr hc.2.1)
                       simp only[Nat.add_zero] at Gm;have L3:=setRow_heap w g' cur (cur.toList.take (n*i.size)++news++cur.toList.drop (n*i.size+news.length)).toArray T (0,0) aoK
                       have aMV:cur.toList.take (n*i.size)=olds:=by
                         obtain⟨vs,hr,IQ⟩:=U1.vals;have h1:=hfc w rfl;have h2:=run_firstCells_some (P:=P) w i.size n ⟨g',0,none⟩ n cap' vs (by rw[hr.len];exact hc.1) (λj v hj=>by rw[add_lit];exact(IQ j v hj).2.2);rw[h1] at h2;injection h2 with h2 _
                         have h3:olds=vs:=by simpa using congrArg Array.toList h2
                         subst h3;apply List.ext_getElem?;intro j;rw[List.getElem?_take];by_cases hj:j < n*i.size;rw[if_pos hj];have hj2:j < olds.length:=by omega
                         have:=(IQ j _ (List.getElem?_eq_getElem hj2)).2.2;rw[Nat.zero_add] at this;simp only[World.cell?,aoK] at this;rw[List.getElem?_eq_getElem hj2,Array.getElem?_toList];simpa using this
                         rw[if_neg hj,List.getElem?_eq_none (by omega)]
                       obtain⟨x,st⟩:=hs.fS hF (g:=g') (n:=n+m) (cap:=cap') (sz:=i.size) (T:=T) (H7 w g' (cur.toList.take (n*i.size)++news++cur.toList.drop (n*i.size+news.length)).toArray) hbg hgp (by omega) U5 L3 (by simp only[List.size_toArray,List.length_append,List.length_take,List.length_drop,Array.length_toList];omega)
                         (.inr ⟨hrow,λj v hj hv=>by
                           rw[List.getElem?_toArray,List.append_assoc,List.getElem?_append_left (by rw[List.length_take,Array.length_toList];omega),List.getElem?_take,if_pos hj];simpa[World.cell?,aoK] using hv⟩)
                       refine⟨_,_,_,Q5 ht hi hsi U5 (λa ha=>by cases ha;rw[add_lit,Nat.zero_add];exact Gm) (λh=>by cases h),x,st,?_⟩;have hrl:=hs.fR hF;refine .Ll U5 (Be.O6 ((hor.append hnr).mono x) (λj v hj=>?_)) ⟨rfl,by rw[List.length_append,hc.1,<- hnr.len,hnl,Nat.add_mul],by simpa using hrl,λh2=>?_,λg2 n2 c2 s2 h2=>?_⟩
                       rw[Nat.zero_add];refine cO (olds:=olds) (news:=news) (cap:=cap') L3 (λj v hj=>?_) hgp hgb hol hnl (λr n' aQI aRA hr=>?_) hj;rw[<- aMV] at hj;have hjl:=(List.getElem?_eq_some_iff.1 hj).1;rw[List.getElem?_append_left hjl];exact hj;rcases MS hr with ⟨rfl,h1,_⟩ | ⟨hne,h1⟩
                       injection h1 with _ e2 e3 e4
                       exact⟨e2,e3,e4⟩;exact absurd (hs.IX r r0 g' _ _ _ _ _ _ h1 hrow) hne;simp only at h2;rw[List.getElem?_set_self hrl] at h2;cases h2;simp only at h2;rw[List.getElem?_set_self hrl] at h2;injection h2 with h2
                       injection h2 with e1 e2 e3 e4
                       subst e1 e2 e3 e4;exact⟨Nat.le_refl _,λ_=>⟨rfl,rfl,rfl⟩⟩
                 · obtain⟨cap',Yt,RG⟩:=Q4 (ty:=ty) ht hi hz hsi (hfc { w with drawn:=w.drawn+1 } rfl) (by omega) hc.2.2.2 hc.2.2.1
                   have hzc:(Builtin.zeroCells z.cells (cap' - (n+m))).size=(cap' - (n+m))*i.size:=by rw[size_zeroCells,hzs.1]
                   have hk:RV w { w with drawn:=w.drawn+1,heap:=w.heap.push (.cells ((olds++news).toArray++Builtin.zeroCells z.cells (cap' - (n+m))) e) } (λx=>x=w.heap.size) :=
                     ⟨rfl,rfl,rfl,by simp,λk hk _=>by simp[Array.getElem?_push];intro h;omega⟩
                   have L3:({ w with drawn:=w.drawn+1,heap:=w.heap.push (.cells ((olds++news).toArray++Builtin.zeroCells z.cells (cap' - (n+m))) e) }:World).heap[w.heap.size]?=some (.cells ((olds++news).toArray++Builtin.zeroCells z.cells (cap' - (n+m))) e (0,0)):=by simp
                   have aFH:({ w with drawn:=w.drawn+1,heap:=w.heap.push (.cells ((olds++news).toArray++Builtin.zeroCells z.cells (cap' - (n+m))) e) }:World).heap[w.heap.size]?=some (.cells ((olds++news)++(Builtin.zeroCells z.cells (cap' - (n+m))).toList).toArray e (0,0)):=by
                     rw[L3];congr 2;apply Array.ext';simp
                   have hpn:some w.heap.size∉c.CX:=λhm=>by have:=hs.Na hm;omega
                   have hbn:∀i,¬c.bad w.heap.size i:=λi hb=>by have:=hs.M0 _ i hb;omega
                   have hsz:((olds++news).toArray++Builtin.zeroCells z.cells (cap' - (n+m))).size=cap'*i.size:=by
                     simp only[Array.size_append,List.size_toArray,List.length_append,hol,hnl,hzc,<- Nat.add_mul];congr 1;omega
                   have aFM:∀(r:Nat) n' c' s',c.rows[r]?≠some (.RC w.heap.size n' c' s'):=λr n' c' s' hr=>by have:=hs.Ng hr;omega
                   have fin:∀(rows:List Rw) (r:Nat),rows[r]?=some (.RC w.heap.size (n+m) cap' i.size)->(∀(r':Nat) n' c' s',rows[r']?=some (.RC w.heap.size n' c' s')->n'=n+m/\c'=cap'/\s'=i.size)->Ext c w { c with rows:=rows } { w with drawn:=w.drawn+1,heap:=w.heap.push (.cells ((olds++news).toArray++Builtin.zeroCells z.cells (cap' - (n+m))) e) } ->
                       Rp { c with rows:=rows } { w with drawn:=w.drawn+1,heap:=w.heap.push (.cells ((olds++news).toArray++Builtin.zeroCells z.cells (cap' - (n+m))) e) } (.sl (.row r i.size) (n+m) (cs++ns)) (.slice (some ⟨w.heap.size,0,none⟩) (n+m) cap'):=by
                     intro rows r hr Hg x;refine .Ll Yt (Be.O6 ((hor.append hnr).mono x) (λj v hj=>?_)) ⟨rfl,by rw[List.length_append,hc.1,<- hnr.len,hnl,Nat.add_mul],(List.getElem?_eq_some_iff.1 hr).1,λh2=>?_,λg2 n2 c2 s2 h2=>?_⟩;rw[Nat.zero_add];refine cO (olds:=olds) (news:=news) (cap:=cap') aFH (λj v hj=>?_) hpn hbn hol hnl Hg hj;rw[List.getElem?_append_left (List.getElem?_eq_some_iff.1 hj).1];exact hj;simp only at h2;rw[hr] at h2;cases h2;simp only at h2;rw[hr] at h2;injection h2 with h2
                     injection h2 with e1 e2 e3 e4
                     subst e1 e2 e3 e4;exact⟨Nat.le_refl _,λ_=>⟨rfl,rfl,rfl⟩⟩
                   have aqX:∀r sz,Of i.size s.F n (.row r sz)=true->∃u w' c',(Builtin.append_ #[t,tx] ty #[.slice base n cap,vb]).run P w=.ok u w'/\Ext c w c' w'/\St G c' w' (s.grow r (n+m))/\Rp c' w' (.sl (.row r i.size) (n+m) (cs++ns)) u:=by
                     intro r sz N9;simp only[Of,Bool.and_eq_true,beq_iff_eq] at N9
                     have hF:D8 r s.F=some n:=by
                       have hF:=N9.2;split at hF;rename_i k hk;rw[hk,beq_iff_eq.1 hF];cases hF
                     have hrl:=hs.fR hF;obtain⟨x,st⟩:=hs.fS hF (g:=w.heap.size) (n:=n+m) (cap:=cap') (sz:=i.size) (T:=e) hk hs.QB hpn (by omega) Yt L3 hsz (.inl rfl);refine⟨_,_,_,RG,x,st,fin _ r (List.getElem?_set_self hrl) (λr' n' c' s' hr=>?_) x⟩;rcases MS hr with ⟨rfl,h1,_⟩ | ⟨hne,h1⟩
                     injection h1 with _ e2 e3 e4
                     exact⟨e2,e3,e4⟩;exact absurd h1 (aFM _ _ _ _)
                   cases own with
                   | lost=>simp[Of] at N9
                   | nil=>simp[Of] at N9
                   | nn=>simp[Of] at N9
                   | row r sz=>exact aqX r sz N9
                   | full =>
                     obtain⟨x,st⟩:=hs.aqW (n:=n+m) (cap:=cap') (sz:=i.size) (T:=e) hk (by omega) Yt L3 hsz;refine⟨_,_,_,RG,x,st,fin _ s.nr (by rw[hs.I2];exact List.getElem?_concat_length) (λr' n' c' s' hr=>?_) x⟩;by_cases hr2:r' < c.rows.length;rw[List.getElem?_append_left hr2] at hr;exact absurd hr (aFM _ _ _ _);have hl:=(List.getElem?_eq_some_iff.1 hr).1;simp at hl;have:r'=c.rows.length:=by omega
                     subst this;rw[List.getElem?_concat_length] at hr;injection hr with hr
                     injection hr with _ e2 e3 e4
                     exact⟨e2.symm,e3.symm,e4.symm⟩
               cases h
           cases h
         cases h
       cases h
     cases h
   cases h
 cases h
end AI
namespace AI
open Go Go.RowKit
def plainKey:TypeDesc->Bool
 | .int _ | .string | .bool=>true
 | _=>false
def Zb:TypeDesc->Value->Value->Option Bool
 | .int _,.int k a,.int k' b=>if k=k' then some (a == b) else none
 | .string,.string a,.string b=>some (a.data.toList == b.data.toList)
 | .bool,.bool a,.bool b=>some (a == b)
 | _,_,_=>none
def abX(a b:ByteArray):(a == b)=(a.data.toList == b.data.toList):=by
 obtain⟨⟨a⟩⟩:=a;obtain⟨⟨b⟩⟩:=b;show((⟨a⟩:Array UInt8) == ⟨b⟩)=(a == b);simp
def Zd(d:TypeDesc)(a b:Value):Instr.sameNow d a b=Zb d a b:=by
 unfold Zb;split<;>simp_all [Instr.sameNow,abX]
def Zc{d:TypeDesc}{a b:Value}(h:Zb d a b=some true):Instr.sameBits 10000 b a=true:=by
 unfold Zb at h;split at h;split at h;rename_i e;subst e;simp at h;subst h;simp[Instr.sameBits];cases h;rename_i x y;simp only[Option.some.injEq,beq_iff_eq] at h;simp[Instr.sameBits,abX,h];simp at h;subst h;simp[Instr.sameBits];cases h
def XX(d:TypeDesc)(k:Value):List (Value×AV×Nat)->Nat->Option (Option (Nat×AV))
 | [],_=>some none
 | e::es,i=>match Zb d k e.1 with
   | some true=>some (some (i,e.2.1))
   | some false=>XX d k es (i+1)
   | none=>none
def PU{c:Cx}{w:World}{d:TypeDesc}{k:Value}{es:List (Value×AV×Nat)}{fs:List MapEntry}(h:KR c w es fs){i:Nat}{r:Option (Nat×AV)}(hf:XX d k es i=some r) :
   (r=none/\Instr.findNow d k fs i=some none)\/∃j a v e f,r=some (i+j,a)/\Instr.findNow d k fs i=some (some (i+j,v))/\Rp c w a v/\es[j]?=some e/\fs[j]?=some f/\e.2.1=a/\f.val=v/\f.key=e.1/\f.born=e.2.2/\Zb d k e.1=some true:=by
 induction h generalizing i r with
 | nil=>simp[XX] at hf;subst hf;exact .inl ⟨rfl,rfl⟩
 | @cons k' a v b es fs h1 _ ih =>
   simp only[XX] at hf;split at hf;rename_i hs;cases hf;refine .inr ⟨0,a,v,(k',a,b),⟨k',v,b⟩,rfl,?_,h1,rfl,rfl,rfl,rfl,rfl,rfl,hs⟩;simp only[Instr.findNow,Zd,hs,Nat.add_zero];rename_i hs;rcases ih hf with ⟨h2,h3⟩ | ⟨j,a',v',e,f,h2,h3,h4,h5,h6,h7⟩
   refine .inl ⟨h2,?_⟩;simp only[Instr.findNow,Zd,hs];exact h3;refine .inr ⟨j+1,a',v',e,f,by rw[h2];congr 2;omega,?_,h4,by simpa using h5,by simpa using h6,h7⟩
   simp only[Instr.findNow,Zd,hs];rw[h3];congr 3;omega;cases hf
def KR.set{c:Cx}{w:World}{es:List (Value×AV×Nat)}{fs:List MapEntry}(h:KR c w es fs){k:Value}{a:AV}{v:Value}{b:Nat}(hr:Rp c w a v)(i:Nat):KR c w (es.set i (k,a,b)) (fs.set i ⟨k,v,b⟩):=by
 induction h generalizing i with
 | nil=>exact .nil
 | cons h1 t ih =>
   cases i with
   | zero=>exact .cons hr t
   | succ i=>exact .cons h1 (ih i)
def KR.snoc{c:Cx}{w:World}{es:List (Value×AV×Nat)}{fs:List MapEntry}(h:KR c w es fs){k:Value}{a:AV}{v:Value}{b:Nat}(hr:Rp c w a v):KR c w (es++[(k,a,b)]) (fs++[⟨k,v,b⟩]):=by
 induction h with
 | nil=>exact .cons hr .nil
 | cons h1 _ ih=>exact .cons h1 ih
def KR.len{c:Cx}{w:World}{es:List (Value×AV×Nat)}{fs:List MapEntry}(h:KR c w es fs):fs.length=es.length:=by
 induction h with
 | nil=>rfl
 | cons _ _ ih=>simp[ih]
def UR{G:Bc}{c:Cx}{w:World}{s:AS}(hs:St G c w s){id g:Nat}{es:List (Value×AV×Nat)}{clock:Nat}(hid:c.CX[id]?=some (some g))(hb:s.get id=some (.map es clock)):∃fs,w.heap[g]?=some (.map fs.toArray clock)/\KR c w es fs:=by
 obtain⟨o,ho,yI⟩:=hs.box id g _ hid hb;cases yI with
 | map h1=>exact⟨_,ho,h1⟩
def J2{P:Program}{w:World}{g:Nat}{es:Array MapEntry}{cl:Nat}(h:w.heap[g]?=some (.map es cl)):(getObj g).run P w=.ok (.map es cl) w:=by simp[getObj,Sem.run,h]
def OC{P:Program}{w:World}{g:Nat}{es:Array MapEntry}{cl:Nat}(o:Obj)(h:w.heap[g]?=some (.map es cl)):(setObj g o).run P w=.ok () { w with heap:=w.heap.setIfInBounds g o }:=by simp[setObj,Sem.run,h]
def UX(w:World)(g:Nat)(o:Obj):RV w { w with heap:=w.heap.setIfInBounds g o } (λx=>x=g) :=
 ⟨rfl,rfl,rfl,by simp,λk _ hne=>by simp only;rw[Array.getElem?_setIfInBounds_ne (λe=>hne e.symm)]⟩
def Vj(w:World){g:Nat}{o o':Obj}(h:w.heap[g]?=some o'):({ w with heap:=w.heap.setIfInBounds g o }:World).heap[g]?=some o:=by
 have:=(Array.getElem?_eq_some_iff.1 h).1;simp[this]
def run_checkKey{P:Program}{kt:TypeId}{kd:TypeDesc}{v:Value}(b:Bool)(h:P.underlying kt=some kd)(hp:plainKey kd=true)(w:World):(Instr.checkKey b 10000 kt v).run P w=.ok () w:=by
 unfold Instr.checkKey;rw[Sem.run_bind,run_underlying h];cases kd<;>first | (simp[plainKey] at hp;done) | rfl
def run_findKey{P:Program}{kt:TypeId}{kd:TypeDesc}{v:Value}{es:List MapEntry}{r:Option (Nat×Value)}(h:P.underlying kt=some kd)(hf:Instr.findNow kd v es 0=some r)(w:World):(Instr.findKey kt v es).run P w=.ok r w:=by
 unfold Instr.findKey;rw[Sem.run_bind,run_underlying h];simp[hf]
def Mv(P:Program)(t:TypeId):Option AV :=
 match P.info? t with
 | some i=>match i.zero with
   | some z=>WH z
   | none=>none
 | none=>none
def aI{P:Program}{t:TypeId}{a:AV}(h:Mv P t=some a):Se a=false:=by
 unfold Mv at h;split at h;split at h;exact qL h;cases h;cases h
def UQ{P:Program}{t:TypeId}{a:AV}(h:Mv P t=some a)(c:Cx)(w w0:World):∃z,(zeroValue t).run P w0=.ok z w0/\Rp c w a z:=by
 unfold Mv at h;split at h;rename_i i hi;split at h;rename_i z hz;exact⟨z,by simp[zeroValue,typeInfo,hi,hz],kS h c w⟩;cases h;cases h
def Jr(P:Program)(s:AS)(t:TypeId)(x k:AV)(ok:Bool):Option AV :=
 match P.underlying t with
 | some (.map kt et)=>match P.underlying kt,Zm k with
   | some kd,some key=>if plainKey kd=true then
       (match (match x with
         | .sc (.map none)=>some []
         | .mp id=>match s.get id with
           | some (.map es _)=>some es
           | _=>none
         | _=>none) with
       | some es=>match XX kd key es 0 with
         | some (some (_,v))=>some (if ok then .C4 [v,.sc (.bool true)] else v)
         | some none=>(Mv P et).map λz=>if ok then .C4 [z,.sc (.bool false)] else z
         | none=>none
       | none=>none) else none
   | _,_=>none
 | _=>none
def abM(w:World)(vx:Value)(fs:List MapEntry):Prop:=(vx=.map none/\fs=[])\/∃g cl,vx=.map (some g)/\w.heap[g]?=some (.map fs.toArray cl)
def W7{P:Program}{w:World}{t kt et:TypeId}{kd:TypeDesc}{vx vk v:Value}{fs:List MapEntry}{j:Nat}(ok:Bool)(hu:P.underlying t=some (.map kt et))(hkd:P.underlying kt=some kd)(hp:plainKey kd=true)(hm:abM w vx fs)(hf:Instr.findNow kd vk fs 0=some (some (j,v))) :
   (Instr.lookup t vx vk ok).run P w=.ok (if ok then .tuple #[v,.bool true] else v) w:=by
 rcases hm with ⟨rfl,rfl⟩ | ⟨g,cl,rfl,hg⟩
 simp[Instr.findNow] at hf;simp only[Instr.lookup,Sem.run_bind,run_underlying hu,Result.andThen_ok,J2 hg,Sem.run_pure,run_checkKey _ hkd hp,run_findKey hkd hf]
def W6{P:Program}{w:World}{t kt et:TypeId}{kd:TypeDesc}{vx vk z:Value}{fs:List MapEntry}(ok:Bool)(hu:P.underlying t=some (.map kt et))(hkd:P.underlying kt=some kd)(hp:plainKey kd=true)(hm:abM w vx fs)(hf:Instr.findNow kd vk fs 0=some none)(hz:(zeroValue et).run P w=.ok z w) :
   (Instr.lookup t vx vk ok).run P w=.ok (if ok then .tuple #[z,.bool false] else z) w:=by
 rcases hm with ⟨rfl,rfl⟩ | ⟨g,cl,rfl,hg⟩
 simp only[Instr.lookup,Sem.run_bind,run_underlying hu,Result.andThen_ok,Sem.run_pure,run_checkKey _ hkd hp];rw[run_findKey hkd hf];simp only[Sem.run_bind,hz,Result.andThen_ok,Sem.run_pure];simp only[Instr.lookup,Sem.run_bind,run_underlying hu,Result.andThen_ok,J2 hg,Sem.run_pure,run_checkKey _ hkd hp,run_findKey hkd hf,hz]
def oD{P:Program}{G:Bc}{c:Cx}{w:World}{s:AS}{t:TypeId}{x k r:AV}{ok:Bool}{vx vk:Value}(hs:St G c w s)(h:Jr P s t x k ok=some r)(hx:Rp c w x vx)(hk:Rp c w k vk) :
   ∃u,(Instr.lookup t vx vk ok).run P w=.ok u w/\Rp c w r u:=by
 unfold Jr at h;split at h
 · rename_i kt et hu
   split at h
   · rename_i kd key hkd aeZ
     have:=Vl aeZ hk;subst this;split at h
     · rename_i hp
       split at h
       · rename_i es hes
         obtain⟨fs,hfs,hm⟩:∃fs,KR c w es fs/\abM w vx fs:=by
           split at hes;cases hes;cases hx;exact⟨[],.nil,.inl ⟨rfl,rfl⟩⟩
           · split at hes
             · rename_i es' cl hb
               cases hes;cases hx with
               | mp hid =>
                 obtain⟨fs,hw,he⟩:=UR hs hid hb;exact⟨fs,he,.inr ⟨_,_,rfl,hw⟩⟩
             cases hes
           cases hes
         split at h;rename_i j v hf;cases h;rcases PU hfs hf with ⟨h1,_⟩ | ⟨j',a,v',e,f,h1,h2,h3,_⟩
         cases h1;injection h1 with h1
         injection h1 with _ h1
         subst h1;refine⟨_,W7 ok hu hkd hp hm h2,?_⟩;cases ok;exact h3;exact .C4 (vs:=[v',.bool true]) (.cons h3 (.cons (.sc rfl) .nil))
         · rename_i hf
           cases hz:Mv P et with
           | none=>rw[hz] at h;cases h
           | some z =>
             rw[hz] at h;cases h;rcases PU hfs hf with ⟨_,h2⟩ | ⟨j',a,v',e,f,h1,_⟩
             obtain⟨zv,uA,hzp⟩:=UQ hz c w w;refine⟨_,W6 ok hu hkd hp hm h2 uA,?_⟩;cases ok;exact hzp;exact .C4 (vs:=[zv,.bool false]) (.cons hzp (.cons (.sc rfl) .nil));cases h1
         cases h
       cases h
     cases h
   cases h
 cases h
def KM(P:Program)(s:AS)(t:TypeId)(x k v:AV):Option AS :=
 match P.underlying t with
 | some (.map kt _)=>match P.underlying kt,Zm k,x with
   | some kd,some key,.mp id=>if plainKey kd=true then
       (match s.get id with
       | some (.map es cl)=>match XX kd key es 0 with
         | some (some (j,_))=>match es[j]? with
           | some e=>some (s.put id (.map (es.set j (key,v,e.2.2)) cl))
           | none=>none
         | some none=>some (s.put id (.map (es++[(key,v,cl)]) (cl+1)))
         | none=>none
       | _=>none) else none
   | _,_,_=>none
 | _=>none
def T6{fs:List MapEntry}{j:Nat}{f g:MapEntry}{F:MapEntry->MapEntry}(h:fs[j]?=some f)(hF:F f=g):fs.toArray.modify j F=(fs.set j g).toArray:=by
 apply Array.ext';rw[List.modify_toArray];apply List.ext_getElem?;intro i;rw[List.getElem?_modify,List.getElem?_set];by_cases e:j=i;subst e;obtain⟨hl,he⟩:=List.getElem?_eq_some_iff.1 h;simp[hl,he,hF];simp[e]
def XY{P:Program}{G:Bc}{c:Cx}{w:World}{s s':AS}{t:TypeId}{x k v:AV}{vx vk vv:Value}(hs:St G c w s)(h:KM P s t x k v=some s')(hx:Rp c w x vx)(hk:Rp c w k vk)(hv:Rp c w v vv) :
   ∃w',(Instr.mapUpdate t vx vk vv).run P w=.ok () w'/\Ext c w c w'/\St G c w' s':=by
 unfold KM at h;split at h
 · rename_i kt et hu
   split at h
   · rename_i kd key id hkd aeZ
     have:=Vl aeZ hk;subst this;split at h
     · rename_i hp
       split at h
       · rename_i es cl hb
         cases hx with
         | @mp _ g hid =>
           obtain⟨fs,hw,he⟩:=UR hs hid hb;split at h;rename_i j a hf;split at h;rename_i e hej;cases h;rcases PU he hf with ⟨h1,_⟩ | ⟨j',a',v',e',f,h1,h2,h3,h4,h5,h6,h7,h8,h9,h10⟩
           cases h1;injection h1 with h1
           injection h1 with h1 _
           rw[Nat.zero_add] at h1;subst h1;rw[hej] at h4;cases h4;rw[Nat.zero_add] at h2;have afB:fs.toArray.modify j (λe=>{ e with key:=vk,val:=vv })=(fs.set j ⟨vk,vv,e.2.2⟩).toArray:=T6 h5 (by rw[<- h9])
           obtain⟨x1,st⟩:=hs.put (b:=.map (es.set j (vk,v,e.2.2)) cl) (o:=.map (fs.set j ⟨vk,vv,e.2.2⟩).toArray cl) hid (UX w g _) (Vj w hw) (.map (he.set hv j));refine⟨_,?_,x1,st⟩;have aeU:=Zc h10;have hfk:=run_findKey (P:=P) hkd h2 w;simp only[Instr.mapUpdate,Sem.run_bind,run_underlying hu,Result.andThen_ok,J2 hw,run_checkKey _ hkd hp,hfk,List.getElem?_toArray,h5,Option.map_some,Option.getD_some,h8,Instr.keyThatStays,aeU,if_true,Sem.run_pure,afB];exact OC _ hw;cases h;rename_i hf;cases h;rcases PU he hf with ⟨_,h2⟩ | ⟨j',a',v',e',f,h1,_⟩
           obtain⟨x1,st⟩:=hs.put (b:=.map (es++[(vk,v,cl)]) (cl+1)) (o:=.map (fs++[(⟨vk,vv,cl⟩:MapEntry)]).toArray (cl+1)) hid (UX w g _) (Vj w hw) (.map (he.snoc hv));refine⟨_,?_,x1,st⟩;have hfk:=run_findKey (P:=P) hkd h2 w;have afD:fs.toArray.push (⟨vk,vv,cl⟩:MapEntry)=(fs++[(⟨vk,vv,cl⟩:MapEntry)]).toArray:=by simp
           simp only[Instr.mapUpdate,Sem.run_bind,run_underlying hu,Result.andThen_ok,J2 hw,run_checkKey _ hkd hp,hfk,afD];exact OC _ hw;cases h1;cases h
       cases h
     cases h
   cases h
 cases h
def iD{P:Program}{G:Bc}{c:Cx}{w:World}{s:AS}{t:TypeId}(hs:St G c w s) :
   ∃v' w' c',(Instr.makeMap t none).run P w=.ok v' w'/\Ext c w c' w'/\St G c' w' (s.new (.map [] 0))/\Rp c' w' (.mp s.nx) v':=by
 obtain⟨e,st⟩:=hs.new (b:=.map [] 0) (o:=.map #[] 0) (.map (fs:=[]) .nil);refine⟨.map (some w.heap.size),_,_,?_,e,st,.mp ?_⟩;simp[Instr.makeMap];simp[hs.len]
def WS(P:Program)(s:AS)(t:TypeId)(a:AV):Option AV :=
 match P.underlying t,a with
 | some .string,.sc (.string x)=>some (.sc (.int .i64 x.data.toList.length))
 | some (.slice _),.sl _ n _=>some (.sc (.int .i64 n))
 | some (.slice _),.msl _ _ n=>some (.sc (.int .i64 n))
 | some (.map _ _),.sc (.map none)=>some (.sc (.int .i64 0))
 | some (.map _ _),.mp id=>match s.get id with
   | some (.map es _)=>some (.sc (.int .i64 es.length))
   | _=>none
 | _,_=>none
def amR{P:Program}{G:Bc}{c:Cx}{w:World}{s:AS}{t ty:TypeId}{a r:AV}{v:Value}(hs:St G c w s)(h:WS P s t a=some r)(ha:Rp c w a v):∃u,(Builtin.len_ #[t] ty #[v]).run P w=.ok u w/\Rp c w r u:=by
 unfold WS at h;split at h;rename_i x hu;cases h;cases ha;exact⟨_,by simp[Builtin.len_,run_underlying hu,goInt],.sc rfl⟩;rename_i hu;cases h;cases ha<;>exact⟨_,by simp[Builtin.len_,run_underlying hu,goInt],.sc rfl⟩
 rename_i hu;cases h;cases ha;exact⟨_,by simp[Builtin.len_,run_underlying hu,goInt],.sc rfl⟩;rename_i hu;cases h;cases ha;exact⟨_,by simp[Builtin.len_,run_underlying hu,goInt],.sc rfl⟩
 · rename_i hu
   split at h
   · rename_i es cl hb
     cases h;cases ha with
     | mp hid =>
       obtain⟨fs,hw,he⟩:=UR hs hid hb;exact⟨_,by simp[Builtin.len_,run_underlying hu,J2 hw,he.len,goInt],.sc rfl⟩
   cases h
 cases h
def JQ(P:Program)(s:AS)(t:TypeId)(l c:AV):Option (AV×AS) :=
 match P.underlying t with
 | some (.slice elem)=>match P.info? elem,RA l,RA c with
   | some e,some n,some m=>match e.zero with
     | some z=>match Mj z.cells.toList with
       | some zs=>if n=m/\n<=16777216/\n*e.bytes<=281474976710656/\zs.isEmpty=false then some (.msl s.nx 0 n,s.new (.cells ((List.range (n*e.size)).map λi=>zs.getD (i % zs.length) (.sc undef)))) else none
       | none=>none
     | none=>none
   | _,_,_=>none
 | _=>none
end AI
