/- Part of a proof: see the last text. -/
import Derived.Test.YtpbkhogolfegfaaGreatDoorPlb
import Derived.Lib.Strings
set_option linter.unusedVariables false
set_option linter.unusedSimpArgs false
set_option linter.defProp false
noncomputable section
namespace AI
open Go Go.RowKit
def mM{c:Cx}{w:World}{zs:List AV}{vs:List Value}(h:CH c w zs vs)(m:Nat)(hm:m≠0->zs≠[]) :
   CH c w ((List.range m).map λi=>zs.getD (i % zs.length) (.sc undef)) ((List.range m).map λi=>vs.toArray[i % vs.toArray.size]!):=by
 refine CH.azE (by simp) (λi a v h1 h2=>?_);rw[List.getElem?_map] at h1 h2;cases hr:(List.range m)[i]? with
 | none=>rw[hr] at h1;cases h1
 | some j =>
   rw[hr] at h1 h2;simp only[Option.map_some,Option.some.injEq] at h1 h2;have hj:j < m:=List.mem_range.1 (List.mem_of_getElem? hr);have hne:=hm (by omega);have hlen:zs.length≠0:=λe=>hne (List.eq_nil_of_length_eq_zero e);have hlt:j % zs.length < zs.length:=Nat.mod_lt _ (by omega);have hl:=h.len;have hg:zs[j % zs.length]?=some (zs[j % zs.length]'hlt):=List.getElem?_eq_getElem hlt;obtain⟨v',hv',hrv⟩:=h.get hg;rw[List.getD_eq_getElem?_getD,hg] at h1;subst h1;rw[List.size_toArray,hl] at h2
   have:vs.toArray[j % zs.length]! = v':=by
     rw[getElem!_def,List.getElem?_toArray,hv']
   rw[this] at h2;subst h2;exact hrv
def LW(P:Program)(t:TypeId)(len:Nat)(parts:List (Nat×AV)):Option AV :=
 match P.underlying t with
 | some (.slice elem)=>match P.info? elem with
   | some e=>if len*e.size<=16777216 then
       (if len*e.size=0 then (if len=0/\parts.isEmpty=true then some (.sl .full 0 []) else none) else match e.zero with
         | some z=>match LM z.cells.toList with
           | some zs=>if zs.isEmpty=true then none else (SV (λi=>some (i*e.size,e.size)) ((List.range (len*e.size)).map λi=>zs.getD (i % zs.length) (.sc undef)) parts).map (.sl .full len)
           | none=>none
         | none=>none)
     else none
   | none=>none
 | _=>none
def Xv{P:Program}{G:A8}{c:Cx}{w:World}{s:AS}{t:TypeId}{len:Nat}{ps:List (Nat×AV)}{r:AV}{qs:Array (Nat×Value)}(hs:St G c w s)(h:LW P t len ps=some r)(hp:PL c w ps qs.toList) :
   ∃u w',(Instr.buildSlice t len qs).run P w=.ok u w'/\Ext c w c w'/\St G c w' s/\Rp c w' r u:=by
 unfold LW at h;split at h
 · rename_i elem hu
   split at h
   · rename_i e he
     split at h
     · rename_i h24
       split at h;rename_i h0;split at h;rename_i hz;cases h
       have hq:qs.toList=[]:=by
         have sT:ps=[]:=List.isEmpty_iff.1 hz.2;subst sT;have:∀l,PL c w [] l->l=[]:=λl h=>by cases h;rfl
         exact this _ hp
       obtain⟨rfl,_⟩:=hz;obtain⟨x,st⟩:=hs.same (Nh w (.cells #[] elem));refine⟨.slice (some ⟨w.heap.size,0,none⟩) 0 0,_,?_,x,st,.sl0 rfl⟩;have hz0:Array.range 0=#[]:=rfl;simp[Instr.buildSlice,run_underlying hu,CG he,hq,Instr.fill,newRow,hz0];cases h
       · rename_i h0
         split at h
         · rename_i z hz
           split at h
           · rename_i zs hzs
             split at h;cases h
             · rename_i hne
               have sZ:=Qf hzs c w;have hin:=mM sZ (len*e.size) (λ_ hn=>hne (by rw[hn];rfl));simp only[Array.toArray_toList] at hin;cases hf:SV (λi=>some (i*e.size,e.size)) ((List.range (len*e.size)).map λi=>zs.getD (i % zs.length) (.sc undef)) ps with
               | none=>rw[hf] at h;cases h
               | some cs =>
                 rw[hf] at h;cases h;obtain⟨us,V7,hur⟩:=Xy hf hin hp;obtain⟨x,st⟩:=hs.same (Nh w (.cells us.toArray elem));refine⟨.slice (some ⟨w.heap.size,0,none⟩) len len,_,?_,x,st,.KM (Nat.le_refl _) (Bc.On (hur.mono x) (λi v hv=>by rw[Nat.zero_add];exact hs.asB us elem hv)) rfl⟩
                 have adX:(Array.range (len*e.size)).map (λi=>z.cells[i % z.cells.size]!)=((List.range (len*e.size)).map λi=>z.cells[i % z.cells.size]!).toArray:=by
                   apply Array.ext';simp
                 rw[<- adX] at V7;have aKF:¬16777216 < len*e.size:=by omega
                 unfold Instr.buildSlice;simp only[Sem.run_bind,run_underlying hu,Result.andThen_ok,CG he,Sem.run_ite,gt_iff_lt,show(2:Nat) ^ 24=16777216 from rfl,aKF,if_false,Sem.run_pure,h0,zeroValue,typeInfo,run_program,hz,he,V7];simp[newRow]
           cases h
         cases h
     cases h
   cases h
 cases h
def Rg(P:Program)(st:TypeId)(a:AV)(k:Nat):Option AV :=
 match P.underlying st with
 | some (.struct fields)=>match fields.toList[k]? with
   | some f=>match P.info? f.type with
     | some i=>if i.size=0 then none else match a with
       | .ptr id off=>some (.ptr id (off+f.offset))
       | .el cs=>some (.el (cs.drop f.offset))
       | _=>none
     | none=>none
   | none=>none
 | _=>none
def fW{P:Program}{c:Cx}{w:World}{st:TypeId}{a r:AV}{k:Nat}{v:Value}(h:Rg P st a k=some r)(ha:Rp c w a v):∃u,(Instr.fieldAt st v k).run P w=.ok u w/\Rp c w r u:=by
 unfold Rg at h;split at h
 · rename_i fields hu
   split at h
   · rename_i f hf
     split at h
     · rename_i i hi
       split at h;cases h
       · rename_i h0
         have iR:fields[k]?=some f:=by rw[<- Array.getElem?_toList];exact hf
         split at h
         · cases h
           cases ha with
           | ptr hid =>
             refine⟨_,?_,.ptr hid⟩;simp[Instr.fieldAt,run_underlying hu,iR,Instr.sureAddr,fieldPlace,CG hi,h0,add_lit]
         · cases h
           cases ha with
           | el hc =>
             refine⟨_,?_,.el (hc.drop f.offset)⟩;simp[Instr.fieldAt,run_underlying hu,iR,Instr.sureAddr,fieldPlace,CG hi,h0,add_lit]
         cases h
     cases h
   cases h
 cases h
def Xx(P:Program)(st:TypeId)(a:AV)(k:Nat):Option AV :=
 match P.underlying st with
 | some (.struct fields)=>match fields.toList[k]? with
   | some f=>match a with
     | .agg cs=>apart P f.type cs f.offset
     | _=>none
   | none=>none
 | _=>none
def wA{P:Program}{c:Cx}{w:World}{st:TypeId}{a r:AV}{k:Nat}{v:Value}(h:Xx P st a k=some r)(ha:Rp c w a v)(w0:World):∃u,(Instr.field st v k).run P w0=.ok u w0/\Rp c w r u:=by
 unfold Xx at h;split at h
 · rename_i fields hu
   split at h
   · rename_i f hf
     split at h
     · cases ha with
       | agg hr =>
         have iR:fields[k]?=some f:=by rw[<- Array.getElem?_toList];exact hf
         obtain⟨u,h1,h2⟩:=XB h hr w0;exact⟨u,by simp[Instr.field,run_underlying hu,iR,asAgg,h1],h2⟩
     cases h
   cases h
 cases h
def QV:AV->Option Nat
 | .sc (.int _ i)=>if 0<=i then some i.toNat else none
 | _=>none
def MM{c:Cx}{w:World}{a:AV}{v:Value}{n:Nat}(h:QV a=some n)(ha:Rp c w a v):∃k i,v=.int k i/\0<=i/\i.toNat=n:=by
 unfold QV at h;split at h;rename_i k i;split at h;rename_i h0;cases h;cases ha;exact⟨k,i,rfl,h0,rfl⟩;cases h;cases h
def CO(P:Program)(t:TypeId)(x ix:AV):Option AV :=
 match P.underlying t,QV ix with
 | some (.slice elem),some i=>match P.info? elem,x with
   | some e,.sl _ n cs=>if i < n then some (.el (cs.drop (i*e.size))) else none
   | some e,.msl id off n=>if i < n then some (.ptr id (off+i*e.size)) else none
   | _,_=>none
 | some (.array len elem),some i=>match P.info? elem,x with
   | some e,.ptr id off=>if i < len then some (.ptr id (off+i*e.size)) else none
   | some e,.el cs=>if i < len then some (.el (cs.drop (i*e.size))) else none
   | _,_=>none
 | _,_=>none
def fX{P:Program}{c:Cx}{w:World}{t:TypeId}{x ix r:AV}{v vi:Value}(h:CO P t x ix=some r)(hx:Rp c w x v)(hi:Rp c w ix vi):∃u,(Instr.indexAt t v vi).run P w=.ok u w/\Rp c w r u:=by
 unfold CO at h;split at h
 · rename_i elem i hu hn
   obtain⟨k,z,rfl,hz0,rfl⟩:=MM hn hi;split at h
   · rename_i e n cs he
     split at h
     · rename_i hlt
       cases h;have hz1:z < (n:Int):=by omega
       cases hx with
       | sl0=>omega
       | KM hn hc ho =>
         refine⟨_,?_,.el (hc.drop _)⟩;simp[Instr.indexAt,asIntOf,run_underlying hu,hz0,hz1,CG he,add_lit]
     cases h
   · rename_i e id off n he
     split at h
     · rename_i hlt
       cases h;have hz1:z < (n:Int):=by omega
       cases hx with
       | msl hn hid =>
         refine⟨_,?_,.ptr hid⟩;simp[Instr.indexAt,asIntOf,run_underlying hu,hz0,hz1,CG he,add_lit]
     cases h
   cases h
 · rename_i len elem i hu hn
   obtain⟨k,z,rfl,hz0,rfl⟩:=MM hn hi;split at h
   · rename_i e id off he
     split at h
     · rename_i hlt
       cases h;have hz1:z < (len:Int):=by omega
       cases hx with
       | ptr hid =>
         refine⟨_,?_,.ptr hid⟩;simp[Instr.indexAt,asIntOf,run_underlying hu,hz0,hz1,CG he,add_lit,Instr.sureAddr]
     cases h
   · rename_i e cs he
     split at h
     · rename_i hlt
       cases h;have hz1:z < (len:Int):=by omega
       cases hx with
       | el hc =>
         refine⟨_,?_,.el (hc.drop _)⟩;simp[Instr.indexAt,asIntOf,run_underlying hu,hz0,hz1,CG he,add_lit,Instr.sureAddr]
     cases h
   cases h
 cases h
def Lq(P:Program)(t:TypeId)(x ix:AV):Option AV :=
 match P.underlying t,QV ix with
 | some (.array len elem),some i=>match P.info? elem,x with
   | some e,.agg cs=>if i < len then apart P elem cs (i*e.size) else none
   | _,_=>none
 | some .string,some i=>match x with
   | .sc (.string s)=>match s.data.toList[i]? with
     | some b=>some (.sc (.int .u8 b.toNat))
     | none=>none
   | _=>none
 | _,_=>none
def wB{P:Program}{c:Cx}{w:World}{t:TypeId}{x ix r:AV}{v vi:Value}(h:Lq P t x ix=some r)(hx:Rp c w x v)(hi:Rp c w ix vi)(w0:World):∃u,(Instr.index t v vi).run P w0=.ok u w0/\Rp c w r u:=by
 unfold Lq at h;split at h
 · rename_i len elem i hu hn
   obtain⟨k,z,rfl,hz0,rfl⟩:=MM hn hi;split at h
   · rename_i e cs he
     split at h
     · rename_i hlt
       have hz1:z < (len:Int):=by omega
       cases hx with
       | agg hr =>
         obtain⟨u,h1,h2⟩:=XB h hr w0;exact⟨u,by simp[Instr.index,asIntOf,run_underlying hu,hz0,hz1,CG he,h1],h2⟩
     cases h
   cases h
 rename_i i hu hn;obtain⟨k,z,rfl,hz0,rfl⟩:=MM hn hi;split at h;rename_i s;split at h;rename_i b hb;cases h;cases hx;refine⟨_,?_,.sc rfl⟩
 have Wv:s[z.toNat]?=some b:=by
   rw[<- hb];have hlt:=(List.getElem?_eq_some_iff.1 hb).1;have hl2:z.toNat < s.size:=by simpa using hlt
   rw[getElem?_pos s z.toNat hl2,List.getElem?_eq_getElem hlt];rfl
 simp[Instr.index,asIntOf,run_underlying hu,hz0,Wv];cases h;cases h;cases h
def Rf(x:AV)(k:Nat):Option AV :=
 match x with
 | .Dd vs=>vs[k]?
 | _=>none
def fV{P:Program}{c:Cx}{w:World}{x r:AV}{k:Nat}{v:Value}(h:Rf x k=some r)(hx:Rp c w x v)(w0:World):∃u,(Instr.extract v k).run P w0=.ok u w0/\Rp c w r u:=by
 unfold Rf at h;split at h
 · cases hx with
   | Dd hr =>
     obtain⟨u,h1,h2⟩:=hr.get h;exact⟨u,by simp[Instr.extract,h1],h2⟩
 cases h
end AI
namespace AI
open Go Go.RowKit
def YU:AV->Option Value
 | .sc v=>some v
 | _=>none
def OC:List AV->Option (List Value)
 | []=>some []
 | a::as=>match YU a,OC as with
   | some v,some vs=>some (v::vs)
   | _,_=>none
def UO:AV->Option Value
 | .sc v=>some v
 | .agg cs=>(OC cs).map λl=>.agg l.toArray
 | _=>none
def UN{c:Cx}{w:World}{a:AV}{v u:Value}(h:YU a=some v)(ha:Rp c w a u):u=v:=by
 unfold YU at h;split at h;cases h;cases ha;rfl;cases h
def YV{c:Cx}{w:World}{as:List AV}{vs us:List Value}(h:OC as=some vs)(ha:CH c w as us):us=vs:=by
 induction as generalizing vs us with
 | nil=>simp[OC] at h;subst h;cases ha;rfl
 | cons a as ih =>
   simp only[OC] at h;split at h;rename_i v vs' h1 h2;cases h;cases ha with
   | cons p q=>rw[UN h1 p,ih h2 q]
   cases h
def lJ{c:Cx}{w:World}{a:AV}{v u:Value}(h:UO a=some v)(ha:Rp c w a u):u=v:=by
 unfold UO at h;split at h;cases h;cases ha;rfl
 · rename_i cs
   cases hc:OC cs with
   | none=>rw[hc] at h;cases h
   | some l =>
     rw[hc] at h;cases h;cases ha with
     | agg hr=>rw[YV hc hr]
 cases h
def ZD(v:Value):Option AV:=if scalar v then some (.sc v) else none
def eM{v:Value}{a:AV}(h:ZD v=some a)(c:Cx)(w:World):Rp c w a v:=by
 unfold ZD at h;split at h;rename_i hs;cases h;exact .sc hs;cases h
def nD(op:BinOp)(x y:ByteArray):Option Value :=
 match op with
 | .add=>if x.data.toList.length+y.data.toList.length<=9223372036854775807 then some (.string ⟨(x.data.toList++y.data.toList).toArray⟩) else none
 | .eql=>some (.bool (x.data.toList == y.data.toList))
 | .neq=>some (.bool (!(x.data.toList == y.data.toList)))
 | .lss=>some (.bool (Op.bytesLess x.data.toList y.data.toList))
 | .leq=>some (.bool (Op.bytesLess x.data.toList y.data.toList||x.data.toList == y.data.toList))
 | .gtr=>some (.bool (!(Op.bytesLess x.data.toList y.data.toList||x.data.toList == y.data.toList)))
 | .geq=>some (.bool (!(Op.bytesLess x.data.toList y.data.toList)))
 | _=>none
def QH(P:Program)(op:BinOp)(t:TypeId)(xo yo:Operand)(a b:AV):Option AV :=
 match a,b with
 | .sc (.string x),.sc (.string y)=>(nD op x y).bind ZD
 | a,b=>match UO a,UO b with
   | some u,some v=>(pv P (do eqGuard op t xo yo u v;binOp op t u v)).bind ZD
   | _,_=>none
def Uh(x y:ByteArray):x++y=⟨(x.data.toList++y.data.toList).toArray⟩:=by
 apply ByteArray.ext;simp
def aaQ{P:Program}{c:Cx}{w:World}{op:BinOp}{t:TypeId}{xo yo:Operand}{a b r:AV}{u v:Value}(h:QH P op t xo yo a b=some r)(ha:Rp c w a u)(hb:Rp c w b v)(w0:World) :
   ∃z,(do eqGuard op t xo yo u v;binOp op t u v:Sem Value).run P w0=.ok z w0/\Rp c w r z:=by
 unfold QH at h;split at h
 · rename_i x y
   cases ha;cases hb;cases hs:nD op x y with
   | none=>rw[hs] at h;cases h
   | some z =>
     rw[hs,Option.bind_some] at h;refine⟨z,?_,eM h c w⟩;have hl1:x.data.toList.length=x.size:=by simp
     have hl2:y.data.toList.length=y.size:=by simp
     unfold nD at hs;split at hs;split at hs;rename_i hle;cases hs;rw[hl1,hl2] at hle
     have:¬((x.size+y.size:Nat):Int) > IntKind.i64.max:=by
       show ¬((x.size+y.size:Nat):Int) > 9223372036854775807;omega
     simp[eqGuard,binOp,Op.stringOp,Uh];omega;cases hs
     all_goals first
       | (cases hs;simp[eqGuard,binOp,Op.stringOp,ByteArray.toList_eq];done)
       | (cases hs;done)
 · split at h
   · rename_i u' v' h1 h2
     have e1:=lJ h1 ha;have e2:=lJ h2 hb;subst e1 e2;cases hp:pv P (do eqGuard op t xo yo u v;binOp op t u v) with
     | none=>rw[hp] at h;cases h
     | some z =>
       rw[hp,Option.bind_some] at h;exact⟨z,agS _ hp w0,eM h c w⟩
   cases h
def aEF:Operand->Bool
 | .const (.slice none 0 0)=>true
 | _=>false
def aaV(P:Program)(op:BinOp)(t:TypeId)(yo:Operand)(z:Bool):Option AV:=match aEF yo,P.underlying t with
 | true,some (.slice _)=>(match op with
   | .eql=>some (.sc (.bool z))
   | .neq=>some (.sc (.bool (!z)))
   | _=>none)
 | _,_=>none
def Lf(P:Program)(op:BinOp)(t:TypeId)(xo yo:Operand)(a b:AV):Option AV :=
 match a with
 | .sl .nil _ _=>aaV P op t yo true
 | .sl .nn _ _=>aaV P op t yo false
 | a=>QH P op t xo yo a b
def bP{P:Program}{op:BinOp}{t:TypeId}{xo yo:Operand}{z:Bool}{r:AV}{A:Option Addr}{n cap:Nat}{v:Value}(h:aaV P op t yo z=some r)(hA:A.isNone=z)(hy:∀k,yo=.const k->v=k)(c:Cx)(w w0:World) :
   ∃q,(do eqGuard op t xo yo (.slice A n cap) v;binOp op t (.slice A n cap) v:Sem Value).run P w0=.ok q w0/\Rp c w r q:=by
 unfold aaV at h;split at h;rename_i e hn hu
 have hv:v=.slice none 0 0:=by
   unfold aEF at hn;split at hn;exact hy _ rfl;cases hn
 subst hv
 have O6:(Op.equal t (.slice A n cap) (.slice none 0 0)).run P w0=.ok z w0:=by
   unfold Op.equal;obtain⟨d,hd⟩:∃d,Op.maxDepth=d+1:=⟨_,rfl⟩;rw[hd];unfold Op.equalIn;rw[Sem.run_bind,run_underlying hu,Result.andThen_ok];cases A with
   | none=>simp only[Option.isNone_none] at hA;subst hA;rfl
   | some a=>simp only[Option.isNone_some] at hA;subst hA;rfl
 split at h;cases h;exact⟨.bool z,by simp only[eqGuard,binOp];rw[Sem.run_bind];simp[O6],.sc rfl⟩;cases h;exact⟨.bool !z,by simp only[eqGuard,binOp];rw[Sem.run_bind];simp[O6],.sc rfl⟩;cases h;cases h
def alN{P:Program}{c:Cx}{w:World}{op:BinOp}{t:TypeId}{xo yo:Operand}{a b r:AV}{u v:Value}(h:Lf P op t xo yo a b=some r)(ha:Rp c w a u)(hb:Rp c w b v)(hy:∀k,yo=.const k->v=k)(w0:World) :
   ∃z,(do eqGuard op t xo yo u v;binOp op t u v:Sem Value).run P w0=.ok z w0/\Rp c w r z:=by
 unfold Lf at h;split at h;cases ha with
 | sl0 h0=>exact bP h h0 hy c w w0
 | KM _ _ ho=>exact ho.elim
 cases ha with
 | sl0 h0=>exact bP h h0 hy c w w0
 | KM _ _ ho=>exact bP h rfl hy c w w0
 exact aaQ h ha hb w0
def VX(P:Program)(s:Sem Value):Option AV:=(pv P s).bind ZD
def Ui{P:Program}{s:Sem Value}{r:AV}(h:VX P s=some r)(c:Cx)(w w0:World):∃z,s.run P w0=.ok z w0/\Rp c w r z:=by
 unfold VX at h;cases hp:pv P s with
 | none=>rw[hp] at h;cases h
 | some z =>
   rw[hp,Option.bind_some] at h;exact⟨z,agS _ hp w0,eM h c w⟩
def Ml(d:Nat):Option AV->Option Nat
 | none=>some d
 | some a=>QV a
inductive RO(c:Cx)(w:World):Option AV->Option Value->Prop where
 | none:RO c w none none
 | some {a:AV} {v:Value} (h:Rp c w a v):RO c w (some a) (some v)
def KP(P:Program)(t:TypeId)(x:AV)(lo hi mx:Option AV):Option AV :=
 match P.underlying t with
 | some .string=>match x with
   | .sc (.string s)=>match mx,Ml 0 lo,Ml s.data.toList.length hi with
     | none,some l,some h=>if l<=h/\h<=s.data.toList.length then some (.sc (.string ⟨((s.data.toList.drop l).take (h - l)).toArray⟩)) else none
     | _,_,_=>none
   | _=>none
 | some (.slice elem)=>match P.info? elem,x with
   | some e,.sl own n cs=>match Ml 0 lo,Ml n hi with
     | some l,some h=>if l<=h/\h<=n/\cs.length=n*e.size then
         (match mx with
         | none=>some (.sl (if l=0/\h=n then own else if h=n/\own=.full then .full else .lost) (h - l) ((cs.drop (l*e.size)).take ((h - l)*e.size)))
         | some m=>match QV m with
           | some m=>if h=m/\hi.isSome=true then some (.sl .full (h - l) ((cs.drop (l*e.size)).take ((h - l)*e.size))) else none
           | none=>none)
       else none
     | _,_=>none
   | _,_=>none
 | _=>none
def R1(d:Nat)(o:Option Value)(n:Nat):Prop:=(o=none/\n=d)\/∃k i,o=some (.int k i)/\0<=i/\i.toNat=n
def R4{c:Cx}{w:World}{d n:Nat}{a:Option AV}{v:Option Value}(h:Ml d a=some n)(ha:RO c w a v):R1 d v n:=by
 cases ha with
 | none=>simp[Ml] at h;exact .inl ⟨rfl,h.symm⟩
 | some h1 =>
   obtain⟨k,i,rfl,h2,h3⟩:=MM h h1;exact .inr ⟨k,i,rfl,h2,h3⟩
def JU{P:Program}(k:IntKind)(i:Int)(y:Nat)(code:BoundsCode)(w:World)(h0:0<=i)(h1:i.toNat<=y):(Instr.sliceBound (.int k i) y code).run P w=.ok i.toNat w:=by
 have:i<=(y:Int):=by omega
 simp[Instr.sliceBound,asIntOf,h0,this]
def TO{P:Program}{isSlice:Bool}{len cap l h:Nat}{lo hi:Option Value}(xJ:R1 0 lo l)(xI:R1 len hi h)(hle:l<=h)(hh:h<=cap)(w:World) :
   (Instr.sliceBounds isSlice len cap lo hi none).run P w=.ok (l,h,cap) w:=by
 rcases xJ with ⟨rfl,rfl⟩ | ⟨k,i,rfl,PW,rfl⟩<;>rcases xI with ⟨rfl,rfl⟩ | ⟨k',i',rfl,aeE,rfl⟩
 simp[Instr.sliceBounds];simp[Instr.sliceBounds,JU k' i' cap _ w aeE hh];simp[Instr.sliceBounds,JU k i h _ w PW hle];simp[Instr.sliceBounds,JU k' i' cap _ w aeE hh,JU k i _ _ w PW hle]
def kT{P:Program}{isSlice:Bool}{len cap l h:Nat}{lo hi:Option Value}{k:IntKind}{j:Int}(xJ:R1 0 lo l)(xI:∃k i,hi=some (.int k i)/\0<=i/\i.toNat=h)(hle:l<=h)(hj:0<=j)(hh:h<=j.toNat)(hc:j.toNat<=cap)(w:World) :
   (Instr.sliceBounds isSlice len cap lo hi (some (.int k j))).run P w=.ok (l,h,j.toNat) w:=by
 obtain⟨k',i',rfl,aeE,rfl⟩:=xI;rcases xJ with ⟨rfl,rfl⟩ | ⟨k2,i,rfl,PW,rfl⟩
 simp[Instr.sliceBounds,JU k j cap _ w hj hc,JU k' i' _ _ w aeE hh];simp[Instr.sliceBounds,JU k j cap _ w hj hc,JU k' i' _ _ w aeE hh,JU k2 i _ _ w PW hle]
def take_nil{c:Cx}{w:World}{g o:Nat}{cs:List AV}(l n:Nat)(h:Bc c w g o cs):Bc c w g (o+l) ((cs.drop l).take n):=(h.drop l).take n
def wF{P:Program}{c:Cx}{w:World}{t:TypeId}{x r:AV}{lo hi mx:Option AV}{v:Value}{lo' O7 mx':Option Value}(h:KP P t x lo hi mx=some r)(hx:Rp c w x v)(xJ:RO c w lo lo')(xI:RO c w hi O7)(hmx:RO c w mx mx') :
   ∃u,(Instr.sliceAt t v lo' O7 mx').run P w=.ok u w/\Rp c w r u:=by
 unfold KP at h;split at h;rename_i hu;split at h;rename_i s;split at h;rename_i l hh e1 e2;split at h;rename_i hc;cases h;cases hx;cases hmx;have b1:=R4 e1 xJ;have b2:=R4 e2 xI;rw[show s.data.toList.length=s.size from by simp] at b2 hc;refine⟨_,?_,.sc rfl⟩;simp only[Instr.sliceAt,Sem.run_bind,run_underlying hu,Result.andThen_ok,Instr.slice,Option.isSome_none,Bool.false_eq_true,if_false,TO b1 b2 hc.1 hc.2,Sem.run_pure];congr 2;apply ByteArray.ext;apply Array.ext';rw[Lib.extract_data];cases h;cases h;cases h
 · rename_i elem hu
   split at h
   · rename_i e own n cs he
     split at h
     · rename_i l hh e1 e2
       split at h
       · rename_i hc
         have b1:=R4 e1 xJ;have b2:=R4 e2 xI
         have Q1:∀(A:Option Addr) (cap:Nat),n<=cap->mx'=none->(Instr.sliceAt t (.slice A n cap) lo' O7 mx').run P w=.ok (.slice (if cap=l then A else A.map (·.add (l*e.size))) (hh - l) (cap - l)) w:=by
           intro A cap oE hm;subst hm;simp only[Instr.sliceAt,Sem.run_bind,run_underlying hu,Result.andThen_ok,Instr.slice,TO b1 b2 hc.1 (Nat.le_trans hc.2.1 oE),Sem.run_pure,CG he]
         split at h
         · cases h
           cases hmx;cases hx with
           | sl0 h0 =>
             obtain⟨rfl,rfl⟩:l=0/\hh=0:=by omega
             refine⟨_,Q1 _ _ (Nat.zero_le _) rfl,?_⟩;simp only[List.drop_nil,List.take_nil,Nat.sub_zero,if_true,and_self];exact .sl0 (h0.re (by split<;>simp))
           | KM hn Vp ho =>
             rename_i cap g o;refine⟨_,Q1 _ _ hn rfl,?_⟩;by_cases I2:l=0/\hh=n;obtain⟨rfl,rfl⟩:=I2;simp only[Nat.zero_mul,List.drop_zero,Nat.sub_zero,and_self,if_true];rw[List.take_of_length_le (by rw[hc.2.2];exact Nat.le_refl _)]
             have:(if cap=0 then some (⟨g,o,none⟩:Addr) else Option.map (λx:Addr=>x.add 0) (some ⟨g,o,none⟩))=some ⟨g,o,none⟩:=by
               split;rfl;simp[Addr.add]
             rw[this];exact .KM hn Vp ho;rw[if_neg I2];by_cases hz:hh - l=0;have cU:((cs.drop (l*e.size)).take ((hh - l)*e.size))=[]:=by rw[hz];simp
             rw[cU,hz];by_cases hf:hh=n/\own=.full;rw[if_pos hf];obtain⟨rfl,rfl⟩:=hf;have:cap=hh:=ho;exact .sl0 (by show cap - l=0;omega);rw[if_neg hf];exact .sl0 trivial;have hne:¬cap=l:=by omega
             rw[if_neg hne];simp only[Option.map_some,add_lit];refine .KM (by omega) ((Vp.drop _).take _) ?_;by_cases hf:hh=n/\own=.full;rw[if_pos hf];obtain⟨rfl,rfl⟩:=hf;have:cap=hh:=ho;show cap - l=hh - l;omega;rw[if_neg hf];trivial
         · rename_i m
           split at h
           · rename_i j hj
             split at h
             · rename_i hjm
               cases h;obtain⟨rfl,aDN⟩:=hjm;cases hmx with
               | some hm =>
                 obtain⟨k,z,rfl,hz0,hz1⟩:=MM hj hm
                 have Ur:∃k i,O7=some (.int k i)/\0<=i/\i.toNat=hh:=by
                   cases xI with
                   | none=>cases aDN
                   | some h1 =>
                     obtain⟨k,i,rfl,h2,h3⟩:=MM e2 h1;exact⟨k,i,rfl,h2,h3⟩
                 have atW:∀(A:Option Addr) (cap:Nat),n<=cap->(Instr.sliceAt t (.slice A n cap) lo' O7 (some (.int k z))).run P w=.ok (.slice (if hh=l then A else A.map (·.add (l*e.size))) (hh - l) (hh - l)) w:=by
                   intro A cap oE;simp only[Instr.sliceAt,Sem.run_bind,run_underlying hu,Result.andThen_ok,Instr.slice,kT b1 Ur hc.1 hz0 (Nat.le_of_eq hz1.symm) (by rw[hz1];exact Nat.le_trans hc.2.1 oE),Sem.run_pure,CG he];rw[hz1]
                 cases hx with
                 | sl0 h0 =>
                   obtain⟨rfl,rfl⟩:l=0/\hh=0:=by omega
                   refine⟨_,atW _ _ (Nat.zero_le _),?_⟩;simp only[List.drop_nil,List.take_nil,Nat.sub_zero,if_true];exact .sl0 rfl
                 | KM hn Vp ho =>
                   refine⟨_,atW _ _ hn,?_⟩;by_cases hz:hh - l=0;have cU:((cs.drop (l*e.size)).take ((hh - l)*e.size))=[]:=by rw[hz];simp
                   rw[cU,hz];exact .sl0 rfl;rw[if_neg (by omega)];simp only[Option.map_some,add_lit];exact .KM (Nat.le_refl _) ((Vp.drop _).take _) rfl
             cases h
           cases h
       cases h
     cases h
   cases h
 cases h
end AI
namespace AI
open Go Go.RowKit
def Wt(P:Program)(s:AS)(size:Nat)(tx:TypeId)(b:AV):Option (Nat×List AV) :=
 match P.underlying tx,b with
 | some (.slice _),.sl _ n cs=>if cs.length=n*size then some (n,cs) else none
 | some (.slice _),.msl id off n=>match s.get id with
   | some (.cells cs)=>if off+n*size<=cs.length then some (n,(cs.drop off).take (n*size)) else none
   | _=>none
 | some .string,.sc (.string x)=>if size=1 then some (x.data.toList.length,x.data.toList.map λb=>.sc (.int .u8 b.toNat)) else none
 | _,_=>none
def abH(c:Cx)(w:World)(l:List UInt8):CH c w (l.map λb=>.sc (.int .u8 b.toNat)) (l.map λb=>.int .u8 b.toNat):=by
 induction l with
 | nil=>exact .nil
 | cons b l ih=>exact .cons (.sc rfl) ih
structure aaO(P:Program)(size:Nat)(tx:TypeId)(x:Value)(n:Nat)(news:List Value)(w:World):Prop where
 kind:(∃e',P.underlying tx=some (.slice e'))\/P.underlying tx=some .string
 len:∀w':World,(Builtin.lenOf x).run P w'=.ok n w'
 cells:∀w':World,w'.heap=w.heap->(Builtin.firstCells size n x).run P w'=.ok news.toArray w'
def bU{P:Program}{G:A8}{c:Cx}{w:World}{s:AS}{size:Nat}{tx:TypeId}{b:AV}{x:Value}{n:Nat}{cs:List AV}(hs:St G c w s)(h:Wt P s size tx b=some (n,cs))(hb:Rp c w b x) :
   ∃news,CH c w cs news/\news.length=n*size/\aaO P size tx x n news w:=by
 unfold Wt at h;split at h
 · rename_i e own n' cs' hu
   split at h
   · rename_i hl
     cases h;cases hb with
     | @sl0 _ A cap _ =>
       refine⟨[],.nil,by simp,.inl ⟨_,hu⟩,λ_=>rfl,λw' _=>?_⟩;cases A with
       | none=>simp[Builtin.firstCells]
       | some a=>simp[Builtin.firstCells,loadCells,loadCellsFrom]
     | KM hn hc ho =>
       obtain⟨vs,hr,IB⟩:=hc.vals;have hlv:=hr.len;refine⟨vs,hr,by omega,.inl ⟨_,hu⟩,λ_=>rfl,λw' hw=>?_⟩;refine run_firstCells_some w' size n _ n _ vs (by omega) (λj v hj=>?_);rw[add_lit];have:=(IB j v hj).2.2;rw[World.cell?_of_block (w:=w) (by rw[hw])];exact this
   cases h
 · rename_i e id off n' hu
   split at h
   · rename_i cs' Wv
     split at h
     · rename_i hl
       cases h;cases hb with
       | msl hn hid =>
         obtain⟨vs,ext,T,hw,hr⟩:=Pd hs hid Wv;have hlv:=hr.len;have oH:((vs.drop off).take (n*size)).length=n*size:=by rw[List.length_take,List.length_drop];omega
         refine⟨(vs.drop off).take (n*size),(hr.drop off).take _,oH,.inl ⟨_,hu⟩,λ_=>rfl,λw' hw'=>?_⟩;refine run_firstCells_some w' size n _ n _ _ oH (λj v hj=>?_);rw[add_lit]
         have hj2:vs[off+j]?=some v:=by
           rw[List.getElem?_take] at hj;split at hj;rw[List.getElem?_drop] at hj;exact hj;cases hj
         exact cell_of_heap (by rw[hw'];exact hw) (R5 hj2)
     cases h
   cases h
 rename_i x' hu;split at h;rename_i h1;cases h;cases hb;subst h1;refine⟨_,abH c w _,by simp,.inr hu,λ_=>by simp[Builtin.lenOf],λw' _=>?_⟩;simp only[Builtin.firstCells];rw[show x'.data.toList.length=x'.size from by simp];simp;apply Array.ext';simp;cases h;cases h
def AS.grow(s:AS)(r n:Nat):AS:=⟨s.h,s.nx,yU r n s.F,s.nr⟩
def AS.add(s:AS)(n:Nat):AS:=⟨s.h,s.nx,(s.nr,n)::s.F,s.nr+1⟩
section
variable {G:A8} {c:Cx} {w:World} {s:AS}
def St.eF(h:St G c w s){r n:Nat}(hr:DY r s.F=some n):r < c.rows.length:=by
 rcases h.IZ r n hr with h1 | ⟨g,cap,sz,h1⟩
 exact(List.getElem?_eq_some_iff.1 h1.1).1;exact(List.getElem?_eq_some_iff.1 h1).1
def Mf{l:List Rw}{r r':Nat}{x y:Rw}(h:(l.set r x)[r']?=some y):(r'=r/\y=x/\r < l.length)\/(r'≠r/\l[r']?=some y):=by
 by_cases e:r=r';subst e;have hl:=(List.getElem?_eq_some_iff.1 h).1;rw[List.length_set] at hl;rw[List.getElem?_set_self hl] at h;exact .inl ⟨rfl,(Option.some.inj h).symm,hl⟩;rw[List.getElem?_set_ne e] at h;exact .inr ⟨λx=>e x.symm,h⟩
def St.eG(h:St G c w s){r n0:Nat}(hF:DY r s.F=some n0){w':World}{g n cap sz:Nat}{vs:Array Value}{T:TypeId}(k:Q9 w w' (λx=>x=g))(hb:c.base<=g)(hp:some g∉c.CT)(hlt:n0 < n)(hlh:n<=cap)(hw:w'.heap[g]?=some (.cells vs T (0,0)))(hsz:vs.size=cap*sz)
   (hg:g=w.heap.size\/(c.rows[r]?=some (.QW g n0 cap sz)/\∀i v,i < n0*sz->w.cell? ⟨g,i,none⟩=some v->vs[i]?=some v)) :
   Ext c w { c with rows:=c.rows.set r (.QW g n cap sz) } w'/\St G { c with rows:=c.rows.set r (.QW g n cap sz) } w' (s.grow r n):=by
 have aOG:g < w'.heap.size:=(Array.getElem?_eq_some_iff.1 hw).1;have hrl:=h.eF hF
 have oJ:∀(r':Nat) n' cap' M4,c.rows[r']?=some (.QW g n' cap' M4)->r'=r:=by
   intro r' n' cap' M4 hr;rcases hg with rfl | ⟨sU,_⟩
   have:=h.Mx hr;omega;exact h.IH r' r g _ _ _ _ _ _ hr sU
 have e:Ext c w { c with rows:=c.rows.set r (.QW g n cap sz) } w':=by
   refine⟨List.prefix_refl _,by simp,λr' y hr hy=>?_,λg' i v hv=>⟨Nat.lt_of_lt_of_le hv.1 k.size,λhs=>?_,?_⟩,k.below h.PV (λx hx=>by rw[hx];exact hb),rfl,rfl,λ_ h=>.inl h,λr' g' n' cap' M4 hr=>?_,λq hq _ hr=>?_⟩;rcases Mf hy with ⟨rfl,rfl,_⟩ | ⟨_,h1⟩
   rcases h.IZ r' n0 hF with ⟨h1,_⟩ | ⟨g1,aJH,sz1,h1⟩
   exact⟨_,h1,.inr (.inl rfl)⟩;exact⟨_,h1,.inr (.inr ⟨_,_,_,_,rfl,hlt⟩)⟩;exact⟨y,h1,Kq.refl y⟩
   · rcases hs with hs | ⟨r',n',cap',M4,hr,h1,h2⟩ | hs
     exact hv.2.1 (.inl hs);rotate_left;exact hv.2.1 (.inr (.inr hs));rcases Mf hr with ⟨rfl,h3,_⟩ | ⟨_,h3⟩
     injection h3 with e1 e2 e3 e4
     subst e1 e2 e3 e4;rcases hg with rfl | ⟨sU,_⟩
     have:=hv.1;omega;have:=Nat.mul_le_mul_right M4 (Nat.le_of_lt hlt);exact hv.2.1 (.inr (.inl ⟨r',n0,cap',M4,sU,by omega,h2⟩));exact hv.2.1 (.inr (.inl ⟨r',n',cap',M4,h3,h1,h2⟩))
   by_cases hgg:g'=g;subst hgg;rcases hg with rfl | ⟨sU,aDC⟩
   have:=hv.1;omega
   have hi1:i < n0*sz:=by
     by_cases hlt:i < n0*sz;exact hlt;exfalso;obtain⟨_,_,_,_,vs0,T0,hh0,aOL⟩:=h.row r g' n0 cap sz sU;have hc:=hv.2.2;have hns:¬i < cap*sz:=λaLF=>hv.2.1 (.inr (.inl ⟨r,n0,cap,sz,sU,by omega,aLF⟩));simp[World.cell?,hh0] at hc;have:=(Array.getElem?_eq_some_iff.1 hc).1;omega
   have:=aDC i v hi1 hv.2.2;simp[World.cell?,hw,this];rw[k.cell hv.1 hgg];exact hv.2.2;rcases Mf hr with ⟨rfl,h1,_⟩ | ⟨_,h1⟩
   injection h1 with e1 _
   subst e1;rcases hg with rfl | ⟨sU,_⟩
   exact .inr (Nat.le_refl _);exact .inl ⟨r',n0,_,_,sU⟩;exact .inl ⟨r',n',cap',M4,h1⟩;refine k.block q hq (λe=>?_);subst e;rcases hg with rfl | ⟨sU,_⟩
   omega;exact hr r _ _ _ sU
 refine⟨e,⟨h.len,h.desc,h.nodup,h.low,λid g' b' h1 h2=>?_,by simp[AS.grow,h.IN],λr' g' n' cap' M4 hr=>?_,λr' n' hr=>?_,λg hg=>Nat.lt_of_lt_of_le (h.Md g hg) k.size,λg i hb=>Nat.lt_of_lt_of_le (h.Mn g i hb) k.size,λr1 r2 g' n1 c1 s1 n2 c2 s2 hr WY=>?_,λg' cs Ya=>(h.Mp g' cs Ya).mono e,Nat.le_trans h.PV k.size⟩⟩;obtain⟨o',ho,Wv⟩:=h.box id g' b' h1 h2;exact⟨o',by rw[k.block g' (Array.getElem?_eq_some_iff.1 ho).1 (λe=>hp (by rw[<- e];exact List.mem_of_getElem? h1))];exact ho,Wv.mono e⟩;rcases Mf hr with ⟨rfl,h2,_⟩ | ⟨hne,h1⟩
 injection h2 with e1 e2 e3 e4
 subst e1 e2 e3 e4;refine⟨λi KH=>?_,hb,hp,hlh,vs,T,hw,hsz⟩;rcases hg with rfl | ⟨sU,_⟩
 have:=h.Mn _ i KH;omega;exact(h.row r' _ _ _ _ sU).1 i KH;obtain⟨a1,a2,a3,a4,vs',T',ho,a5⟩:=h.row r' g' n' cap' M4 h1
 have hne:¬g'=g:=λe=>by
   subst e;exact hne (oJ r' _ _ _ h1)
 exact⟨a1,a2,a3,a4,vs',T',by rw[k.block g' (Array.getElem?_eq_some_iff.1 ho).1 hne];exact ho,a5⟩;rcases aM hr with ⟨rfl,rfl,_⟩ | ⟨hne,h2⟩
 exact .inr ⟨g,cap,sz,List.getElem?_set_self hrl⟩;simp only;rw[List.getElem?_set_ne (λe=>hne e.symm)];exact h.IZ r' n' h2;rcases Mf hr with ⟨rfl,h2,_⟩ | ⟨hn1,h1⟩<;>rcases Mf WY with ⟨rfl,h4,_⟩ | ⟨hn2,h3⟩
 rfl;injection h2 with e1
 subst e1;exact(oJ r2 _ _ _ h3).symm;injection h4 with e1
 subst e1;exact oJ r1 _ _ _ h1;exact h.IH r1 r2 g' _ _ _ _ _ _ h1 h3
def St.apR(h:St G c w s){w':World}{n cap sz:Nat}{vs:Array Value}{T:TypeId}(k:Q9 w w' (λx=>x=w.heap.size))(hn:0 < n)(hlh:n<=cap)(hw:w'.heap[w.heap.size]?=some (.cells vs T (0,0)))(hsz:vs.size=cap*sz) :
   Ext c w { c with rows:=c.rows++[.QW w.heap.size n cap sz] } w'/\St G { c with rows:=c.rows++[.QW w.heap.size n cap sz] } w' (s.add n):=by
 obtain⟨e1,st1⟩:=h.tok
 have hl:DY s.nr s.tok.F=some 0:=by
   simp only[AS.tok,DY];split;rfl;rename_i hb;exact absurd rfl (beq_false hb)
 have hp:some w.heap.size∉c.CT:=λhm=>by have:=h.Mu hm;omega
 obtain⟨e2,T8⟩:=st1.eG hl (g:=w.heap.size) (n:=n) (cap:=cap) (sz:=sz) k h.PV hp hn hlh hw hsz (.inl rfl)
 have hs:(c.rows++[Rw.new]).set s.nr (.QW w.heap.size n cap sz)=c.rows++[.QW w.heap.size n cap sz]:=by
   rw[h.IN,List.set_append_right _ _ (Nat.le_refl _)];simp
 have hf:s.tok.grow s.nr n=s.add n:=by
   simp only[AS.tok,AS.grow,AS.add,yU];have:Nat.beq s.nr s.nr=true:=Nat.beq_refl _;rw[this]
 simp only[hs] at e2 T8;rw[hf] at T8;exact⟨e1.trans e2,T8⟩
end
end AI
namespace AI
open Go Go.RowKit
def Qp{P:Program}{w:World}{t tx ty e:TypeId}{i:TypeInfo}(ht:P.underlying t=some (.slice e))(hi:P.info? e=some i){base:Option Addr}{n cap m:Nat}{x:Value}{news:List Value}(hs:aaO P i.size tx x m news w)(Ut:n+m<=cap){w':World}
   (FW:∀a,base=some a->(storeCells (a.add (n*i.size)) news).run P w=.ok () w') (hno:base=none->w'=w) :
   (Builtin.append_ #[t,tx] ty #[.slice base n cap,x]).run P w=.ok (.slice base (n+m) cap) w':=by
 have hc:=hs.cells w rfl;cases base with
 | none =>
   have:=hno rfl;subst this;rcases hs.kind with ⟨e',hk⟩ | hk<;>simp[Builtin.append_,run_underlying ht,run_underlying hk,Go.sizeOf,typeInfo,hi,hs.len,Ut,hc]
 | some a =>
   have:=FW a rfl;rcases hs.kind with ⟨e',hk⟩ | hk<;>simp[Builtin.append_,run_underlying ht,run_underlying hk,Go.sizeOf,typeInfo,hi,hs.len,Ut,hc,this]
def Qo{P:Program}{w:World}{t tx ty e:TypeId}{i:TypeInfo}{z:Value}(ht:P.underlying t=some (.slice e))(hi:P.info? e=some i)(hz:i.zero=some z){base:Option Addr}{n cap m:Nat}{x:Value}{olds news:List Value}(hs:aaO P i.size tx x m news w)
   (hold:(Builtin.firstCells i.size n (.slice base n cap)).run P { w with drawn:=w.drawn+1 }=.ok olds.toArray { w with drawn:=w.drawn+1 }) (hg:cap < n+m) (h63:n+m<=9223372036854775807) (hb:(n+m)*i.bytes<=140737488355328) :
   ∃cap',n+m<=cap'/\(Builtin.append_ #[t,tx] ty #[.slice base n cap,x]).run P w=.ok (.slice (some ⟨w.heap.size,0,none⟩) (n+m) cap') { w with drawn:=w.drawn+1,heap:=w.heap.push (.cells ((olds++news).toArray++Builtin.zeroCells z.cells (cap' - (n+m))) e) }:=by
 have hn:¬(n+m<=cap):=by omega
 have aKH:¬(9223372036854775807 < ((n:Int)+(m:Int))):=by omega
 have xH:=growslice_fits hg hb;have aKG:¬(281474976710656 < Builtin.nextslicecap (n+m) cap*i.bytes):=by omega
 have hc:=hs.cells { w with drawn:=w.drawn+1 } rfl
 refine⟨(Question.appendCap (n+m) cap e).cut (w.tape w.drawn (.appendCap (n+m) cap e)),by simp[Question.cut],?_⟩;have hc2:(Builtin.firstCells i.size m x).run P w.drew=.ok news.toArray w.drew:=hc;have aDG:(Builtin.firstCells i.size n (.slice base n cap)).run P w.drew=.ok olds.toArray w.drew:=hold
 have adX:olds.toArray++(news.toArray++Builtin.zeroCells z.cells ((Question.appendCap (n+m) cap e).cut (w.tape w.drawn (.appendCap (n+m) cap e)) - (n+m)))=(olds++news).toArray++Builtin.zeroCells z.cells ((Question.appendCap (n+m) cap e).cut (w.tape w.drawn (.appendCap (n+m) cap e)) - (n+m)):=by
   apply Array.ext';simp
 rcases hs.kind with ⟨e',hk⟩ | hk <;>
   (simp[Builtin.append_,run_underlying ht,run_underlying hk,Go.sizeOf,typeInfo,zeroValue,hi,hz,hs.len,hn,aKH,aKG,Question.forced,hc2,aDG,newRow]
    rw[adX];rfl)
def NA(sz:Nat)(F:List (Nat×Nat))(n:Nat):Own->Bool
 | .full=>true
 | .row r z=>z == sz&&(match DY r F with | some k=>k == n | none=>false)
 | _=>false
def auK(s:AS)(sz:Nat):Own->Own
 | .row r _=>.row r sz
 | _=>.row s.nr sz
def AS.to(s:AS)(n:Nat):Own->AS
 | .row r _=>s.grow r n
 | _=>s.add n
def KN(P:Program)(s:AS)(t tx:TypeId)(a b:AV):Option (AV×AS) :=
 match P.underlying t with
 | some (.slice e)=>match P.info? e with
   | some i=>match i.zero with
     | some z=>if z.cells.size=i.size/\0 < i.size then (match a,Wt P s i.size tx b with
       | .sl own n cs,some (m,ns)=>if cs.length=n*i.size/\ns.all one=true/\(n+m)*i.bytes<=140737488355328/\n+m<=9223372036854775807 then
           (if m=0 then some (.sl own n cs,s)
            else if NA i.size s.F n own=true then some (.sl (auK s i.size own) (n+m) (cs++ns),s.to (n+m) own) else none)
         else none
       | _,_=>none) else none
     | none=>none
   | none=>none
 | _=>none
def V6{P:Program}{c:Cx}{w:World}{own:Own}{n size:Nat}{cs:List AV}{v:Value}(h:Rp c w (.sl own n cs) v)(hl:cs.length=n*size) :
   ∃base cap olds,v=.slice base n cap/\n<=cap/\CH c w cs olds/\olds.length=n*size/\∀w':World,w'.heap=w.heap->(Builtin.firstCells size n (.slice base n cap)).run P w'=.ok olds.toArray w':=by
 cases h with
 | @sl0 _ A cap h0 =>
   refine⟨A,cap,[],rfl,Nat.zero_le _,.nil,by simp,λw' _=>?_⟩;cases A with
   | none=>simp[Builtin.firstCells]
   | some a=>simp[Builtin.firstCells,loadCells,loadCellsFrom]
 | @KM _ _ cap g o _ hn hc ho =>
   obtain⟨vs,hr,IB⟩:=hc.vals;have hlv:=hr.len;refine⟨_,cap,vs,rfl,hn,hr,by omega,λw' hw=>run_firstCells_some w' size n _ n _ vs (by omega) (λj v hj=>?_)⟩;rw[add_lit,World.cell?_of_block (w:=w) (by rw[hw])];exact(IB j v hj).2.2
def bG{c:Cx}{w':World}{g n m sz cap:Nat}{T:TypeId}{all olds news:List Value}{rows:List Rw}(hw:w'.heap[g]?=some (.cells all.toArray T (0,0)))(I2:∀(j:Nat) v,(olds++news)[j]?=some v->all[j]?=some v)(hp:some g∉c.CT)(hb:∀i,¬c.bad g i)
   (hol:olds.length=n*sz) (hnl:news.length=m*sz) (hrow:∀(r:Nat) n' cap' M4,rows[r]?=some (.QW g n' cap' M4)->n'=n+m/\cap'=cap/\M4=sz) {j:Nat} {v:Value} (hj:(olds++news)[j]?=some v):LG { c with rows:=rows } w' g j v:=by
 have hjl:=(List.getElem?_eq_some_iff.1 hj).1;rw[List.length_append] at hjl;refine⟨(Array.getElem?_eq_some_iff.1 hw).1,λhs=>?_,cell_of_heap hw (I2 j v hj)⟩;rcases hs with hs | ⟨r,n',cap',M4,hr,h1,h2⟩ | hs
 exact hp hs;obtain⟨rfl,rfl,rfl⟩:=hrow r n' cap' M4 hr;rw[Nat.add_mul] at h1;omega;exact hb j hs
def mX{P:Program}{G:A8}{c:Cx}{w:World}{s s':AS}{t tx ty:TypeId}{a b r:AV}{va vb:Value}(hs:St G c w s)(h:KN P s t tx a b=some (r,s'))(ha:Rp c w a va)(hb:Rp c w b vb) :
   ∃u w' c',(Builtin.append_ #[t,tx] ty #[va,vb]).run P w=.ok u w'/\Ext c w c' w'/\St G c' w' s'/\Rp c' w' r u:=by
 unfold KN at h;split at h
 · rename_i e ht
   split at h
   · rename_i i hi
     split at h
     · rename_i z hz
       split at h
       · rename_i hzs
         split at h
         · rename_i own n cs m ns axO
           split at h
           · rename_i hc
             obtain⟨news,hnr,hnl,hsi⟩:=bU hs axO hb;split at h;rename_i hm;cases h;subst hm;have cU:news=[]:=List.eq_nil_of_length_eq_zero (by simpa using hnl)
             subst cU;obtain⟨base,cap,olds,rfl,oE,_,_,_⟩:=V6 (P:=P) (size:=i.size) ha hc.1;refine⟨.slice base n cap,w,c,?_,Ext.refl c w,hs,ha⟩;exact Qp ht hi hsi (by omega) (λa _=>by simp[storeCells]) (λ_=>rfl)
             · rename_i hm
               split at h
               · rename_i OR
                 cases h;obtain⟨base,cap,olds,rfl,oE,hor,hol,hfc⟩:=V6 (P:=P) (size:=i.size) ha hc.1;by_cases Ut:n+m<=cap
                 · cases ha with
                   | sl0 h0 =>
                     exfalso;cases own with
                     | full=>have:cap=0:=h0;omega
                     | row r z=>have:cap=0:=h0.1;omega
                     | lost=>simp[NA] at OR
                     | nil=>simp[NA] at OR
                     | nn=>simp[NA] at OR
                   | @KM _ _ _ g o _ hn Vp ho =>
                     cases own with
                     | full=>exfalso;have:cap=n:=ho;omega
                     | lost=>simp[NA] at OR
                     | nil=>simp[NA] at OR
                     | nn=>simp[NA] at OR
                     | row r0 sz =>
                       simp only[NA,Bool.and_eq_true,beq_iff_eq] at OR;obtain⟨rfl,hF⟩:=OR
                       have hF:DY r0 s.F=some n:=by
                         split at hF;rename_i k hk;rw[hk,beq_iff_eq.1 hF];cases hF
                       obtain⟨rfl,hlen,aOJ,iT,aDL⟩:=ho;rcases hs.IZ r0 n hF with ⟨h1,_⟩ | ⟨g',cap',M4,hrow⟩
                       exact absurd h1 iT;obtain⟨rfl,rfl,rfl⟩:=(aDL _ _ _ _ hrow).2 rfl;obtain⟨hgb,hbg,hgp,hlh,cur,T,anI,aKN⟩:=hs.row r0 g' _ _ _ hrow;have xH:n*i.size+news.length<=cur.size:=by rw[hnl,aKN,<- Nat.add_mul];exact Nat.mul_le_mul_right _ Ut
                       have FW:=run_storeCells_at P g' (n*i.size) T news 0 cur w anI (by simpa using xH) (Xa hnr hc.2.1)
                       simp only[Nat.add_zero] at FW;have Lu:=setRow_heap w g' cur (cur.toList.take (n*i.size)++news++cur.toList.drop (n*i.size+news.length)).toArray T (0,0) anI
                       have aKL:cur.toList.take (n*i.size)=olds:=by
                         obtain⟨vs,hr,IB⟩:=Vp.vals;have h1:=hfc w rfl;have h2:=run_firstCells_some (P:=P) w i.size n ⟨g',0,none⟩ n cap' vs (by rw[hr.len];exact hc.1) (λj v hj=>by rw[add_lit];exact(IB j v hj).2.2);rw[h1] at h2;injection h2 with h2 _
                         have h3:olds=vs:=by simpa using congrArg Array.toList h2
                         subst h3;apply List.ext_getElem?;intro j;rw[List.getElem?_take];by_cases hj:j < n*i.size;rw[if_pos hj];have hj2:j < olds.length:=by omega
                         have:=(IB j _ (List.getElem?_eq_getElem hj2)).2.2;rw[Nat.zero_add] at this;simp only[World.cell?,anI] at this;rw[List.getElem?_eq_getElem hj2,Array.getElem?_toList];simpa using this
                         rw[if_neg hj,List.getElem?_eq_none (by omega)]
                       obtain⟨x,st⟩:=hs.eG hF (g:=g') (n:=n+m) (cap:=cap') (sz:=i.size) (T:=T) (Ht w g' (cur.toList.take (n*i.size)++news++cur.toList.drop (n*i.size+news.length)).toArray) hbg hgp (by omega) Ut Lu (by simp only[List.size_toArray,List.length_append,List.length_take,List.length_drop,Array.length_toList];omega)
                         (.inr ⟨hrow,λj v hj hv=>by
                           rw[List.getElem?_toArray,List.append_assoc,List.getElem?_append_left (by rw[List.length_take,Array.length_toList];omega),List.getElem?_take,if_pos hj];simpa[World.cell?,anI] using hv⟩)
                       refine⟨_,_,_,Qp ht hi hsi Ut (λa ha=>by cases ha;rw[add_lit,Nat.zero_add];exact FW) (λh=>by cases h),x,st,?_⟩;have hrl:=hs.eF hF;refine .KM Ut (Bc.On ((hor.append hnr).mono x) (λj v hj=>?_)) ⟨rfl,by rw[List.length_append,hc.1,<- hnr.len,hnl,Nat.add_mul],by simpa using hrl,λh2=>?_,λg2 n2 c2 s2 h2=>?_⟩
                       rw[Nat.zero_add];refine bG (olds:=olds) (news:=news) (cap:=cap') Lu (λj v hj=>?_) hgp hgb hol hnl (λr n' aNW aOR hr=>?_) hj;rw[<- aKL] at hj;have hjl:=(List.getElem?_eq_some_iff.1 hj).1;rw[List.getElem?_append_left hjl];exact hj;rcases Mf hr with ⟨rfl,h1,_⟩ | ⟨hne,h1⟩
                       injection h1 with _ e2 e3 e4
                       exact⟨e2,e3,e4⟩;exact absurd (hs.IH r r0 g' _ _ _ _ _ _ h1 hrow) hne;simp only at h2;rw[List.getElem?_set_self hrl] at h2;cases h2;simp only at h2;rw[List.getElem?_set_self hrl] at h2;injection h2 with h2
                       injection h2 with e1 e2 e3 e4
                       subst e1 e2 e3 e4;exact⟨Nat.le_refl _,λ_=>⟨rfl,rfl,rfl⟩⟩
                 · obtain⟨cap',X7,Q1⟩:=Qo (ty:=ty) ht hi hz hsi (hfc { w with drawn:=w.drawn+1 } rfl) (by omega) hc.2.2.2 hc.2.2.1
                   have hzc:(Builtin.zeroCells z.cells (cap' - (n+m))).size=(cap' - (n+m))*i.size:=by rw[size_zeroCells,hzs.1]
                   have hk:Q9 w { w with drawn:=w.drawn+1,heap:=w.heap.push (.cells ((olds++news).toArray++Builtin.zeroCells z.cells (cap' - (n+m))) e) } (λx=>x=w.heap.size) :=
                     ⟨rfl,rfl,rfl,by simp,λk hk _=>by simp[Array.getElem?_push];intro h;omega⟩
                   have Lu:({ w with drawn:=w.drawn+1,heap:=w.heap.push (.cells ((olds++news).toArray++Builtin.zeroCells z.cells (cap' - (n+m))) e) }:World).heap[w.heap.size]?=some (.cells ((olds++news).toArray++Builtin.zeroCells z.cells (cap' - (n+m))) e (0,0)):=by simp
                   have aDF:({ w with drawn:=w.drawn+1,heap:=w.heap.push (.cells ((olds++news).toArray++Builtin.zeroCells z.cells (cap' - (n+m))) e) }:World).heap[w.heap.size]?=some (.cells ((olds++news)++(Builtin.zeroCells z.cells (cap' - (n+m))).toList).toArray e (0,0)):=by
                     rw[Lu];congr 2;apply Array.ext';simp
                   have hpn:some w.heap.size∉c.CT:=λhm=>by have:=hs.Mu hm;omega
                   have hbn:∀i,¬c.bad w.heap.size i:=λi hb=>by have:=hs.Mn _ i hb;omega
                   have hsz:((olds++news).toArray++Builtin.zeroCells z.cells (cap' - (n+m))).size=cap'*i.size:=by
                     simp only[Array.size_append,List.size_toArray,List.length_append,hol,hnl,hzc,<- Nat.add_mul];congr 1;omega
                   have aDK:∀(r:Nat) n' c' s',c.rows[r]?≠some (.QW w.heap.size n' c' s'):=λr n' c' s' hr=>by have:=hs.Mx hr;omega
                   have fin:∀(rows:List Rw) (r:Nat),rows[r]?=some (.QW w.heap.size (n+m) cap' i.size)->(∀(r':Nat) n' c' s',rows[r']?=some (.QW w.heap.size n' c' s')->n'=n+m/\c'=cap'/\s'=i.size)->Ext c w { c with rows:=rows } { w with drawn:=w.drawn+1,heap:=w.heap.push (.cells ((olds++news).toArray++Builtin.zeroCells z.cells (cap' - (n+m))) e) } ->
                       Rp { c with rows:=rows } { w with drawn:=w.drawn+1,heap:=w.heap.push (.cells ((olds++news).toArray++Builtin.zeroCells z.cells (cap' - (n+m))) e) } (.sl (.row r i.size) (n+m) (cs++ns)) (.slice (some ⟨w.heap.size,0,none⟩) (n+m) cap'):=by
                     intro rows r hr I2 x;refine .KM X7 (Bc.On ((hor.append hnr).mono x) (λj v hj=>?_)) ⟨rfl,by rw[List.length_append,hc.1,<- hnr.len,hnl,Nat.add_mul],(List.getElem?_eq_some_iff.1 hr).1,λh2=>?_,λg2 n2 c2 s2 h2=>?_⟩;rw[Nat.zero_add];refine bG (olds:=olds) (news:=news) (cap:=cap') aDF (λj v hj=>?_) hpn hbn hol hnl I2 hj;rw[List.getElem?_append_left (List.getElem?_eq_some_iff.1 hj).1];exact hj;simp only at h2;rw[hr] at h2;cases h2;simp only at h2;rw[hr] at h2;injection h2 with h2
                     injection h2 with e1 e2 e3 e4
                     subst e1 e2 e3 e4;exact⟨Nat.le_refl _,λ_=>⟨rfl,rfl,rfl⟩⟩
                   have apS:∀r sz,NA i.size s.F n (.row r sz)=true->∃u w' c',(Builtin.append_ #[t,tx] ty #[.slice base n cap,vb]).run P w=.ok u w'/\Ext c w c' w'/\St G c' w' (s.grow r (n+m))/\Rp c' w' (.sl (.row r i.size) (n+m) (cs++ns)) u:=by
                     intro r sz OR;simp only[NA,Bool.and_eq_true,beq_iff_eq] at OR
                     have hF:DY r s.F=some n:=by
                       have hF:=OR.2;split at hF;rename_i k hk;rw[hk,beq_iff_eq.1 hF];cases hF
                     have hrl:=hs.eF hF;obtain⟨x,st⟩:=hs.eG hF (g:=w.heap.size) (n:=n+m) (cap:=cap') (sz:=i.size) (T:=e) hk hs.PV hpn (by omega) X7 Lu hsz (.inl rfl);refine⟨_,_,_,Q1,x,st,fin _ r (List.getElem?_set_self hrl) (λr' n' c' s' hr=>?_) x⟩;rcases Mf hr with ⟨rfl,h1,_⟩ | ⟨hne,h1⟩
                     injection h1 with _ e2 e3 e4
                     exact⟨e2,e3,e4⟩;exact absurd h1 (aDK _ _ _ _)
                   cases own with
                   | lost=>simp[NA] at OR
                   | nil=>simp[NA] at OR
                   | nn=>simp[NA] at OR
                   | row r sz=>exact apS r sz OR
                   | full =>
                     obtain⟨x,st⟩:=hs.apR (n:=n+m) (cap:=cap') (sz:=i.size) (T:=e) hk (by omega) X7 Lu hsz;refine⟨_,_,_,Q1,x,st,fin _ s.nr (by rw[hs.IN];exact List.getElem?_concat_length) (λr' n' c' s' hr=>?_) x⟩;by_cases hr2:r' < c.rows.length;rw[List.getElem?_append_left hr2] at hr;exact absurd hr (aDK _ _ _ _);have hl:=(List.getElem?_eq_some_iff.1 hr).1;simp at hl;have:r'=c.rows.length:=by omega
                     subst this;rw[List.getElem?_concat_length] at hr;injection hr with hr
                     injection hr with _ e2 e3 e4
                     exact⟨e2.symm,e3.symm,e4.symm⟩
               cases h
           cases h
         cases h
       cases h
     cases h
   cases h
 cases h
end AI
namespace AI
open Go Go.RowKit
def plainKey:TypeDesc->Bool
 | .int _ | .string | .bool=>true
 | _=>false
def YJ:TypeDesc->Value->Value->Option Bool
 | .int _,.int k a,.int k' b=>if k=k' then some (a == b) else none
 | .string,.string a,.string b=>some (a.data.toList == b.data.toList)
 | .bool,.bool a,.bool b=>some (a == b)
 | _,_,_=>none
def aaZ(a b:ByteArray):(a == b)=(a.data.toList == b.data.toList):=by
 obtain⟨⟨a⟩⟩:=a;obtain⟨⟨b⟩⟩:=b;show((⟨a⟩:Array UInt8) == ⟨b⟩)=(a == b);simp
def YL(d:TypeDesc)(a b:Value):Instr.sameNow d a b=YJ d a b:=by
 unfold YJ;split<;>simp_all [Instr.sameNow,aaZ]
def YK{d:TypeDesc}{a b:Value}(h:YJ d a b=some true):Instr.sameBits 10000 b a=true:=by
 unfold YJ at h;split at h;split at h;rename_i e;subst e;simp at h;subst h;simp[Instr.sameBits];cases h;rename_i x y;simp only[Option.some.injEq,beq_iff_eq] at h;simp[Instr.sameBits,aaZ,h];simp at h;subst h;simp[Instr.sameBits];cases h
def Xz(d:TypeDesc)(k:Value):List (Value×AV×Nat)->Nat->Option (Option (Nat×AV))
 | [],_=>some none
 | e::es,i=>match YJ d k e.1 with
   | some true=>some (some (i,e.2.1))
   | some false=>Xz d k es (i+1)
   | none=>none
def Pa{c:Cx}{w:World}{d:TypeDesc}{k:Value}{es:List (Value×AV×Nat)}{fs:List MapEntry}(h:Kp c w es fs){i:Nat}{r:Option (Nat×AV)}(hf:Xz d k es i=some r) :
   (r=none/\Instr.findNow d k fs i=some none)\/∃j a v e f,r=some (i+j,a)/\Instr.findNow d k fs i=some (some (i+j,v))/\Rp c w a v/\es[j]?=some e/\fs[j]?=some f/\e.2.1=a/\f.val=v/\f.key=e.1/\f.born=e.2.2/\YJ d k e.1=some true:=by
 induction h generalizing i r with
 | nil=>simp[Xz] at hf;subst hf;exact .inl ⟨rfl,rfl⟩
 | @cons k' a v b es fs h1 _ ih =>
   simp only[Xz] at hf;split at hf;rename_i hs;cases hf;refine .inr ⟨0,a,v,(k',a,b),⟨k',v,b⟩,rfl,?_,h1,rfl,rfl,rfl,rfl,rfl,rfl,hs⟩;simp only[Instr.findNow,YL,hs,Nat.add_zero];rename_i hs;rcases ih hf with ⟨h2,h3⟩ | ⟨j,a',v',e,f,h2,h3,h4,h5,h6,h7⟩
   refine .inl ⟨h2,?_⟩;simp only[Instr.findNow,YL,hs];exact h3;refine .inr ⟨j+1,a',v',e,f,by rw[h2];congr 2;omega,?_,h4,by simpa using h5,by simpa using h6,h7⟩
   simp only[Instr.findNow,YL,hs];rw[h3];congr 3;omega;cases hf
def Kp.set{c:Cx}{w:World}{es:List (Value×AV×Nat)}{fs:List MapEntry}(h:Kp c w es fs){k:Value}{a:AV}{v:Value}{b:Nat}(hr:Rp c w a v)(i:Nat):Kp c w (es.set i (k,a,b)) (fs.set i ⟨k,v,b⟩):=by
 induction h generalizing i with
 | nil=>exact .nil
 | cons h1 t ih =>
   cases i with
   | zero=>exact .cons hr t
   | succ i=>exact .cons h1 (ih i)
def Kp.snoc{c:Cx}{w:World}{es:List (Value×AV×Nat)}{fs:List MapEntry}(h:Kp c w es fs){k:Value}{a:AV}{v:Value}{b:Nat}(hr:Rp c w a v):Kp c w (es++[(k,a,b)]) (fs++[⟨k,v,b⟩]):=by
 induction h with
 | nil=>exact .cons hr .nil
 | cons h1 _ ih=>exact .cons h1 ih
def Kp.len{c:Cx}{w:World}{es:List (Value×AV×Nat)}{fs:List MapEntry}(h:Kp c w es fs):fs.length=es.length:=by
 induction h with
 | nil=>rfl
 | cons _ _ ih=>simp[ih]
def Uk{G:A8}{c:Cx}{w:World}{s:AS}(hs:St G c w s){id g:Nat}{es:List (Value×AV×Nat)}{clock:Nat}(hid:c.CT[id]?=some (some g))(hb:s.get id=some (.map es clock)):∃fs,w.heap[g]?=some (.map fs.toArray clock)/\Kp c w es fs:=by
 obtain⟨o,ho,xE⟩:=hs.box id g _ hid hb;cases xE with
 | map h1=>exact⟨_,ho,h1⟩
def JH{P:Program}{w:World}{g:Nat}{es:Array MapEntry}{cl:Nat}(h:w.heap[g]?=some (.map es cl)):(getObj g).run P w=.ok (.map es cl) w:=by simp[getObj,Sem.run,h]
def NT{P:Program}{w:World}{g:Nat}{es:Array MapEntry}{cl:Nat}(o:Obj)(h:w.heap[g]?=some (.map es cl)):(setObj g o).run P w=.ok () { w with heap:=w.heap.setIfInBounds g o }:=by simp[setObj,Sem.run,h]
def Un(w:World)(g:Nat)(o:Obj):Q9 w { w with heap:=w.heap.setIfInBounds g o } (λx=>x=g) :=
 ⟨rfl,rfl,rfl,by simp,λk _ hne=>by simp only;rw[Array.getElem?_setIfInBounds_ne (λe=>hne e.symm)]⟩
def UK(w:World){g:Nat}{o o':Obj}(h:w.heap[g]?=some o'):({ w with heap:=w.heap.setIfInBounds g o }:World).heap[g]?=some o:=by
 have:=(Array.getElem?_eq_some_iff.1 h).1;simp[this]
def run_checkKey{P:Program}{kt:TypeId}{kd:TypeDesc}{v:Value}(b:Bool)(h:P.underlying kt=some kd)(hp:plainKey kd=true)(w:World):(Instr.checkKey b 10000 kt v).run P w=.ok () w:=by
 unfold Instr.checkKey;rw[Sem.run_bind,run_underlying h];cases kd<;>first | (simp[plainKey] at hp;done) | rfl
def run_findKey{P:Program}{kt:TypeId}{kd:TypeDesc}{v:Value}{es:List MapEntry}{r:Option (Nat×Value)}(h:P.underlying kt=some kd)(hf:Instr.findNow kd v es 0=some r)(w:World):(Instr.findKey kt v es).run P w=.ok r w:=by
 unfold Instr.findKey;rw[Sem.run_bind,run_underlying h];simp[hf]
def LY(P:Program)(t:TypeId):Option AV :=
 match P.info? t with
 | some i=>match i.zero with
   | some z=>Wf z
   | none=>none
 | none=>none
def ZP{P:Program}{t:TypeId}{a:AV}(h:LY P t=some a):RF a=false:=by
 unfold LY at h;split at h;split at h;exact pI h;cases h;cases h
def Uj{P:Program}{t:TypeId}{a:AV}(h:LY P t=some a)(c:Cx)(w w0:World):∃z,(zeroValue t).run P w0=.ok z w0/\Rp c w a z:=by
 unfold LY at h;split at h;rename_i i hi;split at h;rename_i z hz;exact⟨z,by simp[zeroValue,typeInfo,hi,hz],jS h c w⟩;cases h;cases h
def I9(P:Program)(s:AS)(t:TypeId)(x k:AV)(ok:Bool):Option AV :=
 match P.underlying t with
 | some (.map kt et)=>match P.underlying kt,YU k with
   | some kd,some key=>if plainKey kd=true then
       (match (match x with
         | .sc (.map none)=>some []
         | .mp id=>match s.get id with
           | some (.map es _)=>some es
           | _=>none
         | _=>none) with
       | some es=>match Xz kd key es 0 with
         | some (some (_,v))=>some (if ok then .Dd [v,.sc (.bool true)] else v)
         | some none=>(LY P et).map λz=>if ok then .Dd [z,.sc (.bool false)] else z
         | none=>none
       | none=>none) else none
   | _,_=>none
 | _=>none
def aaN(w:World)(vx:Value)(fs:List MapEntry):Prop:=(vx=.map none/\fs=[])\/∃g cl,vx=.map (some g)/\w.heap[g]?=some (.map fs.toArray cl)
def WJ{P:Program}{w:World}{t kt et:TypeId}{kd:TypeDesc}{vx vk v:Value}{fs:List MapEntry}{j:Nat}(ok:Bool)(hu:P.underlying t=some (.map kt et))(hkd:P.underlying kt=some kd)(hp:plainKey kd=true)(hm:aaN w vx fs)(hf:Instr.findNow kd vk fs 0=some (some (j,v))) :
   (Instr.lookup t vx vk ok).run P w=.ok (if ok then .tuple #[v,.bool true] else v) w:=by
 rcases hm with ⟨rfl,rfl⟩ | ⟨g,cl,rfl,hg⟩
 simp[Instr.findNow] at hf;simp only[Instr.lookup,Sem.run_bind,run_underlying hu,Result.andThen_ok,JH hg,Sem.run_pure,run_checkKey _ hkd hp,run_findKey hkd hf]
def WI{P:Program}{w:World}{t kt et:TypeId}{kd:TypeDesc}{vx vk z:Value}{fs:List MapEntry}(ok:Bool)(hu:P.underlying t=some (.map kt et))(hkd:P.underlying kt=some kd)(hp:plainKey kd=true)(hm:aaN w vx fs)(hf:Instr.findNow kd vk fs 0=some none)(hz:(zeroValue et).run P w=.ok z w) :
   (Instr.lookup t vx vk ok).run P w=.ok (if ok then .tuple #[z,.bool false] else z) w:=by
 rcases hm with ⟨rfl,rfl⟩ | ⟨g,cl,rfl,hg⟩
 simp only[Instr.lookup,Sem.run_bind,run_underlying hu,Result.andThen_ok,Sem.run_pure,run_checkKey _ hkd hp];rw[run_findKey hkd hf];simp only[Sem.run_bind,hz,Result.andThen_ok,Sem.run_pure];simp only[Instr.lookup,Sem.run_bind,run_underlying hu,Result.andThen_ok,JH hg,Sem.run_pure,run_checkKey _ hkd hp,run_findKey hkd hf,hz]
def nB{P:Program}{G:A8}{c:Cx}{w:World}{s:AS}{t:TypeId}{x k r:AV}{ok:Bool}{vx vk:Value}(hs:St G c w s)(h:I9 P s t x k ok=some r)(hx:Rp c w x vx)(hk:Rp c w k vk) :
   ∃u,(Instr.lookup t vx vk ok).run P w=.ok u w/\Rp c w r u:=by
 unfold I9 at h;split at h
 · rename_i kt et hu
   split at h
   · rename_i kd key hkd aeF
     have:=UN aeF hk;subst this;split at h
     · rename_i hp
       split at h
       · rename_i es hes
         obtain⟨fs,hfs,hm⟩:∃fs,Kp c w es fs/\aaN w vx fs:=by
           split at hes;cases hes;cases hx;exact⟨[],.nil,.inl ⟨rfl,rfl⟩⟩
           · split at hes
             · rename_i es' cl hb
               cases hes;cases hx with
               | mp hid =>
                 obtain⟨fs,hw,he⟩:=Uk hs hid hb;exact⟨fs,he,.inr ⟨_,_,rfl,hw⟩⟩
             cases hes
           cases hes
         split at h;rename_i j v hf;cases h;rcases Pa hfs hf with ⟨h1,_⟩ | ⟨j',a,v',e,f,h1,h2,h3,_⟩
         cases h1;injection h1 with h1
         injection h1 with _ h1
         subst h1;refine⟨_,WJ ok hu hkd hp hm h2,?_⟩;cases ok;exact h3;exact .Dd (vs:=[v',.bool true]) (.cons h3 (.cons (.sc rfl) .nil))
         · rename_i hf
           cases hz:LY P et with
           | none=>rw[hz] at h;cases h
           | some z =>
             rw[hz] at h;cases h;rcases Pa hfs hf with ⟨_,h2⟩ | ⟨j',a,v',e,f,h1,_⟩
             obtain⟨zv,sZ,hzp⟩:=Uj hz c w w;refine⟨_,WI ok hu hkd hp hm h2 sZ,?_⟩;cases ok;exact hzp;exact .Dd (vs:=[zv,.bool false]) (.cons hzp (.cons (.sc rfl) .nil));cases h1
         cases h
       cases h
     cases h
   cases h
 cases h
def Kl(P:Program)(s:AS)(t:TypeId)(x k v:AV):Option AS :=
 match P.underlying t with
 | some (.map kt _)=>match P.underlying kt,YU k,x with
   | some kd,some key,.mp id=>if plainKey kd=true then
       (match s.get id with
       | some (.map es cl)=>match Xz kd key es 0 with
         | some (some (j,_))=>match es[j]? with
           | some e=>some (s.put id (.map (es.set j (key,v,e.2.2)) cl))
           | none=>none
         | some none=>some (s.put id (.map (es++[(key,v,cl)]) (cl+1)))
         | none=>none
       | _=>none) else none
   | _,_,_=>none
 | _=>none
def TD{fs:List MapEntry}{j:Nat}{f g:MapEntry}{F:MapEntry->MapEntry}(h:fs[j]?=some f)(hF:F f=g):fs.toArray.modify j F=(fs.set j g).toArray:=by
 apply Array.ext';rw[List.modify_toArray];apply List.ext_getElem?;intro i;rw[List.getElem?_modify,List.getElem?_set];by_cases e:j=i;subst e;obtain⟨hl,he⟩:=List.getElem?_eq_some_iff.1 h;simp[hl,he,hF];simp[e]
def XA{P:Program}{G:A8}{c:Cx}{w:World}{s s':AS}{t:TypeId}{x k v:AV}{vx vk vv:Value}(hs:St G c w s)(h:Kl P s t x k v=some s')(hx:Rp c w x vx)(hk:Rp c w k vk)(hv:Rp c w v vv) :
   ∃w',(Instr.mapUpdate t vx vk vv).run P w=.ok () w'/\Ext c w c w'/\St G c w' s':=by
 unfold Kl at h;split at h
 · rename_i kt et hu
   split at h
   · rename_i kd key id hkd aeF
     have:=UN aeF hk;subst this;split at h
     · rename_i hp
       split at h
       · rename_i es cl hb
         cases hx with
         | @mp _ g hid =>
           obtain⟨fs,hw,he⟩:=Uk hs hid hb;split at h;rename_i j a hf;split at h;rename_i e hej;cases h;rcases Pa he hf with ⟨h1,_⟩ | ⟨j',a',v',e',f,h1,h2,h3,h4,h5,h6,h7,h8,h9,h10⟩
           cases h1;injection h1 with h1
           injection h1 with h1 _
           rw[Nat.zero_add] at h1;subst h1;rw[hej] at h4;cases h4;rw[Nat.zero_add] at h2;have aeH:fs.toArray.modify j (λe=>{ e with key:=vk,val:=vv })=(fs.set j ⟨vk,vv,e.2.2⟩).toArray:=TD h5 (by rw[<- h9])
           obtain⟨x1,st⟩:=hs.put (b:=.map (es.set j (vk,v,e.2.2)) cl) (o:=.map (fs.set j ⟨vk,vv,e.2.2⟩).toArray cl) hid (Un w g _) (UK w hw) (.map (he.set hv j));refine⟨_,?_,x1,st⟩;have aeA:=YK h10;have hfk:=run_findKey (P:=P) hkd h2 w;simp only[Instr.mapUpdate,Sem.run_bind,run_underlying hu,Result.andThen_ok,JH hw,run_checkKey _ hkd hp,hfk,List.getElem?_toArray,h5,Option.map_some,Option.getD_some,h8,Instr.keyThatStays,aeA,if_true,Sem.run_pure,aeH];exact NT _ hw;cases h;rename_i hf;cases h;rcases Pa he hf with ⟨_,h2⟩ | ⟨j',a',v',e',f,h1,_⟩
           obtain⟨x1,st⟩:=hs.put (b:=.map (es++[(vk,v,cl)]) (cl+1)) (o:=.map (fs++[(⟨vk,vv,cl⟩:MapEntry)]).toArray (cl+1)) hid (Un w g _) (UK w hw) (.map (he.snoc hv));refine⟨_,?_,x1,st⟩;have hfk:=run_findKey (P:=P) hkd h2 w;have aeJ:fs.toArray.push (⟨vk,vv,cl⟩:MapEntry)=(fs++[(⟨vk,vv,cl⟩:MapEntry)]).toArray:=by simp
           simp only[Instr.mapUpdate,Sem.run_bind,run_underlying hu,Result.andThen_ok,JH hw,run_checkKey _ hkd hp,hfk,aeJ];exact NT _ hw;cases h1;cases h
       cases h
     cases h
   cases h
 cases h
def fZ{P:Program}{G:A8}{c:Cx}{w:World}{s:AS}{t:TypeId}(hs:St G c w s) :
   ∃v' w' c',(Instr.makeMap t none).run P w=.ok v' w'/\Ext c w c' w'/\St G c' w' (s.new (.map [] 0))/\Rp c' w' (.mp s.nx) v':=by
 obtain⟨e,st⟩:=hs.new (b:=.map [] 0) (o:=.map #[] 0) (.map (fs:=[]) .nil);refine⟨.map (some w.heap.size),_,_,?_,e,st,.mp ?_⟩;simp[Instr.makeMap];simp[hs.len]
def Wr(P:Program)(s:AS)(t:TypeId)(a:AV):Option AV :=
 match P.underlying t,a with
 | some .string,.sc (.string x)=>some (.sc (.int .i64 x.data.toList.length))
 | some (.slice _),.sl _ n _=>some (.sc (.int .i64 n))
 | some (.slice _),.msl _ _ n=>some (.sc (.int .i64 n))
 | some (.map _ _),.sc (.map none)=>some (.sc (.int .i64 0))
 | some (.map _ _),.mp id=>match s.get id with
   | some (.map es _)=>some (.sc (.int .i64 es.length))
   | _=>none
 | _,_=>none
def alP{P:Program}{G:A8}{c:Cx}{w:World}{s:AS}{t ty:TypeId}{a r:AV}{v:Value}(hs:St G c w s)(h:Wr P s t a=some r)(ha:Rp c w a v):∃u,(Builtin.len_ #[t] ty #[v]).run P w=.ok u w/\Rp c w r u:=by
 unfold Wr at h;split at h;rename_i x hu;cases h;cases ha;exact⟨_,by simp[Builtin.len_,run_underlying hu,goInt],.sc rfl⟩;rename_i hu;cases h;cases ha<;>exact⟨_,by simp[Builtin.len_,run_underlying hu,goInt],.sc rfl⟩
 rename_i hu;cases h;cases ha;exact⟨_,by simp[Builtin.len_,run_underlying hu,goInt],.sc rfl⟩;rename_i hu;cases h;cases ha;exact⟨_,by simp[Builtin.len_,run_underlying hu,goInt],.sc rfl⟩
 · rename_i hu
   split at h
   · rename_i es cl hb
     cases h;cases ha with
     | mp hid =>
       obtain⟨fs,hw,he⟩:=Uk hs hid hb;exact⟨_,by simp[Builtin.len_,run_underlying hu,JH hw,he.len,goInt],.sc rfl⟩
   cases h
 cases h
def Jr(P:Program)(s:AS)(t:TypeId)(l c:AV):Option (AV×AS) :=
 match P.underlying t with
 | some (.slice elem)=>match P.info? elem,QV l,QV c with
   | some e,some n,some m=>match e.zero with
     | some z=>match LM z.cells.toList with
       | some zs=>if n=m/\n<=16777216/\n*e.bytes<=281474976710656/\zs.isEmpty=false then some (.msl s.nx 0 n,s.new (.cells ((List.range (n*e.size)).map λi=>zs.getD (i % zs.length) (.sc undef)))) else none
       | none=>none
     | none=>none
   | _,_,_=>none
 | _=>none
end AI
