/- Part of a proof: see the last text. -/
import Derived.Test.YtpbkhogolfegfaaGreatDoorPtb
import Derived.Lib.Strings
set_option linter.unusedVariables false
set_option linter.unusedSimpArgs false
set_option linter.defProp false
noncomputable section
namespace AI
open Go Go.RowKit
def lO{c:Cx}{w:World}{zs:List AV}{vs:List Value}(h:CG c w zs vs)(m:Nat)(hm:m≠0->zs≠[]) :
   CG c w ((List.range m).map λi=>zs.getD (i % zs.length) (.sc undef)) ((List.range m).map λi=>vs.toArray[i % vs.toArray.size]!):=by
 refine CG.ajT (by simp) (λi a v h1 h2=>?_);rw[List.getElem?_map] at h1 h2;cases hr:(List.range m)[i]? with
 | none=>rw[hr] at h1;cases h1
 | some j =>
   rw[hr] at h1 h2;simp only[Option.map_some,Option.some.injEq] at h1 h2;have hj:j < m:=List.mem_range.1 (List.mem_of_getElem? hr);have Is:=hm (by omega);have hlen:zs.length≠0:=λe=>Is (List.eq_nil_of_length_eq_zero e);have GI:j % zs.length < zs.length:=Nat.mod_lt _ (by omega);have hl:=h.len;have hg:zs[j % zs.length]?=some (zs[j % zs.length]'GI):=List.getElem?_eq_getElem GI;obtain⟨v',hv',hrv⟩:=h.get hg;rw[List.getD_eq_getElem?_getD,hg] at h1;subst h1;rw[List.size_toArray,hl] at h2
   have:vs.toArray[j % zs.length]! = v':=by
     rw[getElem!_def,List.getElem?_toArray,hv']
   rw[this] at h2;subst h2;exact hrv
def LW(P:Program)(t:TypeId)(len:Nat)(parts:List (Nat×AV)):Option AV :=
 match P.underlying t with
 | some (.slice elem)=>match P.info? elem with
   | some e=>if len*e.size<=16777216 then
       (if len*e.size=0 then (if len=0/\parts.isEmpty=true then some (.sl .full 0 []) else none) else match e.zero with
         | some z=>match LK z.cells.toList with
           | some zs=>if zs.isEmpty=true then none else (SF (λi=>some (i*e.size,e.size)) ((List.range (len*e.size)).map λi=>zs.getD (i % zs.length) (.sc undef)) parts).map (.sl .full len)
           | none=>none
         | none=>none)
     else none
   | none=>none
 | _=>none
def Xd{P:Program}{G:A6}{c:Cx}{w:World}{s:AS}{t:TypeId}{len:Nat}{ps:List (Nat×AV)}{r:AV}{qs:Array (Nat×Value)}(hs:St G c w s)(h:LW P t len ps=some r)(hp:PL c w ps qs.toList) :
   ∃u w',(Instr.buildSlice t len qs).run P w=.ok u w'/\Ext c w c w'/\St G c w' s/\Rp c w' r u:=by
 unfold LW at h;split at h
 . rename_i elem hu
   split at h
   . rename_i e he
     split at h
     . rename_i h24
       split at h;rename_i h0;split at h;rename_i hz;cases h
       have hq:qs.toList=[]:=by
         have qQ:ps=[]:=List.isEmpty_iff.1 hz.2;subst qQ;have:∀l,PL c w [] l->l=[]:=λl h=>by cases h;rfl
         exact this _ hp
       obtain⟨rfl,_⟩:=hz;obtain⟨x,st⟩:=hs.same (Nn w (.cells #[] elem));refine⟨.slice (some ⟨w.heap.size,0,none⟩) 0 0,_,?_,x,st,.Jc rfl⟩;have XX:Array.range 0=#[]:=rfl;simp[Instr.buildSlice,run_underlying hu,CE he,hq,Instr.fill,newRow,XX];cases h
       . rename_i h0
         split at h
         . rename_i z hz
           split at h
           . rename_i zs xP
             split at h;cases h
             . rename_i Is
               have qW:=Qk xP c w;have hin:=lO qW (len*e.size) (λ_ hn=>Is (by rw[hn];rfl));simp only[Array.toArray_toList] at hin;cases hf:SF (λi=>some (i*e.size,e.size)) ((List.range (len*e.size)).map λi=>zs.getD (i % zs.length) (.sc undef)) ps with
               | none=>rw[hf] at h;cases h
               | some cs =>
                 rw[hf] at h;cases h;obtain⟨us,VO,hur⟩:=Xg hf hin hp;obtain⟨x,st⟩:=hs.same (Nn w (.cells us.toArray elem));refine⟨.slice (some ⟨w.heap.size,0,none⟩) len len,_,?_,x,st,.KM (Nat.le_refl _) (A9.Ow (hur.mono x) (λi v hv=>by rw[Nat.zero_add];exact hs.agK us elem hv)) rfl⟩
                 have aaM:(Array.range (len*e.size)).map (λi=>z.cells[i % z.cells.size]!)=((List.range (len*e.size)).map λi=>z.cells[i % z.cells.size]!).toArray:=by
                   apply Array.ext';simp
                 rw[<- aaM] at VO;have aow:¬16777216 < len*e.size:=by omega
                 unfold Instr.buildSlice;simp only[Sem.run_bind,run_underlying hu,Result.andThen_ok,CE he,Sem.run_ite,gt_iff_lt,show(2:Nat) ^ 24=16777216 from rfl,aow,if_false,Sem.run_pure,h0,zeroValue,typeInfo,run_program,hz,he,VO];simp[newRow]
           cases h
         cases h
     cases h
   cases h
 cases h
def Re(P:Program)(st:TypeId)(a:AV)(k:Nat):Option AV :=
 match P.underlying st with
 | some (.struct fields)=>match fields.toList[k]? with
   | some f=>match P.info? f.type with
     | some i=>if i.size=0 then none else match a with
       | .ptr id off=>some (.ptr id (off+f.offset))
       | .el cs=>some (.el (cs.drop f.offset))
       | _=>none
     | none=>none
   | none=>none
 | _=>none
def fK{P:Program}{c:Cx}{w:World}{st:TypeId}{a r:AV}{k:Nat}{v:Value}(h:Re P st a k=some r)(ha:Rp c w a v):∃u,(Instr.fieldAt st v k).run P w=.ok u w/\Rp c w r u:=by
 unfold Re at h;split at h
 . rename_i fields hu
   split at h
   . rename_i f hf
     split at h
     . rename_i i hi
       split at h;cases h
       . rename_i h0
         have iC:fields[k]?=some f:=by rw[<- Array.getElem?_toList];exact hf
         split at h
         . cases h
           cases ha with
           | ptr hid =>
             refine⟨_,?_,.ptr hid⟩;simp[Instr.fieldAt,run_underlying hu,iC,Instr.sureAddr,fieldPlace,CE hi,h0,add_lit]
         . cases h
           cases ha with
           | el hc =>
             refine⟨_,?_,.el (hc.drop f.offset)⟩;simp[Instr.fieldAt,run_underlying hu,iC,Instr.sureAddr,fieldPlace,CE hi,h0,add_lit]
         cases h
     cases h
   cases h
 cases h
def Xf(P:Program)(st:TypeId)(a:AV)(k:Nat):Option AV :=
 match P.underlying st with
 | some (.struct fields)=>match fields.toList[k]? with
   | some f=>match a with
     | .agg cs=>apart P f.type cs f.offset
     | _=>none
   | none=>none
 | _=>none
def tR{P:Program}{c:Cx}{w:World}{st:TypeId}{a r:AV}{k:Nat}{v:Value}(h:Xf P st a k=some r)(ha:Rp c w a v)(w0:World):∃u,(Instr.field st v k).run P w0=.ok u w0/\Rp c w r u:=by
 unfold Xf at h;split at h
 . rename_i fields hu
   split at h
   . rename_i f hf
     split at h
     . cases ha with
       | agg hr =>
         have iC:fields[k]?=some f:=by rw[<- Array.getElem?_toList];exact hf
         obtain⟨u,h1,h2⟩:=Xj h hr w0;exact⟨u,by simp[Instr.field,run_underlying hu,iC,asAgg,h1],h2⟩
     cases h
   cases h
 cases h
def QY:AV->Option Nat
 | .sc (.int _ i)=>if 0<=i then some i.toNat else none
 | _=>none
def MK{c:Cx}{w:World}{a:AV}{v:Value}{n:Nat}(h:QY a=some n)(ha:Rp c w a v):∃k i,v=.int k i/\0<=i/\i.toNat=n:=by
 unfold QY at h;split at h;rename_i k i;split at h;rename_i h0;cases h;cases ha;exact⟨k,i,rfl,h0,rfl⟩;cases h;cases h
def Db(P:Program)(t:TypeId)(x ix:AV):Option AV :=
 match P.underlying t,QY ix with
 | some (.slice elem),some i=>match P.info? elem,x with
   | some e,.sl _ n cs=>if i < n then some (.el (cs.drop (i*e.size))) else none
   | some e,.ID id off n=>if i < n then some (.ptr id (off+i*e.size)) else none
   | _,_=>none
 | some (.array len elem),some i=>match P.info? elem,x with
   | some e,.ptr id off=>if i < len then some (.ptr id (off+i*e.size)) else none
   | some e,.el cs=>if i < len then some (.el (cs.drop (i*e.size))) else none
   | _,_=>none
 | _,_=>none
def fL{P:Program}{c:Cx}{w:World}{t:TypeId}{x ix r:AV}{v vi:Value}(h:Db P t x ix=some r)(hx:Rp c w x v)(hi:Rp c w ix vi):∃u,(Instr.indexAt t v vi).run P w=.ok u w/\Rp c w r u:=by
 unfold Db at h;split at h
 . rename_i elem i hu hn
   obtain⟨k,z,rfl,XX,rfl⟩:=MK hn hi;split at h
   . rename_i e n cs he
     split at h
     . rename_i GI
       cases h;have iL:z < (n:Int):=by omega
       cases hx with
       | Jc=>omega
       | KM hn hc ho =>
         refine⟨_,?_,.el (hc.drop _)⟩;simp[Instr.indexAt,asIntOf,run_underlying hu,XX,iL,CE he,add_lit]
     cases h
   . rename_i e id off n he
     split at h
     . rename_i GI
       cases h;have iL:z < (n:Int):=by omega
       cases hx with
       | ID hn hid =>
         refine⟨_,?_,.ptr hid⟩;simp[Instr.indexAt,asIntOf,run_underlying hu,XX,iL,CE he,add_lit]
     cases h
   cases h
 . rename_i len elem i hu hn
   obtain⟨k,z,rfl,XX,rfl⟩:=MK hn hi;split at h
   . rename_i e id off he
     split at h
     . rename_i GI
       cases h;have iL:z < (len:Int):=by omega
       cases hx with
       | ptr hid =>
         refine⟨_,?_,.ptr hid⟩;simp[Instr.indexAt,asIntOf,run_underlying hu,XX,iL,CE he,add_lit,Instr.sureAddr]
     cases h
   . rename_i e cs he
     split at h
     . rename_i GI
       cases h;have iL:z < (len:Int):=by omega
       cases hx with
       | el hc =>
         refine⟨_,?_,.el (hc.drop _)⟩;simp[Instr.indexAt,asIntOf,run_underlying hu,XX,iL,CE he,add_lit,Instr.sureAddr]
     cases h
   cases h
 cases h
def Ln(P:Program)(t:TypeId)(x ix:AV):Option AV :=
 match P.underlying t,QY ix with
 | some (.array len elem),some i=>match P.info? elem,x with
   | some e,.agg cs=>if i < len then apart P elem cs (i*e.size) else none
   | _,_=>none
 | some .string,some i=>match x with
   | .sc (.string s)=>match s.data.toList[i]? with
     | some b=>some (.sc (.int .u8 b.toNat))
     | none=>none
   | _=>none
 | _,_=>none
def tS{P:Program}{c:Cx}{w:World}{t:TypeId}{x ix r:AV}{v vi:Value}(h:Ln P t x ix=some r)(hx:Rp c w x v)(hi:Rp c w ix vi)(w0:World):∃u,(Instr.index t v vi).run P w0=.ok u w0/\Rp c w r u:=by
 unfold Ln at h;split at h
 . rename_i len elem i hu hn
   obtain⟨k,z,rfl,XX,rfl⟩:=MK hn hi;split at h
   . rename_i e cs he
     split at h
     . rename_i GI
       have iL:z < (len:Int):=by omega
       cases hx with
       | agg hr =>
         obtain⟨u,h1,h2⟩:=Xj h hr w0;exact⟨u,by simp[Instr.index,asIntOf,run_underlying hu,XX,iL,CE he,h1],h2⟩
     cases h
   cases h
 rename_i i hu hn;obtain⟨k,z,rfl,XX,rfl⟩:=MK hn hi;split at h;rename_i s;split at h;rename_i b hb;cases h;cases hx;refine⟨_,?_,.sc rfl⟩
 have Wf:s[z.toNat]?=some b:=by
   rw[<- hb];have GI:=(List.getElem?_eq_some_iff.1 hb).1;have ZQ:z.toNat < s.size:=by simpa using GI
   rw[getElem?_pos s z.toNat ZQ,List.getElem?_eq_getElem GI];rfl
 simp[Instr.index,asIntOf,run_underlying hu,XX,Wf];cases h;cases h;cases h
def Rc(x:AV)(k:Nat):Option AV :=
 match x with
 | .Dk vs=>vs[k]?
 | _=>none
def fJ{P:Program}{c:Cx}{w:World}{x r:AV}{k:Nat}{v:Value}(h:Rc x k=some r)(hx:Rp c w x v)(w0:World):∃u,(Instr.extract v k).run P w0=.ok u w0/\Rp c w r u:=by
 unfold Rc at h;split at h
 . cases hx with
   | Dk hr =>
     obtain⟨u,h1,h2⟩:=hr.get h;exact⟨u,by simp[Instr.extract,h1],h2⟩
 cases h
end AI
namespace AI
open Go Go.RowKit
def YD:AV->Option Value
 | .sc v=>some v
 | _=>none
def OG:List AV->Option (List Value)
 | []=>some []
 | a::as=>match YD a,OG as with
   | some v,some vs=>some (v::vs)
   | _,_=>none
def UH:AV->Option Value
 | .sc v=>some v
 | .agg cs=>(OG cs).map λl=>.agg l.toArray
 | _=>none
def UG{c:Cx}{w:World}{a:AV}{v u:Value}(h:YD a=some v)(ha:Rp c w a u):u=v:=by
 unfold YD at h;split at h;cases h;cases ha;rfl;cases h
def YE{c:Cx}{w:World}{as:List AV}{vs us:List Value}(h:OG as=some vs)(ha:CG c w as us):us=vs:=by
 induction as generalizing vs us with
 | nil=>simp[OG] at h;subst h;cases ha;rfl
 | cons a as ih =>
   simp only[OG] at h;split at h;rename_i v vs' h1 h2;cases h;cases ha with
   | cons p q=>rw[UG h1 p,ih h2 q]
   cases h
def kG{c:Cx}{w:World}{a:AV}{v u:Value}(h:UH a=some v)(ha:Rp c w a u):u=v:=by
 unfold UH at h;split at h;cases h;cases ha;rfl
 . rename_i cs
   cases hc:OG cs with
   | none=>rw[hc] at h;cases h
   | some l =>
     rw[hc] at h;cases h;cases ha with
     | agg hr=>rw[YE hc hr]
 cases h
def Zn(v:Value):Option AV:=if scalar v then some (.sc v) else none
def dY{v:Value}{a:AV}(h:Zn v=some a)(c:Cx)(w:World):Rp c w a v:=by
 unfold Zn at h;split at h;rename_i hs;cases h;exact .sc hs;cases h
def tY(op:BinOp)(x y:ByteArray):Option Value :=
 match op with
 | .add=>if x.data.toList.length+y.data.toList.length<=9223372036854775807 then some (.string ⟨(x.data.toList++y.data.toList).toArray⟩) else none
 | .eql=>some (.bool (x.data.toList == y.data.toList))
 | .neq=>some (.bool (!(x.data.toList == y.data.toList)))
 | .lss=>some (.bool (Op.bytesLess x.data.toList y.data.toList))
 | .leq=>some (.bool (Op.bytesLess x.data.toList y.data.toList||x.data.toList == y.data.toList))
 | .gtr=>some (.bool (!(Op.bytesLess x.data.toList y.data.toList||x.data.toList == y.data.toList)))
 | .geq=>some (.bool (!(Op.bytesLess x.data.toList y.data.toList)))
 | _=>none
def SD(P:Program)(op:BinOp)(t:TypeId)(xo yo:Operand)(a b:AV):Option AV :=
 match a,b with
 | .sc (.string x),.sc (.string y)=>(tY op x y).bind Zn
 | a,b=>match UH a,UH b with
   | some u,some v=>(pv P (do eqGuard op t xo yo u v;binOp op t u v)).bind Zn
   | _,_=>none
def bL(x y:ByteArray):x++y=⟨(x.data.toList++y.data.toList).toArray⟩:=by
 apply ByteArray.ext;simp
def yA{P:Program}{c:Cx}{w:World}{op:BinOp}{t:TypeId}{xo yo:Operand}{a b r:AV}{u v:Value}(h:SD P op t xo yo a b=some r)(ha:Rp c w a u)(hb:Rp c w b v)(w0:World) :
   ∃z,(do eqGuard op t xo yo u v;binOp op t u v:Sem Value).run P w0=.ok z w0/\Rp c w r z:=by
 unfold SD at h;split at h
 . rename_i x y
   cases ha;cases hb;cases hs:tY op x y with
   | none=>rw[hs] at h;cases h
   | some z =>
     rw[hs,Option.bind_some] at h;refine⟨z,?_,dY h c w⟩;have hl1:x.data.toList.length=x.size:=by simp
     have ZQ:y.data.toList.length=y.size:=by simp
     unfold tY at hs;split at hs;split at hs;rename_i hle;cases hs;rw[hl1,ZQ] at hle
     have:¬((x.size+y.size:Nat):Int) > IntKind.i64.max:=by
       show ¬((x.size+y.size:Nat):Int) > 9223372036854775807;omega
     simp[eqGuard,binOp,Op.stringOp,bL];omega;cases hs
     all_goals first
       | (cases hs;simp[eqGuard,binOp,Op.stringOp,ByteArray.toList_eq];done)
       | (cases hs;done)
 . split at h
   . rename_i u' v' h1 h2
     have e1:=kG h1 ha;have e2:=kG h2 hb;subst e1 e2;cases hp:pv P (do eqGuard op t xo yo u v;binOp op t u v) with
     | none=>rw[hp] at h;cases h
     | some z =>
       rw[hp,Option.bind_some] at h;exact⟨z,abW _ hp w0,dY h c w⟩
   cases h
def alX:Operand->Bool
 | .const (.slice none 0 0)=>true
 | _=>false
def ad5(P:Program)(op:BinOp)(t:TypeId)(yo:Operand)(z:Bool):Option AV:=match alX yo,P.underlying t with
 | true,some (.slice _)=>(match op with
   | .eql=>some (.sc (.bool z))
   | .neq=>some (.sc (.bool (!z)))
   | _=>none)
 | _,_=>none
def Mk(P:Program)(op:BinOp)(t:TypeId)(xo yo:Operand)(a b:AV):Option AV :=
 match a with
 | .sl .nil _ _=>ad5 P op t yo true
 | .sl .nn _ _=>ad5 P op t yo false
 | a=>SD P op t xo yo a b
def bJ{P:Program}{op:BinOp}{t:TypeId}{xo yo:Operand}{z:Bool}{r:AV}{A:Option Addr}{n cap:Nat}{v:Value}(h:ad5 P op t yo z=some r)(hA:A.isNone=z)(hy:∀k,yo=.const k->v=k)(c:Cx)(w w0:World) :
   ∃q,(do eqGuard op t xo yo (.slice A n cap) v;binOp op t (.slice A n cap) v:Sem Value).run P w0=.ok q w0/\Rp c w r q:=by
 unfold ad5 at h;split at h;rename_i e hn hu
 have hv:v=.slice none 0 0:=by
   unfold alX at hn;split at hn;exact hy _ rfl;cases hn
 subst hv
 have Pd:(Op.equal t (.slice A n cap) (.slice none 0 0)).run P w0=.ok z w0:=by
   unfold Op.equal;obtain⟨d,hd⟩:∃d,Op.maxDepth=d+1:=⟨_,rfl⟩;rw[hd];unfold Op.equalIn;rw[Sem.run_bind,run_underlying hu,Result.andThen_ok];cases A with
   | none=>simp only[Option.isNone_none] at hA;subst hA;rfl
   | some a=>simp only[Option.isNone_some] at hA;subst hA;rfl
 split at h;cases h;exact⟨.bool z,by simp only[eqGuard,binOp];rw[Sem.run_bind];simp[Pd],.sc rfl⟩;cases h;exact⟨.bool !z,by simp only[eqGuard,binOp];rw[Sem.run_bind];simp[Pd],.sc rfl⟩;cases h;cases h
def ad2{P:Program}{c:Cx}{w:World}{op:BinOp}{t:TypeId}{xo yo:Operand}{a b r:AV}{u v:Value}(h:Mk P op t xo yo a b=some r)(ha:Rp c w a u)(hb:Rp c w b v)(hy:∀k,yo=.const k->v=k)(w0:World) :
   ∃z,(do eqGuard op t xo yo u v;binOp op t u v:Sem Value).run P w0=.ok z w0/\Rp c w r z:=by
 unfold Mk at h;split at h;cases ha with
 | Jc h0=>exact bJ h h0 hy c w w0
 | KM _ _ ho=>exact ho.elim
 cases ha with
 | Jc h0=>exact bJ h h0 hy c w w0
 | KM _ _ ho=>exact bJ h rfl hy c w w0
 exact yA h ha hb w0
def VK(P:Program)(s:Sem Value):Option AV:=(pv P s).bind Zn
def T6{P:Program}{s:Sem Value}{r:AV}(h:VK P s=some r)(c:Cx)(w w0:World):∃z,s.run P w0=.ok z w0/\Rp c w r z:=by
 unfold VK at h;cases hp:pv P s with
 | none=>rw[hp] at h;cases h
 | some z =>
   rw[hp,Option.bind_some] at h;exact⟨z,abW _ hp w0,dY h c w⟩
def ON(d:Nat):Option AV->Option Nat
 | none=>some d
 | some a=>QY a
inductive RO(c:Cx)(w:World):Option AV->Option Value->Prop where
 | none:RO c w none none
 | some {a:AV} {v:Value} (h:Rp c w a v):RO c w (some a) (some v)
def Nk(P:Program)(t:TypeId)(x:AV)(lo hi mx:Option AV):Option AV :=
 match P.underlying t with
 | some .string=>match x with
   | .sc (.string s)=>match mx,ON 0 lo,ON s.data.toList.length hi with
     | none,some l,some h=>if l<=h/\h<=s.data.toList.length then some (.sc (.string ⟨((s.data.toList.drop l).take (h - l)).toArray⟩)) else none
     | _,_,_=>none
   | _=>none
 | some (.slice elem)=>match P.info? elem,x with
   | some e,.sl own n cs=>match ON 0 lo,ON n hi with
     | some l,some h=>if l<=h/\h<=n/\cs.length=n*e.size then
         (match mx with
         | none=>some (.sl (if l=0/\h=n then own else if h=n/\own=.full then .full else .lost) (h - l) ((cs.drop (l*e.size)).take ((h - l)*e.size)))
         | some m=>match QY m with
           | some m=>if h=m/\hi.isSome=true then some (.sl .full (h - l) ((cs.drop (l*e.size)).take ((h - l)*e.size))) else none
           | none=>none)
       else none
     | _,_=>none
   | _,_=>none
 | _=>none
def RV(d:Nat)(o:Option Value)(n:Nat):Prop:=(o=none/\n=d)\/∃k i,o=some (.int k i)/\0<=i/\i.toNat=n
def RW{c:Cx}{w:World}{d n:Nat}{a:Option AV}{v:Option Value}(h:ON d a=some n)(ha:RO c w a v):RV d v n:=by
 cases ha with
 | none=>simp[ON] at h;exact .inl ⟨rfl,h.symm⟩
 | some h1 =>
   obtain⟨k,i,rfl,h2,h3⟩:=MK h h1;exact .inr ⟨k,i,rfl,h2,h3⟩
def JM{P:Program}(k:IntKind)(i:Int)(y:Nat)(code:BoundsCode)(w:World)(h0:0<=i)(h1:i.toNat<=y):(Instr.sliceBound (.int k i) y code).run P w=.ok i.toNat w:=by
 have:i<=(y:Int):=by omega
 simp[Instr.sliceBound,asIntOf,h0,this]
def TC{P:Program}{isSlice:Bool}{len cap l h:Nat}{lo hi:Option Value}(hlo:RV 0 lo l)(hhi:RV len hi h)(hle:l<=h)(hh:h<=cap)(w:World) :
   (Instr.sliceBounds isSlice len cap lo hi none).run P w=.ok (l,h,cap) w:=by
 rcases hlo with ⟨rfl,rfl⟩ | ⟨k,i,rfl,Pf,rfl⟩<;>rcases hhi with ⟨rfl,rfl⟩ | ⟨k',i',rfl,aaT,rfl⟩
 simp[Instr.sliceBounds];simp[Instr.sliceBounds,JM k' i' cap _ w aaT hh];simp[Instr.sliceBounds,JM k i h _ w Pf hle];simp[Instr.sliceBounds,JM k' i' cap _ w aaT hh,JM k i _ _ w Pf hle]
def j4{P:Program}{isSlice:Bool}{len cap l h:Nat}{lo hi:Option Value}{k:IntKind}{j:Int}(hlo:RV 0 lo l)(hhi:∃k i,hi=some (.int k i)/\0<=i/\i.toNat=h)(hle:l<=h)(hj:0<=j)(hh:h<=j.toNat)(hc:j.toNat<=cap)(w:World) :
   (Instr.sliceBounds isSlice len cap lo hi (some (.int k j))).run P w=.ok (l,h,j.toNat) w:=by
 obtain⟨k',i',rfl,aaT,rfl⟩:=hhi;rcases hlo with ⟨rfl,rfl⟩ | ⟨k2,i,rfl,Pf,rfl⟩
 simp[Instr.sliceBounds,JM k j cap _ w hj hc,JM k' i' _ _ w aaT hh];simp[Instr.sliceBounds,JM k j cap _ w hj hc,JM k' i' _ _ w aaT hh,JM k2 i _ _ w Pf hle]
def take_nil{c:Cx}{w:World}{g o:Nat}{cs:List AV}(l n:Nat)(h:A9 c w g o cs):A9 c w g (o+l) ((cs.drop l).take n):=(h.drop l).take n
def tW{P:Program}{c:Cx}{w:World}{t:TypeId}{x r:AV}{lo hi mx:Option AV}{v:Value}{lo' Pe mx':Option Value}(h:Nk P t x lo hi mx=some r)(hx:Rp c w x v)(hlo:RO c w lo lo')(hhi:RO c w hi Pe)(hmx:RO c w mx mx') :
   ∃u,(Instr.sliceAt t v lo' Pe mx').run P w=.ok u w/\Rp c w r u:=by
 unfold Nk at h;split at h;rename_i hu;split at h;rename_i s;split at h;rename_i l hh e1 e2;split at h;rename_i hc;cases h;cases hx;cases hmx;have b1:=RW e1 hlo;have b2:=RW e2 hhi;rw[show s.data.toList.length=s.size from by simp] at b2 hc;refine⟨_,?_,.sc rfl⟩;simp only[Instr.sliceAt,Sem.run_bind,run_underlying hu,Result.andThen_ok,Instr.slice,Option.isSome_none,Bool.false_eq_true,if_false,TC b1 b2 hc.1 hc.2,Sem.run_pure];congr 2;apply ByteArray.ext;apply Array.ext';rw[Lib.extract_data];cases h;cases h;cases h
 . rename_i elem hu
   split at h
   . rename_i e own n cs he
     split at h
     . rename_i l hh e1 e2
       split at h
       . rename_i hc
         have b1:=RW e1 hlo;have b2:=RW e2 hhi
         have Q5:∀(A:Option Addr) (cap:Nat),n<=cap->mx'=none->(Instr.sliceAt t (.slice A n cap) lo' Pe mx').run P w=.ok (.slice (if cap=l then A else A.map (·.add (l*e.size))) (hh - l) (cap - l)) w:=by
           intro A cap nD hm;subst hm;simp only[Instr.sliceAt,Sem.run_bind,run_underlying hu,Result.andThen_ok,Instr.slice,TC b1 b2 hc.1 (Nat.le_trans hc.2.1 nD),Sem.run_pure,CE he]
         split at h
         . cases h
           cases hmx;cases hx with
           | Jc h0 =>
             obtain⟨rfl,rfl⟩:l=0/\hh=0:=by omega
             refine⟨_,Q5 _ _ (Nat.zero_le _) rfl,?_⟩;simp only[List.drop_nil,List.take_nil,Nat.sub_zero,if_true,and_self];exact .Jc (h0.re (by split<;>simp))
           | KM hn Vd ho =>
             rename_i cap g o;refine⟨_,Q5 _ _ hn rfl,?_⟩;by_cases JS:l=0/\hh=n;obtain⟨rfl,rfl⟩:=JS;simp only[Nat.zero_mul,List.drop_zero,Nat.sub_zero,and_self,if_true];rw[List.take_of_length_le (by rw[hc.2.2];exact Nat.le_refl _)]
             have:(if cap=0 then some (⟨g,o,none⟩:Addr) else Option.map (λx:Addr=>x.add 0) (some ⟨g,o,none⟩))=some ⟨g,o,none⟩:=by
               split;rfl;simp[Addr.add]
             rw[this];exact .KM hn Vd ho;rw[if_neg JS];by_cases hz:hh - l=0;have cI:((cs.drop (l*e.size)).take ((hh - l)*e.size))=[]:=by rw[hz];simp
             rw[cI,hz];by_cases hf:hh=n/\own=.full;rw[if_pos hf];obtain⟨rfl,rfl⟩:=hf;have:cap=hh:=ho;exact .Jc (by show cap - l=0;omega);rw[if_neg hf];exact .Jc trivial;have Is:¬cap=l:=by omega
             rw[if_neg Is];simp only[Option.map_some,add_lit];refine .KM (by omega) ((Vd.drop _).take _) ?_;by_cases hf:hh=n/\own=.full;rw[if_pos hf];obtain⟨rfl,rfl⟩:=hf;have:cap=hh:=ho;show cap - l=hh - l;omega;rw[if_neg hf];trivial
         . rename_i m
           split at h
           . rename_i j hj
             split at h
             . rename_i hjm
               cases h;obtain⟨rfl,alK⟩:=hjm;cases hmx with
               | some hm =>
                 obtain⟨k,z,rfl,XX,iL⟩:=MK hj hm
                 have Ui:∃k i,Pe=some (.int k i)/\0<=i/\i.toNat=hh:=by
                   cases hhi with
                   | none=>cases alK
                   | some h1 =>
                     obtain⟨k,i,rfl,h2,h3⟩:=MK e2 h1;exact⟨k,i,rfl,h2,h3⟩
                 have ahz:∀(A:Option Addr) (cap:Nat),n<=cap->(Instr.sliceAt t (.slice A n cap) lo' Pe (some (.int k z))).run P w=.ok (.slice (if hh=l then A else A.map (·.add (l*e.size))) (hh - l) (hh - l)) w:=by
                   intro A cap nD;simp only[Instr.sliceAt,Sem.run_bind,run_underlying hu,Result.andThen_ok,Instr.slice,j4 b1 Ui hc.1 XX (Nat.le_of_eq iL.symm) (by rw[iL];exact Nat.le_trans hc.2.1 nD),Sem.run_pure,CE he];rw[iL]
                 cases hx with
                 | Jc h0 =>
                   obtain⟨rfl,rfl⟩:l=0/\hh=0:=by omega
                   refine⟨_,ahz _ _ (Nat.zero_le _),?_⟩;simp only[List.drop_nil,List.take_nil,Nat.sub_zero,if_true];exact .Jc rfl
                 | KM hn Vd ho =>
                   refine⟨_,ahz _ _ hn,?_⟩;by_cases hz:hh - l=0;have cI:((cs.drop (l*e.size)).take ((hh - l)*e.size))=[]:=by rw[hz];simp
                   rw[cI,hz];exact .Jc rfl;rw[if_neg (by omega)];simp only[Option.map_some,add_lit];exact .KM (Nat.le_refl _) ((Vd.drop _).take _) rfl
             cases h
           cases h
       cases h
     cases h
   cases h
 cases h
end AI
namespace AI
open Go Go.RowKit
def We(P:Program)(s:AS)(size:Nat)(tx:TypeId)(b:AV):Option (Nat×List AV) :=
 match P.underlying tx,b with
 | some (.slice _),.sl _ n cs=>if cs.length=n*size then some (n,cs) else none
 | some (.slice _),.ID id off n=>match s.get id with
   | some (.cells cs)=>if off+n*size<=cs.length then some (n,(cs.drop off).take (n*size)) else none
   | _=>none
 | some .string,.sc (.string x)=>if size=1 then some (x.data.toList.length,x.data.toList.map λb=>.sc (.int .u8 b.toNat)) else none
 | _,_=>none
def yS(c:Cx)(w:World)(l:List UInt8):CG c w (l.map λb=>.sc (.int .u8 b.toNat)) (l.map λb=>.int .u8 b.toNat):=by
 induction l with
 | nil=>exact .nil
 | cons b l ih=>exact .cons (.sc rfl) ih
structure x6(P:Program)(size:Nat)(tx:TypeId)(x:Value)(n:Nat)(news:List Value)(w:World):Prop where
 kind:(∃e',P.underlying tx=some (.slice e'))\/P.underlying tx=some .string
 len:∀w':World,(Builtin.lenOf x).run P w'=.ok n w'
 cells:∀w':World,w'.heap=w.heap->(Builtin.firstCells size n x).run P w'=.ok news.toArray w'
def bN{P:Program}{G:A6}{c:Cx}{w:World}{s:AS}{size:Nat}{tx:TypeId}{b:AV}{x:Value}{n:Nat}{cs:List AV}(hs:St G c w s)(h:We P s size tx b=some (n,cs))(hb:Rp c w b x) :
   ∃news,CG c w cs news/\news.length=n*size/\x6 P size tx x n news w:=by
 unfold We at h;split at h
 . rename_i e own n' cs' hu
   split at h
   . rename_i hl
     cases h;cases hb with
     | @Jc _ A cap _ =>
       refine⟨[],.nil,by simp,.inl ⟨_,hu⟩,λ_=>rfl,λw' _=>?_⟩;cases A with
       | none=>simp[Builtin.firstCells]
       | some a=>simp[Builtin.firstCells,loadCells,loadCellsFrom]
     | KM hn hc ho =>
       obtain⟨vs,hr,Ij⟩:=hc.vals;have hlv:=hr.len;refine⟨vs,hr,by omega,.inl ⟨_,hu⟩,λ_=>rfl,λw' hw=>?_⟩;refine run_firstCells_some w' size n _ n _ vs (by omega) (λj v hj=>?_);rw[add_lit];have:=(Ij j v hj).2.2;rw[World.cell?_of_block (w:=w) (by rw[hw])];exact this
   cases h
 . rename_i e id off n' hu
   split at h
   . rename_i cs' Wf
     split at h
     . rename_i hl
       cases h;cases hb with
       | ID hn hid =>
         obtain⟨vs,ext,T,hw,hr⟩:=Pl hs hid Wf;have hlv:=hr.len;have nG:((vs.drop off).take (n*size)).length=n*size:=by rw[List.length_take,List.length_drop];omega
         refine⟨(vs.drop off).take (n*size),(hr.drop off).take _,nG,.inl ⟨_,hu⟩,λ_=>rfl,λw' hw'=>?_⟩;refine run_firstCells_some w' size n _ n _ _ nG (λj v hj=>?_);rw[add_lit]
         have vA:vs[off+j]?=some v:=by
           rw[List.getElem?_take] at hj;split at hj;rw[List.getElem?_drop] at hj;exact hj;cases hj
         exact cell_of_heap (by rw[hw'];exact hw) (RX vA)
     cases h
   cases h
 rename_i x' hu;split at h;rename_i h1;cases h;cases hb;subst h1;refine⟨_,yS c w _,by simp,.inr hu,λ_=>by simp[Builtin.lenOf],λw' _=>?_⟩;simp only[Builtin.firstCells];rw[show x'.data.toList.length=x'.size from by simp];simp;apply Array.ext';simp;cases h;cases h
def AS.grow(s:AS)(r n:Nat):AS:=⟨s.h,s.nx,wG r n s.F,s.nr⟩
def AS.add(s:AS)(n:Nat):AS:=⟨s.h,s.nx,(s.nr,n)::s.F,s.nr+1⟩
section
variable {G:A6} {c:Cx} {w:World} {s:AS}
def St.dR(h:St G c w s){r n:Nat}(hr:D0 r s.F=some n):r < c.rows.length:=by
 rcases h.IG r n hr with h1 | ⟨g,cap,sz,h1⟩
 exact(List.getElem?_eq_some_iff.1 h1.1).1;exact(List.getElem?_eq_some_iff.1 h1).1
def Mg{l:List Rw}{r r':Nat}{x y:Rw}(h:(l.set r x)[r']?=some y):(r'=r/\y=x/\r < l.length)\/(r'≠r/\l[r']?=some y):=by
 by_cases e:r=r';subst e;have hl:=(List.getElem?_eq_some_iff.1 h).1;rw[List.length_set] at hl;rw[List.getElem?_set_self hl] at h;exact .inl ⟨rfl,(Option.some.inj h).symm,hl⟩;rw[List.getElem?_set_ne e] at h;exact .inr ⟨λx=>e x.symm,h⟩
def St.dS(h:St G c w s){r n0:Nat}(hF:D0 r s.F=some n0){w':World}{g n cap sz:Nat}{vs:Array Value}{T:TypeId}(k:Ra w w' (λx=>x=g))(hb:c.base<=g)(hp:some g∉c.CS)(GI:n0 < n)(hlh:n<=cap)(hw:w'.heap[g]?=some (.cells vs T (0,0)))(Oo:vs.size=cap*sz)
   (hg:g=w.heap.size\/(c.rows[r]?=some (.QZ g n0 cap sz)/\∀i v,i < n0*sz->w.cell? ⟨g,i,none⟩=some v->vs[i]?=some v)) :
   Ext c w { c with rows:=c.rows.set r (.QZ g n cap sz) } w'/\St G { c with rows:=c.rows.set r (.QZ g n cap sz) } w' (s.grow r n):=by
 have aqi:g < w'.heap.size:=(Array.getElem?_eq_some_iff.1 hw).1;have hrl:=h.dR hF
 have nJ:∀(r':Nat) n' BJ M7,c.rows[r']?=some (.QZ g n' BJ M7)->r'=r:=by
   intro r' n' BJ M7 hr;rcases hg with rfl | ⟨qR,_⟩
   have:=h.Mx hr;omega;exact h.Io r' r g _ _ _ _ _ _ hr qR
 have e:Ext c w { c with rows:=c.rows.set r (.QZ g n cap sz) } w':=by
   refine⟨List.prefix_refl _,by simp,λr' y hr hy=>?_,λg' i v hv=>⟨Nat.lt_of_lt_of_le hv.1 k.size,λhs=>?_,?_⟩,k.below h.PY (λx hx=>by rw[hx];exact hb),rfl,rfl,λ_ h=>.inl h,λr' g' n' BJ M7 hr=>?_,λq hq _ hr=>?_⟩;rcases Mg hy with ⟨rfl,rfl,_⟩ | ⟨_,h1⟩
   rcases h.IG r' n0 hF with ⟨h1,_⟩ | ⟨g1,an7,sz1,h1⟩
   exact⟨_,h1,.inr (.inl rfl)⟩;exact⟨_,h1,.inr (.inr ⟨_,_,_,_,rfl,GI⟩)⟩;exact⟨y,h1,Kj.refl y⟩
   . rcases hs with hs | ⟨r',n',BJ,M7,hr,h1,h2⟩ | hs
     exact hv.2.1 (.inl hs);rotate_left;exact hv.2.1 (.inr (.inr hs));rcases Mg hr with ⟨rfl,h3,_⟩ | ⟨_,h3⟩
     injection h3 with e1 e2 e3 e4
     subst e1 e2 e3 e4;rcases hg with rfl | ⟨qR,_⟩
     have:=hv.1;omega;have:=Nat.mul_le_mul_right M7 (Nat.le_of_lt GI);exact hv.2.1 (.inr (.inl ⟨r',n0,BJ,M7,qR,by omega,h2⟩));exact hv.2.1 (.inr (.inl ⟨r',n',BJ,M7,h3,h1,h2⟩))
   by_cases hgg:g'=g;subst hgg;rcases hg with rfl | ⟨qR,alz⟩
   have:=hv.1;omega
   have hi1:i < n0*sz:=by
     by_cases GI:i < n0*sz;exact GI;exfalso;obtain⟨_,_,_,_,vs0,T0,hh0,aqn⟩:=h.row r g' n0 cap sz qR;have hc:=hv.2.2;have hns:¬i < cap*sz:=λaoR=>hv.2.1 (.inr (.inl ⟨r,n0,cap,sz,qR,by omega,aoR⟩));simp[World.cell?,hh0] at hc;have:=(Array.getElem?_eq_some_iff.1 hc).1;omega
   have:=alz i v hi1 hv.2.2;simp[World.cell?,hw,this];rw[k.cell hv.1 hgg];exact hv.2.2;rcases Mg hr with ⟨rfl,h1,_⟩ | ⟨_,h1⟩
   injection h1 with e1 _
   subst e1;rcases hg with rfl | ⟨qR,_⟩
   exact .inr (Nat.le_refl _);exact .inl ⟨r',n0,_,_,qR⟩;exact .inl ⟨r',n',BJ,M7,h1⟩;refine k.block q hq (λe=>?_);subst e;rcases hg with rfl | ⟨qR,_⟩
   omega;exact hr r _ _ _ qR
 refine⟨e,⟨h.len,h.desc,h.nodup,h.low,λid g' b' h1 h2=>?_,by simp[AS.grow,h.Ix],λr' g' n' BJ M7 hr=>?_,λr' n' hr=>?_,λg hg=>Nat.lt_of_lt_of_le (h.Md g hg) k.size,λg i hb=>Nat.lt_of_lt_of_le (h.Ml g i hb) k.size,λr1 r2 g' n1 c1 s1 n2 c2 s2 hr WH=>?_,λg' cs XQ=>(h.Mq g' cs XQ).mono e,Nat.le_trans h.PY k.size⟩⟩;obtain⟨o',ho,Wf⟩:=h.box id g' b' h1 h2;exact⟨o',by rw[k.block g' (Array.getElem?_eq_some_iff.1 ho).1 (λe=>hp (by rw[<- e];exact List.mem_of_getElem? h1))];exact ho,Wf.mono e⟩;rcases Mg hr with ⟨rfl,h2,_⟩ | ⟨Is,h1⟩
 injection h2 with e1 e2 e3 e4
 subst e1 e2 e3 e4;refine⟨λi KF=>?_,hb,hp,hlh,vs,T,hw,Oo⟩;rcases hg with rfl | ⟨qR,_⟩
 have:=h.Ml _ i KF;omega;exact(h.row r' _ _ _ _ qR).1 i KF;obtain⟨a1,a2,a3,a4,vs',T',ho,a5⟩:=h.row r' g' n' BJ M7 h1
 have Is:¬g'=g:=λe=>by
   subst e;exact Is (nJ r' _ _ _ h1)
 exact⟨a1,a2,a3,a4,vs',T',by rw[k.block g' (Array.getElem?_eq_some_iff.1 ho).1 Is];exact ho,a5⟩;rcases aE hr with ⟨rfl,rfl,_⟩ | ⟨Is,h2⟩
 exact .inr ⟨g,cap,sz,List.getElem?_set_self hrl⟩;simp only;rw[List.getElem?_set_ne (λe=>Is e.symm)];exact h.IG r' n' h2;rcases Mg hr with ⟨rfl,h2,_⟩ | ⟨ZR,h1⟩<;>rcases Mg WH with ⟨rfl,h4,_⟩ | ⟨hn2,h3⟩
 rfl;injection h2 with e1
 subst e1;exact(nJ r2 _ _ _ h3).symm;injection h4 with e1
 subst e1;exact nJ r1 _ _ _ h1;exact h.Io r1 r2 g' _ _ _ _ _ _ h1 h3
def St.afM(h:St G c w s){w':World}{n cap sz:Nat}{vs:Array Value}{T:TypeId}(k:Ra w w' (λx=>x=w.heap.size))(hn:0 < n)(hlh:n<=cap)(hw:w'.heap[w.heap.size]?=some (.cells vs T (0,0)))(Oo:vs.size=cap*sz) :
   Ext c w { c with rows:=c.rows++[.QZ w.heap.size n cap sz] } w'/\St G { c with rows:=c.rows++[.QZ w.heap.size n cap sz] } w' (s.add n):=by
 obtain⟨e1,st1⟩:=h.tok
 have hl:D0 s.nr s.tok.F=some 0:=by
   simp only[AS.tok,D0];split;rfl;rename_i hb;exact absurd rfl (beq_false hb)
 have hp:some w.heap.size∉c.CS:=λhm=>by have:=h.Mw hm;omega
 obtain⟨e2,TV⟩:=st1.dS hl (g:=w.heap.size) (n:=n) (cap:=cap) (sz:=sz) k h.PY hp hn hlh hw Oo (.inl rfl)
 have hs:(c.rows++[Rw.new]).set s.nr (.QZ w.heap.size n cap sz)=c.rows++[.QZ w.heap.size n cap sz]:=by
   rw[h.Ix,List.set_append_right _ _ (Nat.le_refl _)];simp
 have hf:s.tok.grow s.nr n=s.add n:=by
   simp only[AS.tok,AS.grow,AS.add,wG];have:Nat.beq s.nr s.nr=true:=Nat.beq_refl _;rw[this]
 simp only[hs] at e2 TV;rw[hf] at TV;exact⟨e1.trans e2,TV⟩
end
end AI
namespace AI
open Go Go.RowKit
def Qv{P:Program}{w:World}{t tx ty e:TypeId}{i:TypeInfo}(ht:P.underlying t=some (.slice e))(hi:P.info? e=some i){base:Option Addr}{n cap m:Nat}{x:Value}{news:List Value}(hs:x6 P i.size tx x m news w)(Ul:n+m<=cap){w':World}
   (F4:∀a,base=some a->(storeCells (a.add (n*i.size)) news).run P w=.ok () w') (hno:base=none->w'=w) :
   (Builtin.append_ #[t,tx] ty #[.slice base n cap,x]).run P w=.ok (.slice base (n+m) cap) w':=by
 have hc:=hs.cells w rfl;cases base with
 | none =>
   have:=hno rfl;subst this;rcases hs.kind with ⟨e',hk⟩ | hk<;>simp[Builtin.append_,run_underlying ht,run_underlying hk,Go.sizeOf,typeInfo,hi,hs.len,Ul,hc]
 | some a =>
   have:=F4 a rfl;rcases hs.kind with ⟨e',hk⟩ | hk<;>simp[Builtin.append_,run_underlying ht,run_underlying hk,Go.sizeOf,typeInfo,hi,hs.len,Ul,hc,this]
def Qu{P:Program}{w:World}{t tx ty e:TypeId}{i:TypeInfo}{z:Value}(ht:P.underlying t=some (.slice e))(hi:P.info? e=some i)(hz:i.zero=some z){base:Option Addr}{n cap m:Nat}{x:Value}{olds news:List Value}(hs:x6 P i.size tx x m news w)
   (hold:(Builtin.firstCells i.size n (.slice base n cap)).run P { w with drawn:=w.drawn+1 }=.ok olds.toArray { w with drawn:=w.drawn+1 }) (hg:cap < n+m) (h63:n+m<=9223372036854775807) (hb:(n+m)*i.bytes<=140737488355328) :
   ∃BJ,n+m<=BJ/\(Builtin.append_ #[t,tx] ty #[.slice base n cap,x]).run P w=.ok (.slice (some ⟨w.heap.size,0,none⟩) (n+m) BJ) { w with drawn:=w.drawn+1,heap:=w.heap.push (.cells ((olds++news).toArray++Builtin.zeroCells z.cells (BJ - (n+m))) e) }:=by
 have hn:¬(n+m<=cap):=by omega
 have aoy:¬(9223372036854775807 < ((n:Int)+(m:Int))):=by omega
 have u9:=growslice_fits hg hb;have aox:¬(281474976710656 < Builtin.nextslicecap (n+m) cap*i.bytes):=by omega
 have hc:=hs.cells { w with drawn:=w.drawn+1 } rfl
 refine⟨(Question.appendCap (n+m) cap e).cut (w.tape w.drawn (.appendCap (n+m) cap e)),by simp[Question.cut],?_⟩;have hc2:(Builtin.firstCells i.size m x).run P w.drew=.ok news.toArray w.drew:=hc;have alC:(Builtin.firstCells i.size n (.slice base n cap)).run P w.drew=.ok olds.toArray w.drew:=hold
 have aaM:olds.toArray++(news.toArray++Builtin.zeroCells z.cells ((Question.appendCap (n+m) cap e).cut (w.tape w.drawn (.appendCap (n+m) cap e)) - (n+m)))=(olds++news).toArray++Builtin.zeroCells z.cells ((Question.appendCap (n+m) cap e).cut (w.tape w.drawn (.appendCap (n+m) cap e)) - (n+m)):=by
   apply Array.ext';simp
 rcases hs.kind with ⟨e',hk⟩ | hk <;>
   (simp[Builtin.append_,run_underlying ht,run_underlying hk,Go.sizeOf,typeInfo,zeroValue,hi,hz,hs.len,hn,aoy,aox,Question.forced,hc2,alC,newRow]
    rw[aaM];rfl)
def NC(sz:Nat)(F:List (Nat×Nat))(n:Nat):Own->Bool
 | .full=>true
 | .row r z=>z == sz&&(match D0 r F with | some k=>k == n | none=>false)
 | _=>false
def ahO(s:AS)(sz:Nat):Own->Own
 | .row r _=>.row r sz
 | _=>.row s.nr sz
def AS.to(s:AS)(n:Nat):Own->AS
 | .row r _=>s.grow r n
 | _=>s.add n
def KN(P:Program)(s:AS)(t tx:TypeId)(a b:AV):Option (AV×AS) :=
 match P.underlying t with
 | some (.slice e)=>match P.info? e with
   | some i=>match i.zero with
     | some z=>if z.cells.size=i.size/\0 < i.size then (match a,We P s i.size tx b with
       | .sl own n cs,some (m,ns)=>if cs.length=n*i.size/\ns.all one=true/\(n+m)*i.bytes<=140737488355328/\n+m<=9223372036854775807 then
           (if m=0 then some (.sl own n cs,s)
            else if NC i.size s.F n own=true then some (.sl (ahO s i.size own) (n+m) (cs++ns),s.to (n+m) own) else none)
         else none
       | _,_=>none) else none
     | none=>none
   | none=>none
 | _=>none
def VN{P:Program}{c:Cx}{w:World}{own:Own}{n size:Nat}{cs:List AV}{v:Value}(h:Rp c w (.sl own n cs) v)(hl:cs.length=n*size) :
   ∃base cap olds,v=.slice base n cap/\n<=cap/\CG c w cs olds/\olds.length=n*size/\∀w':World,w'.heap=w.heap->(Builtin.firstCells size n (.slice base n cap)).run P w'=.ok olds.toArray w':=by
 cases h with
 | @Jc _ A cap h0 =>
   refine⟨A,cap,[],rfl,Nat.zero_le _,.nil,by simp,λw' _=>?_⟩;cases A with
   | none=>simp[Builtin.firstCells]
   | some a=>simp[Builtin.firstCells,loadCells,loadCellsFrom]
 | @KM _ _ cap g o _ hn hc ho =>
   obtain⟨vs,hr,Ij⟩:=hc.vals;have hlv:=hr.len;refine⟨_,cap,vs,rfl,hn,hr,by omega,λw' hw=>run_firstCells_some w' size n _ n _ vs (by omega) (λj v hj=>?_)⟩;rw[add_lit,World.cell?_of_block (w:=w) (by rw[hw])];exact(Ij j v hj).2.2
def aV{c:Cx}{w':World}{g n m sz cap:Nat}{T:TypeId}{all olds news:List Value}{rows:List Rw}(hw:w'.heap[g]?=some (.cells all.toArray T (0,0)))(JS:∀(j:Nat) v,(olds++news)[j]?=some v->all[j]?=some v)(hp:some g∉c.CS)(hb:∀i,¬c.bad g i)
   (hol:olds.length=n*sz) (Vf:news.length=m*sz) (MN:∀(r:Nat) n' BJ M7,rows[r]?=some (.QZ g n' BJ M7)->n'=n+m/\BJ=cap/\M7=sz) {j:Nat} {v:Value} (hj:(olds++news)[j]?=some v):LD { c with rows:=rows } w' g j v:=by
 have hjl:=(List.getElem?_eq_some_iff.1 hj).1;rw[List.length_append] at hjl;refine⟨(Array.getElem?_eq_some_iff.1 hw).1,λhs=>?_,cell_of_heap hw (JS j v hj)⟩;rcases hs with hs | ⟨r,n',BJ,M7,hr,h1,h2⟩ | hs
 exact hp hs;obtain⟨rfl,rfl,rfl⟩:=MN r n' BJ M7 hr;rw[Nat.add_mul] at h1;omega;exact hb j hs
def l9{P:Program}{G:A6}{c:Cx}{w:World}{s s':AS}{t tx ty:TypeId}{a b r:AV}{va vb:Value}(hs:St G c w s)(h:KN P s t tx a b=some (r,s'))(ha:Rp c w a va)(hb:Rp c w b vb) :
   ∃u w' c',(Builtin.append_ #[t,tx] ty #[va,vb]).run P w=.ok u w'/\Ext c w c' w'/\St G c' w' s'/\Rp c' w' r u:=by
 unfold KN at h;split at h
 . rename_i e ht
   split at h
   . rename_i i hi
     split at h
     . rename_i z hz
       split at h
       . rename_i xP
         split at h
         . rename_i own n cs m ns ai9
           split at h
           . rename_i hc
             obtain⟨news,xN,Vf,hsi⟩:=bN hs ai9 hb;split at h;rename_i hm;cases h;subst hm;have cI:news=[]:=List.eq_nil_of_length_eq_zero (by simpa using Vf)
             subst cI;obtain⟨base,cap,olds,rfl,nD,_,_,_⟩:=VN (P:=P) (size:=i.size) ha hc.1;refine⟨.slice base n cap,w,c,?_,Ext.refl c w,hs,ha⟩;exact Qv ht hi hsi (by omega) (λa _=>by simp[storeCells]) (λ_=>rfl)
             . rename_i hm
               split at h
               . rename_i OW
                 cases h;obtain⟨base,cap,olds,rfl,nD,hor,hol,hfc⟩:=VN (P:=P) (size:=i.size) ha hc.1;by_cases Ul:n+m<=cap
                 . cases ha with
                   | Jc h0 =>
                     exfalso;cases own with
                     | full=>have:cap=0:=h0;omega
                     | row r z=>have:cap=0:=h0.1;omega
                     | lost=>simp[NC] at OW
                     | nil=>simp[NC] at OW
                     | nn=>simp[NC] at OW
                   | @KM _ _ _ g o _ hn Vd ho =>
                     cases own with
                     | full=>exfalso;have:cap=n:=ho;omega
                     | lost=>simp[NC] at OW
                     | nil=>simp[NC] at OW
                     | nn=>simp[NC] at OW
                     | row r0 sz =>
                       simp only[NC,Bool.and_eq_true,beq_iff_eq] at OW;obtain⟨rfl,hF⟩:=OW
                       have hF:D0 r0 s.F=some n:=by
                         split at hF;rename_i k hk;rw[hk,beq_iff_eq.1 hF];cases hF
                       obtain⟨rfl,hlen,aql,nI,alH⟩:=ho;rcases hs.IG r0 n hF with ⟨h1,_⟩ | ⟨g',BJ,M7,MN⟩
                       exact absurd h1 nI;obtain⟨rfl,rfl,rfl⟩:=(alH _ _ _ _ MN).2 rfl;obtain⟨hgb,hbg,hgp,hlh,mK,T,aeJ,aoE⟩:=hs.row r0 g' _ _ _ MN;have u9:n*i.size+news.length<=mK.size:=by rw[Vf,aoE,<- Nat.add_mul];exact Nat.mul_le_mul_right _ Ul
                       have F4:=run_storeCells_at P g' (n*i.size) T news 0 mK w aeJ (by simpa using u9) (WS xN hc.2.1)
                       simp only[Nat.add_zero] at F4;have Lu:=setRow_heap w g' mK (mK.toList.take (n*i.size)++news++mK.toList.drop (n*i.size+news.length)).toArray T (0,0) aeJ
                       have aoC:mK.toList.take (n*i.size)=olds:=by
                         obtain⟨vs,hr,Ij⟩:=Vd.vals;have h1:=hfc w rfl;have h2:=run_firstCells_some (P:=P) w i.size n ⟨g',0,none⟩ n BJ vs (by rw[hr.len];exact hc.1) (λj v hj=>by rw[add_lit];exact(Ij j v hj).2.2);rw[h1] at h2;injection h2 with h2 _
                         have h3:olds=vs:=by simpa using congrArg Array.toList h2
                         subst h3;apply List.ext_getElem?;intro j;rw[List.getElem?_take];by_cases hj:j < n*i.size;rw[if_pos hj];have vA:j < olds.length:=by omega
                         have:=(Ij j _ (List.getElem?_eq_getElem vA)).2.2;rw[Nat.zero_add] at this;simp only[World.cell?,aeJ] at this;rw[List.getElem?_eq_getElem vA,Array.getElem?_toList];simpa using this
                         rw[if_neg hj,List.getElem?_eq_none (by omega)]
                       obtain⟨x,st⟩:=hs.dS hF (g:=g') (n:=n+m) (cap:=BJ) (sz:=i.size) (T:=T) (He w g' (mK.toList.take (n*i.size)++news++mK.toList.drop (n*i.size+news.length)).toArray) hbg hgp (by omega) Ul Lu (by simp only[List.size_toArray,List.length_append,List.length_take,List.length_drop,Array.length_toList];omega)
                         (.inr ⟨MN,λj v hj hv=>by
                           rw[List.getElem?_toArray,List.append_assoc,List.getElem?_append_left (by rw[List.length_take,Array.length_toList];omega),List.getElem?_take,if_pos hj];simpa[World.cell?,aeJ] using hv⟩)
                       refine⟨_,_,_,Qv ht hi hsi Ul (λa ha=>by cases ha;rw[add_lit,Nat.zero_add];exact F4) (λh=>by cases h),x,st,?_⟩;have hrl:=hs.dR hF;refine .KM Ul (A9.Ow ((hor.append xN).mono x) (λj v hj=>?_)) ⟨rfl,by rw[List.length_append,hc.1,<- xN.len,Vf,Nat.add_mul],by simpa using hrl,λh2=>?_,λg2 n2 c2 s2 h2=>?_⟩
                       rw[Nat.zero_add];refine aV (olds:=olds) (news:=news) (cap:=BJ) Lu (λj v hj=>?_) hgp hgb hol Vf (λr n' ap7 aqt hr=>?_) hj;rw[<- aoC] at hj;have hjl:=(List.getElem?_eq_some_iff.1 hj).1;rw[List.getElem?_append_left hjl];exact hj;rcases Mg hr with ⟨rfl,h1,_⟩ | ⟨Is,h1⟩
                       injection h1 with _ e2 e3 e4
                       exact⟨e2,e3,e4⟩;exact absurd (hs.Io r r0 g' _ _ _ _ _ _ h1 MN) Is;simp only at h2;rw[List.getElem?_set_self hrl] at h2;cases h2;simp only at h2;rw[List.getElem?_set_self hrl] at h2;injection h2 with h2
                       injection h2 with e1 e2 e3 e4
                       subst e1 e2 e3 e4;exact⟨Nat.le_refl _,λ_=>⟨rfl,rfl,rfl⟩⟩
                 . obtain⟨BJ,XN,Q5⟩:=Qu (ty:=ty) ht hi hz hsi (hfc { w with drawn:=w.drawn+1 } rfl) (by omega) hc.2.2.2 hc.2.2.1
                   have hzc:(Builtin.zeroCells z.cells (BJ - (n+m))).size=(BJ - (n+m))*i.size:=by rw[size_zeroCells,xP.1]
                   have hk:Ra w { w with drawn:=w.drawn+1,heap:=w.heap.push (.cells ((olds++news).toArray++Builtin.zeroCells z.cells (BJ - (n+m))) e) } (λx=>x=w.heap.size) :=
                     ⟨rfl,rfl,rfl,by simp,λk hk _=>by simp[Array.getElem?_push];intro h;omega⟩
                   have Lu:({ w with drawn:=w.drawn+1,heap:=w.heap.push (.cells ((olds++news).toArray++Builtin.zeroCells z.cells (BJ - (n+m))) e) }:World).heap[w.heap.size]?=some (.cells ((olds++news).toArray++Builtin.zeroCells z.cells (BJ - (n+m))) e (0,0)):=by simp
                   have alB:({ w with drawn:=w.drawn+1,heap:=w.heap.push (.cells ((olds++news).toArray++Builtin.zeroCells z.cells (BJ - (n+m))) e) }:World).heap[w.heap.size]?=some (.cells ((olds++news)++(Builtin.zeroCells z.cells (BJ - (n+m))).toList).toArray e (0,0)):=by
                     rw[Lu];congr 2;apply Array.ext';simp
                   have hpn:some w.heap.size∉c.CS:=λhm=>by have:=hs.Mw hm;omega
                   have hbn:∀i,¬c.bad w.heap.size i:=λi hb=>by have:=hs.Ml _ i hb;omega
                   have Oo:((olds++news).toArray++Builtin.zeroCells z.cells (BJ - (n+m))).size=BJ*i.size:=by
                     simp only[Array.size_append,List.size_toArray,List.length_append,hol,Vf,hzc,<- Nat.add_mul];congr 1;omega
                   have alG:∀(r:Nat) n' c' s',c.rows[r]?≠some (.QZ w.heap.size n' c' s'):=λr n' c' s' hr=>by have:=hs.Mx hr;omega
                   have fin:∀(rows:List Rw) (r:Nat),rows[r]?=some (.QZ w.heap.size (n+m) BJ i.size)->(∀(r':Nat) n' c' s',rows[r']?=some (.QZ w.heap.size n' c' s')->n'=n+m/\c'=BJ/\s'=i.size)->Ext c w { c with rows:=rows } { w with drawn:=w.drawn+1,heap:=w.heap.push (.cells ((olds++news).toArray++Builtin.zeroCells z.cells (BJ - (n+m))) e) } ->
                       Rp { c with rows:=rows } { w with drawn:=w.drawn+1,heap:=w.heap.push (.cells ((olds++news).toArray++Builtin.zeroCells z.cells (BJ - (n+m))) e) } (.sl (.row r i.size) (n+m) (cs++ns)) (.slice (some ⟨w.heap.size,0,none⟩) (n+m) BJ):=by
                     intro rows r hr JS x;refine .KM XN (A9.Ow ((hor.append xN).mono x) (λj v hj=>?_)) ⟨rfl,by rw[List.length_append,hc.1,<- xN.len,Vf,Nat.add_mul],(List.getElem?_eq_some_iff.1 hr).1,λh2=>?_,λg2 n2 c2 s2 h2=>?_⟩;rw[Nat.zero_add];refine aV (olds:=olds) (news:=news) (cap:=BJ) alB (λj v hj=>?_) hpn hbn hol Vf JS hj;rw[List.getElem?_append_left (List.getElem?_eq_some_iff.1 hj).1];exact hj;simp only at h2;rw[hr] at h2;cases h2;simp only at h2;rw[hr] at h2;injection h2 with h2
                     injection h2 with e1 e2 e3 e4
                     subst e1 e2 e3 e4;exact⟨Nat.le_refl _,λ_=>⟨rfl,rfl,rfl⟩⟩
                   have afN:∀r sz,NC i.size s.F n (.row r sz)=true->∃u w' c',(Builtin.append_ #[t,tx] ty #[.slice base n cap,vb]).run P w=.ok u w'/\Ext c w c' w'/\St G c' w' (s.grow r (n+m))/\Rp c' w' (.sl (.row r i.size) (n+m) (cs++ns)) u:=by
                     intro r sz OW;simp only[NC,Bool.and_eq_true,beq_iff_eq] at OW
                     have hF:D0 r s.F=some n:=by
                       have hF:=OW.2;split at hF;rename_i k hk;rw[hk,beq_iff_eq.1 hF];cases hF
                     have hrl:=hs.dR hF;obtain⟨x,st⟩:=hs.dS hF (g:=w.heap.size) (n:=n+m) (cap:=BJ) (sz:=i.size) (T:=e) hk hs.PY hpn (by omega) XN Lu Oo (.inl rfl);refine⟨_,_,_,Q5,x,st,fin _ r (List.getElem?_set_self hrl) (λr' n' c' s' hr=>?_) x⟩;rcases Mg hr with ⟨rfl,h1,_⟩ | ⟨Is,h1⟩
                     injection h1 with _ e2 e3 e4
                     exact⟨e2,e3,e4⟩;exact absurd h1 (alG _ _ _ _)
                   cases own with
                   | lost=>simp[NC] at OW
                   | nil=>simp[NC] at OW
                   | nn=>simp[NC] at OW
                   | row r sz=>exact afN r sz OW
                   | full =>
                     obtain⟨x,st⟩:=hs.afM (n:=n+m) (cap:=BJ) (sz:=i.size) (T:=e) hk (by omega) XN Lu Oo;refine⟨_,_,_,Q5,x,st,fin _ s.nr (by rw[hs.Ix];exact List.getElem?_concat_length) (λr' n' c' s' hr=>?_) x⟩;by_cases Y2:r' < c.rows.length;rw[List.getElem?_append_left Y2] at hr;exact absurd hr (alG _ _ _ _);have hl:=(List.getElem?_eq_some_iff.1 hr).1;simp at hl;have:r'=c.rows.length:=by omega
                     subst this;rw[List.getElem?_concat_length] at hr;injection hr with hr
                     injection hr with _ e2 e3 e4
                     exact⟨e2.symm,e3.symm,e4.symm⟩
               cases h
           cases h
         cases h
       cases h
     cases h
   cases h
 cases h
end AI
namespace AI
open Go Go.RowKit
def plainKey:TypeDesc->Bool
 | .int _ | .string | .bool=>true
 | _=>false
def Ys:TypeDesc->Value->Value->Option Bool
 | .int _,.int k a,.int k' b=>if k=k' then some (a == b) else none
 | .string,.string a,.string b=>some (a.data.toList == b.data.toList)
 | .bool,.bool a,.bool b=>some (a == b)
 | _,_,_=>none
def yJ(a b:ByteArray):(a == b)=(a.data.toList == b.data.toList):=by
 obtain⟨⟨a⟩⟩:=a;obtain⟨⟨b⟩⟩:=b;show((⟨a⟩:Array UInt8) == ⟨b⟩)=(a == b);simp
def Yu(d:TypeDesc)(a b:Value):Instr.sameNow d a b=Ys d a b:=by
 unfold Ys;split<;>simp_all [Instr.sameNow,yJ]
def Yt{d:TypeDesc}{a b:Value}(h:Ys d a b=some true):Instr.sameBits 10000 b a=true:=by
 unfold Ys at h;split at h;split at h;rename_i e;subst e;simp at h;subst h;simp[Instr.sameBits];cases h;rename_i x y;simp only[Option.some.injEq,beq_iff_eq] at h;simp[Instr.sameBits,yJ,h];simp at h;subst h;simp[Instr.sameBits];cases h
def Xh(d:TypeDesc)(k:Value):List (Value×AV×Nat)->Nat->Option (Option (Nat×AV))
 | [],_=>some none
 | e::es,i=>match Ys d k e.1 with
   | some true=>some (some (i,e.2.1))
   | some false=>Xh d k es (i+1)
   | none=>none
def Pg{c:Cx}{w:World}{d:TypeDesc}{k:Value}{es:List (Value×AV×Nat)}{fs:List MapEntry}(h:Ki c w es fs){i:Nat}{r:Option (Nat×AV)}(hf:Xh d k es i=some r) :
   (r=none/\Instr.findNow d k fs i=some none)\/∃j a v e f,r=some (i+j,a)/\Instr.findNow d k fs i=some (some (i+j,v))/\Rp c w a v/\es[j]?=some e/\fs[j]?=some f/\e.2.1=a/\f.val=v/\f.key=e.1/\f.born=e.2.2/\Ys d k e.1=some true:=by
 induction h generalizing i r with
 | nil=>simp[Xh] at hf;subst hf;exact .inl ⟨rfl,rfl⟩
 | @cons k' a v b es fs h1 _ ih =>
   simp only[Xh] at hf;split at hf;rename_i hs;cases hf;refine .inr ⟨0,a,v,(k',a,b),⟨k',v,b⟩,rfl,?_,h1,rfl,rfl,rfl,rfl,rfl,rfl,hs⟩;simp only[Instr.findNow,Yu,hs,Nat.add_zero];rename_i hs;rcases ih hf with ⟨h2,h3⟩ | ⟨j,a',v',e,f,h2,h3,h4,h5,h6,h7⟩
   refine .inl ⟨h2,?_⟩;simp only[Instr.findNow,Yu,hs];exact h3;refine .inr ⟨j+1,a',v',e,f,by rw[h2];congr 2;omega,?_,h4,by simpa using h5,by simpa using h6,h7⟩
   simp only[Instr.findNow,Yu,hs];rw[h3];congr 3;omega;cases hf
def Ki.set{c:Cx}{w:World}{es:List (Value×AV×Nat)}{fs:List MapEntry}(h:Ki c w es fs){k:Value}{a:AV}{v:Value}{b:Nat}(hr:Rp c w a v)(i:Nat):Ki c w (es.set i (k,a,b)) (fs.set i ⟨k,v,b⟩):=by
 induction h generalizing i with
 | nil=>exact .nil
 | cons h1 t ih =>
   cases i with
   | zero=>exact .cons hr t
   | succ i=>exact .cons h1 (ih i)
def Ki.snoc{c:Cx}{w:World}{es:List (Value×AV×Nat)}{fs:List MapEntry}(h:Ki c w es fs){k:Value}{a:AV}{v:Value}{b:Nat}(hr:Rp c w a v):Ki c w (es++[(k,a,b)]) (fs++[⟨k,v,b⟩]):=by
 induction h with
 | nil=>exact .cons hr .nil
 | cons h1 _ ih=>exact .cons h1 ih
def Ki.len{c:Cx}{w:World}{es:List (Value×AV×Nat)}{fs:List MapEntry}(h:Ki c w es fs):fs.length=es.length:=by
 induction h with
 | nil=>rfl
 | cons _ _ ih=>simp[ih]
def T9{G:A6}{c:Cx}{w:World}{s:AS}(hs:St G c w s){id g:Nat}{es:List (Value×AV×Nat)}{clock:Nat}(hid:c.CS[id]?=some (some g))(hb:s.get id=some (.map es clock)):∃fs,w.heap[g]?=some (.map fs.toArray clock)/\Ki c w es fs:=by
 obtain⟨o,ho,u4⟩:=hs.box id g _ hid hb;cases u4 with
 | map h1=>exact⟨_,ho,h1⟩
def Jz{P:Program}{w:World}{g:Nat}{es:Array MapEntry}{cl:Nat}(h:w.heap[g]?=some (.map es cl)):(getObj g).run P w=.ok (.map es cl) w:=by simp[getObj,Sem.run,h]
def NW{P:Program}{w:World}{g:Nat}{es:Array MapEntry}{cl:Nat}(o:Obj)(h:w.heap[g]?=some (.map es cl)):(setObj g o).run P w=.ok () { w with heap:=w.heap.setIfInBounds g o }:=by simp[setObj,Sem.run,h]
def Uc(w:World)(g:Nat)(o:Obj):Ra w { w with heap:=w.heap.setIfInBounds g o } (λx=>x=g) :=
 ⟨rfl,rfl,rfl,by simp,λk _ Is=>by simp only;rw[Array.getElem?_setIfInBounds_ne (λe=>Is e.symm)]⟩
def UB(w:World){g:Nat}{o o':Obj}(h:w.heap[g]?=some o'):({ w with heap:=w.heap.setIfInBounds g o }:World).heap[g]?=some o:=by
 have:=(Array.getElem?_eq_some_iff.1 h).1;simp[this]
def run_checkKey{P:Program}{kt:TypeId}{kd:TypeDesc}{v:Value}(b:Bool)(h:P.underlying kt=some kd)(hp:plainKey kd=true)(w:World):(Instr.checkKey b 10000 kt v).run P w=.ok () w:=by
 unfold Instr.checkKey;rw[Sem.run_bind,run_underlying h];cases kd<;>first | (simp[plainKey] at hp;done) | rfl
def run_findKey{P:Program}{kt:TypeId}{kd:TypeDesc}{v:Value}{es:List MapEntry}{r:Option (Nat×Value)}(h:P.underlying kt=some kd)(hf:Instr.findNow kd v es 0=some r)(w:World):(Instr.findKey kt v es).run P w=.ok r w:=by
 unfold Instr.findKey;rw[Sem.run_bind,run_underlying h];simp[hf]
def LY(P:Program)(t:TypeId):Option AV :=
 match P.info? t with
 | some i=>match i.zero with
   | some z=>V0 z
   | none=>none
 | none=>none
def Zx{P:Program}{t:TypeId}{a:AV}(h:LY P t=some a):RB a=false:=by
 unfold LY at h;split at h;split at h;exact n8 h;cases h;cases h
def T8{P:Program}{t:TypeId}{a:AV}(h:LY P t=some a)(c:Cx)(w w0:World):∃z,(zeroValue t).run P w0=.ok z w0/\Rp c w a z:=by
 unfold LY at h;split at h;rename_i i hi;split at h;rename_i z hz;exact⟨z,by simp[zeroValue,typeInfo,hi,hz],jB h c w⟩;cases h;cases h
def IV(P:Program)(s:AS)(t:TypeId)(x k:AV)(ok:Bool):Option AV :=
 match P.underlying t with
 | some (.map kt et)=>match P.underlying kt,YD k with
   | some kd,some key=>if plainKey kd=true then
       (match (match x with
         | .sc (.map none)=>some []
         | .mp id=>match s.get id with
           | some (.map es _)=>some es
           | _=>none
         | _=>none) with
       | some es=>match Xh kd key es 0 with
         | some (some (_,v))=>some (if ok then .Dk [v,.sc (.bool true)] else v)
         | some none=>(LY P et).map λz=>if ok then .Dk [z,.sc (.bool false)] else z
         | none=>none
       | none=>none) else none
   | _,_=>none
 | _=>none
def xZ(w:World)(vx:Value)(fs:List MapEntry):Prop:=(vx=.map none/\fs=[])\/∃g cl,vx=.map (some g)/\w.heap[g]?=some (.map fs.toArray cl)
def Wt{P:Program}{w:World}{t kt et:TypeId}{kd:TypeDesc}{vx vk v:Value}{fs:List MapEntry}{j:Nat}(ok:Bool)(hu:P.underlying t=some (.map kt et))(Y9:P.underlying kt=some kd)(hp:plainKey kd=true)(hm:xZ w vx fs)(hf:Instr.findNow kd vk fs 0=some (some (j,v))) :
   (Instr.lookup t vx vk ok).run P w=.ok (if ok then .tuple #[v,.bool true] else v) w:=by
 rcases hm with ⟨rfl,rfl⟩ | ⟨g,cl,rfl,hg⟩
 simp[Instr.findNow] at hf;simp only[Instr.lookup,Sem.run_bind,run_underlying hu,Result.andThen_ok,Jz hg,Sem.run_pure,run_checkKey _ Y9 hp,run_findKey Y9 hf]
def Ws{P:Program}{w:World}{t kt et:TypeId}{kd:TypeDesc}{vx vk z:Value}{fs:List MapEntry}(ok:Bool)(hu:P.underlying t=some (.map kt et))(Y9:P.underlying kt=some kd)(hp:plainKey kd=true)(hm:xZ w vx fs)(hf:Instr.findNow kd vk fs 0=some none)(hz:(zeroValue et).run P w=.ok z w) :
   (Instr.lookup t vx vk ok).run P w=.ok (if ok then .tuple #[z,.bool false] else z) w:=by
 rcases hm with ⟨rfl,rfl⟩ | ⟨g,cl,rfl,hg⟩
 simp only[Instr.lookup,Sem.run_bind,run_underlying hu,Result.andThen_ok,Sem.run_pure,run_checkKey _ Y9 hp];rw[run_findKey Y9 hf];simp only[Sem.run_bind,hz,Result.andThen_ok,Sem.run_pure];simp only[Instr.lookup,Sem.run_bind,run_underlying hu,Result.andThen_ok,Jz hg,Sem.run_pure,run_checkKey _ Y9 hp,run_findKey Y9 hf,hz]
def mD{P:Program}{G:A6}{c:Cx}{w:World}{s:AS}{t:TypeId}{x k r:AV}{ok:Bool}{vx vk:Value}(hs:St G c w s)(h:IV P s t x k ok=some r)(hx:Rp c w x vx)(hk:Rp c w k vk) :
   ∃u,(Instr.lookup t vx vk ok).run P w=.ok u w/\Rp c w r u:=by
 unfold IV at h;split at h
 . rename_i kt et hu
   split at h
   . rename_i kd key Y9 aaU
     have:=UG aaU hk;subst this;split at h
     . rename_i hp
       split at h
       . rename_i es hes
         obtain⟨fs,hfs,hm⟩:∃fs,Ki c w es fs/\xZ w vx fs:=by
           split at hes;cases hes;cases hx;exact⟨[],.nil,.inl ⟨rfl,rfl⟩⟩
           . split at hes
             . rename_i es' cl hb
               cases hes;cases hx with
               | mp hid =>
                 obtain⟨fs,hw,he⟩:=T9 hs hid hb;exact⟨fs,he,.inr ⟨_,_,rfl,hw⟩⟩
             cases hes
           cases hes
         split at h;rename_i j v hf;cases h;rcases Pg hfs hf with ⟨h1,_⟩ | ⟨j',a,v',e,f,h1,h2,h3,_⟩
         cases h1;injection h1 with h1
         injection h1 with _ h1
         subst h1;refine⟨_,Wt ok hu Y9 hp hm h2,?_⟩;cases ok;exact h3;exact .Dk (vs:=[v',.bool true]) (.cons h3 (.cons (.sc rfl) .nil))
         . rename_i hf
           cases hz:LY P et with
           | none=>rw[hz] at h;cases h
           | some z =>
             rw[hz] at h;cases h;rcases Pg hfs hf with ⟨_,h2⟩ | ⟨j',a,v',e,f,h1,_⟩
             obtain⟨zv,qW,hzp⟩:=T8 hz c w w;refine⟨_,Ws ok hu Y9 hp hm h2 qW,?_⟩;cases ok;exact hzp;exact .Dk (vs:=[zv,.bool false]) (.cons hzp (.cons (.sc rfl) .nil));cases h1
         cases h
       cases h
     cases h
   cases h
 cases h
def Ka(P:Program)(s:AS)(t:TypeId)(x k v:AV):Option AS :=
 match P.underlying t with
 | some (.map kt _)=>match P.underlying kt,YD k,x with
   | some kd,some key,.mp id=>if plainKey kd=true then
       (match s.get id with
       | some (.map es cl)=>match Xh kd key es 0 with
         | some (some (j,_))=>match es[j]? with
           | some e=>some (s.put id (.map (es.set j (key,v,e.2.2)) cl))
           | none=>none
         | some none=>some (s.put id (.map (es++[(key,v,cl)]) (cl+1)))
         | none=>none
       | _=>none) else none
   | _,_,_=>none
 | _=>none
def Tm{fs:List MapEntry}{j:Nat}{f g:MapEntry}{F:MapEntry->MapEntry}(h:fs[j]?=some f)(hF:F f=g):fs.toArray.modify j F=(fs.set j g).toArray:=by
 apply Array.ext';rw[List.modify_toArray];apply List.ext_getElem?;intro i;rw[List.getElem?_modify,List.getElem?_set];by_cases e:j=i;subst e;obtain⟨hl,he⟩:=List.getElem?_eq_some_iff.1 h;simp[hl,he,hF];simp[e]
def Xi{P:Program}{G:A6}{c:Cx}{w:World}{s s':AS}{t:TypeId}{x k v:AV}{vx vk vv:Value}(hs:St G c w s)(h:Ka P s t x k v=some s')(hx:Rp c w x vx)(hk:Rp c w k vk)(hv:Rp c w v vv) :
   ∃w',(Instr.mapUpdate t vx vk vv).run P w=.ok () w'/\Ext c w c w'/\St G c w' s':=by
 unfold Ka at h;split at h
 . rename_i kt et hu
   split at h
   . rename_i kd key id Y9 aaU
     have:=UG aaU hk;subst this;split at h
     . rename_i hp
       split at h
       . rename_i es cl hb
         cases hx with
         | @mp _ g hid =>
           obtain⟨fs,hw,he⟩:=T9 hs hid hb;split at h;rename_i j a hf;split at h;rename_i e hej;cases h;rcases Pg he hf with ⟨h1,_⟩ | ⟨j',a',v',e',f,h1,h2,h3,h4,h5,h6,h7,h8,h9,h10⟩
           cases h1;injection h1 with h1
           injection h1 with h1 _
           rw[Nat.zero_add] at h1;subst h1;rw[hej] at h4;cases h4;rw[Nat.zero_add] at h2;have aaX:fs.toArray.modify j (λe=>{ e with key:=vk,val:=vv })=(fs.set j ⟨vk,vv,e.2.2⟩).toArray:=Tm h5 (by rw[<- h9])
           obtain⟨x1,st⟩:=hs.put (b:=.map (es.set j (vk,v,e.2.2)) cl) (o:=.map (fs.set j ⟨vk,vv,e.2.2⟩).toArray cl) hid (Uc w g _) (UB w hw) (.map (he.set hv j));refine⟨_,?_,x1,st⟩;have aaP:=Yt h10;have xK:=run_findKey (P:=P) Y9 h2 w;simp only[Instr.mapUpdate,Sem.run_bind,run_underlying hu,Result.andThen_ok,Jz hw,run_checkKey _ Y9 hp,xK,List.getElem?_toArray,h5,Option.map_some,Option.getD_some,h8,Instr.keyThatStays,aaP,if_true,Sem.run_pure,aaX];exact NW _ hw;cases h;rename_i hf;cases h;rcases Pg he hf with ⟨_,h2⟩ | ⟨j',a',v',e',f,h1,_⟩
           obtain⟨x1,st⟩:=hs.put (b:=.map (es++[(vk,v,cl)]) (cl+1)) (o:=.map (fs++[(⟨vk,vv,cl⟩:MapEntry)]).toArray (cl+1)) hid (Uc w g _) (UB w hw) (.map (he.snoc hv));refine⟨_,?_,x1,st⟩;have xK:=run_findKey (P:=P) Y9 h2 w;have aa0:fs.toArray.push (⟨vk,vv,cl⟩:MapEntry)=(fs++[(⟨vk,vv,cl⟩:MapEntry)]).toArray:=by simp
           simp only[Instr.mapUpdate,Sem.run_bind,run_underlying hu,Result.andThen_ok,Jz hw,run_checkKey _ Y9 hp,xK,aa0];exact NW _ hw;cases h1;cases h
       cases h
     cases h
   cases h
 cases h
def fN{P:Program}{G:A6}{c:Cx}{w:World}{s:AS}{t:TypeId}(hs:St G c w s) :
   ∃v' w' c',(Instr.makeMap t none).run P w=.ok v' w'/\Ext c w c' w'/\St G c' w' (s.new (.map [] 0))/\Rp c' w' (.mp s.nx) v':=by
 obtain⟨e,st⟩:=hs.new (b:=.map [] 0) (o:=.map #[] 0) (.map (fs:=[]) .nil);refine⟨.map (some w.heap.size),_,_,?_,e,st,.mp ?_⟩;simp[Instr.makeMap];simp[hs.len]
def Wc(P:Program)(s:AS)(t:TypeId)(a:AV):Option AV :=
 match P.underlying t,a with
 | some .string,.sc (.string x)=>some (.sc (.int .i64 x.data.toList.length))
 | some (.slice _),.sl _ n _=>some (.sc (.int .i64 n))
 | some (.slice _),.ID _ _ n=>some (.sc (.int .i64 n))
 | some (.map _ _),.sc (.map none)=>some (.sc (.int .i64 0))
 | some (.map _ _),.mp id=>match s.get id with
   | some (.map es _)=>some (.sc (.int .i64 es.length))
   | _=>none
 | _,_=>none
def ad4{P:Program}{G:A6}{c:Cx}{w:World}{s:AS}{t ty:TypeId}{a r:AV}{v:Value}(hs:St G c w s)(h:Wc P s t a=some r)(ha:Rp c w a v):∃u,(Builtin.len_ #[t] ty #[v]).run P w=.ok u w/\Rp c w r u:=by
 unfold Wc at h;split at h;rename_i x hu;cases h;cases ha;exact⟨_,by simp[Builtin.len_,run_underlying hu,goInt],.sc rfl⟩;rename_i hu;cases h;cases ha<;>exact⟨_,by simp[Builtin.len_,run_underlying hu,goInt],.sc rfl⟩
 rename_i hu;cases h;cases ha;exact⟨_,by simp[Builtin.len_,run_underlying hu,goInt],.sc rfl⟩;rename_i hu;cases h;cases ha;exact⟨_,by simp[Builtin.len_,run_underlying hu,goInt],.sc rfl⟩
 . rename_i hu
   split at h
   . rename_i es cl hb
     cases h;cases ha with
     | mp hid =>
       obtain⟨fs,hw,he⟩:=T9 hs hid hb;exact⟨_,by simp[Builtin.len_,run_underlying hu,Jz hw,he.len,goInt],.sc rfl⟩
   cases h
 cases h
def Jh(P:Program)(s:AS)(t:TypeId)(l c:AV):Option (AV×AS) :=
 match P.underlying t with
 | some (.slice elem)=>match P.info? elem,QY l,QY c with
   | some e,some n,some m=>match e.zero with
     | some z=>match LK z.cells.toList with
       | some zs=>if n=m/\n<=16777216/\n*e.bytes<=281474976710656/\zs.isEmpty=false then some (.ID s.nx 0 n,s.new (.cells ((List.range (n*e.size)).map λi=>zs.getD (i % zs.length) (.sc undef)))) else none
       | none=>none
     | none=>none
   | _,_,_=>none
 | _=>none
end AI
