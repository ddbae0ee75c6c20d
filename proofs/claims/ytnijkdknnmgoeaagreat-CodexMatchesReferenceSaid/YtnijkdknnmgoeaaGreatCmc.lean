/- Part of a proof: see the last text. -/
import Derived.Test.YtnijkdknnmgoeaaGreatCmb
import Derived.Lib.Strings
set_option linter.unusedVariables false
set_option linter.unusedSimpArgs false
set_option linter.defProp false
noncomputable section
namespace AI
open Go Go.RowKit
def tY{c:Cx}{w:World}{zs:List AV}{vs:List Value}(h:C8 c w zs vs)(m:Nat)(hm:m≠0->zs≠[]) :
   C8 c w ((List.range m).map λi=>zs.getD (i % zs.length) (.sc undef)) ((List.range m).map λi=>vs.toArray[i % vs.toArray.size]!):=by
 refine C8.an5 (by simp) (λi a v h1 h2=>?_);rw[List.getElem?_map] at h1 h2;cases hr:(List.range m)[i]? with
 | none=>rw[hr] at h1;cases h1
 | some j =>
   rw[hr] at h1 h2;simp only[Option.map_some,Option.some.injEq] at h1 h2;have hj:j < m:=List.mem_range.1 (List.mem_of_getElem? hr);have KS:=hm (by omega);have hlen:zs.length≠0:=λe=>KS (List.eq_nil_of_length_eq_zero e);have IJ:j % zs.length < zs.length:=Nat.mod_lt _ (by omega);have hl:=h.len;have hg:zs[j % zs.length]?=some (zs[j % zs.length]'IJ):=List.getElem?_eq_getElem IJ;obtain⟨v',hv',hrv⟩:=h.get hg;rw[List.getD_eq_getElem?_getD,hg] at h1;subst h1;rw[List.size_toArray,hl] at h2
   have:vs.toArray[j % zs.length]! = v':=by
     rw[getElem!_def,List.getElem?_toArray,hv']
   rw[this] at h2;subst h2;exact hrv
def O3(P:Program)(t:TypeId)(len:Nat)(parts:List (Nat×AV)):Option AV :=
 match P.underlying t with
 | some (.slice elem)=>match P.info? elem with
   | some e=>if len*e.size<=16777216 then
       (if len*e.size=0 then (if len=0/\parts.isEmpty=true then some (.sl .full 0 []) else none)
       else match e.zero with
         | some z=>match L9 z.cells.toList with
           | some zs=>if zs.isEmpty=true then none else (V6 (λi=>some (i*e.size,e.size)) ((List.range (len*e.size)).map λi=>zs.getD (i % zs.length) (.sc undef)) parts).map (.sl .full len)
           | none=>none
         | none=>none)
     else none
   | none=>none
 | _=>none
def gC{P:Program}{G:Bh}{c:Cx}{w:World}{s:AS}{t:TypeId}{len:Nat}{ps:List (Nat×AV)}{r:AV}{qs:Array (Nat×Value)}(hs:St G c w s)(h:O3 P t len ps=some r)(hp:PL c w ps qs.toList) :
   ∃u w',(Instr.buildSlice t len qs).run P w=.ok u w'/\Ext c w c w'/\St G c w' s/\Rp c w' r u:=by
 unfold O3 at h;split at h;rename_i elem hu;split at h;rename_i e he;split at h;rename_i h24;split at h;rename_i h0;split at h;rename_i hz;cases h
 have hq:qs.toList=[]:=by
   have jA:ps=[]:=List.isEmpty_iff.1 hz.2;subst jA;have:∀l,PL c w [] l->l=[]:=λl h=>by cases h;rfl
   exact this _ hp
 obtain⟨rfl,_⟩:=hz;obtain⟨x,st⟩:=hs.same (Ya w (.cells #[] elem));refine⟨.slice (some ⟨w.heap.size,0,none⟩) 0 0,_,?_,x,st,.Ln rfl⟩;have m5:Array.range 0=#[]:=rfl;simp[Instr.buildSlice,run_underlying hu,Dr he,hq,Instr.fill,newRow,m5];cases h;rename_i h0;split at h;rename_i z hz;split at h;rename_i zs hzs;split at h;cases h;rename_i KS;have zM:=To hzs c w;have hin:=tY zM (len*e.size) (λ_ hn=>KS (by rw[hn];rfl));simp only[Array.toArray_toList] at hin;cases hf:V6 (λi=>some (i*e.size,e.size)) ((List.range (len*e.size)).map λi=>zs.getD (i % zs.length) (.sc undef)) ps with
 | none=>rw[hf] at h;cases h
 | some cs =>
   rw[hf] at h;cases h;obtain⟨us,ZU,hur⟩:=gV hf hin hp;obtain⟨x,st⟩:=hs.same (Ya w (.cells us.toArray elem));refine⟨.slice (some ⟨w.heap.size,0,none⟩) len len,_,?_,x,st,.Pg (Nat.le_refl _) (Bn.Xs (hur.mono x) (λi v hv=>by rw[Nat.zero_add];exact hs.ahy us elem hv)) rfl⟩
   have aeE:(Array.range (len*e.size)).map (λi=>z.cells[i % z.cells.size]!)=((List.range (len*e.size)).map λi=>z.cells[i % z.cells.size]!).toArray:=by
     apply Array.ext';simp
   rw[<- aeE] at ZU;have atp:¬16777216 < len*e.size:=by omega
   unfold Instr.buildSlice;simp only[Sem.run_bind,run_underlying hu,Result.andThen_ok,Dr he,Sem.run_ite,gt_iff_lt,show(2:Nat) ^ 24=16777216 from rfl,atp,if_false,Sem.run_pure,h0,zeroValue,typeInfo,run_program,hz,he,ZU];simp[newRow]
 cases h;cases h;cases h;cases h;cases h
def U1(P:Program)(st:TypeId)(a:AV)(k:Nat):Option AV :=
 match P.underlying st with
 | some (.struct fields)=>match fields.toList[k]? with
   | some f=>match P.info? f.type with
     | some i=>if i.size=0 then none else match a with
       | .ptr id off=>some (.ptr id (off+f.offset))
       | .el cs=>some (.el (cs.drop f.offset))
       | _=>none
     | none=>none
   | none=>none
 | _=>none
def tV{P:Program}{c:Cx}{w:World}{st:TypeId}{a r:AV}{k:Nat}{v:Value}(h:U1 P st a k=some r)(ha:Rp c w a v):∃u,(Instr.fieldAt st v k).run P w=.ok u w/\Rp c w r u:=by
 unfold U1 at h;split at h;rename_i fields hu;split at h;rename_i f hf;split at h;rename_i i hi;split at h;cases h;rename_i h0;have hf':fields[k]?=some f:=by rw[<- Array.getElem?_toList];exact hf
 split at h;cases h;cases ha with
 | ptr hid =>
   refine⟨_,?_,.ptr hid⟩;simp[Instr.fieldAt,run_underlying hu,hf',Instr.sureAddr,fieldPlace,Dr hi,h0,add_lit]
 cases h;cases ha with
 | el hc =>
   refine⟨_,?_,.el (hc.drop f.offset)⟩;simp[Instr.fieldAt,run_underlying hu,hf',Instr.sureAddr,fieldPlace,Dr hi,h0,add_lit]
 cases h;cases h;cases h;cases h
def fF(P:Program)(st:TypeId)(a:AV)(k:Nat):Option AV :=
 match P.underlying st with
 | some (.struct fields)=>match fields.toList[k]? with
   | some f=>match a with
     | .agg cs=>apart P f.type cs f.offset
     | _=>none
   | none=>none
 | _=>none
def abe{P:Program}{c:Cx}{w:World}{st:TypeId}{a r:AV}{k:Nat}{v:Value}(h:fF P st a k=some r)(ha:Rp c w a v)(w0:World):∃u,(Instr.field st v k).run P w0=.ok u w0/\Rp c w r u:=by
 unfold fF at h;split at h;rename_i fields hu;split at h;rename_i f hf;split at h;cases ha with
 | agg hr =>
   have hf':fields[k]?=some f:=by rw[<- Array.getElem?_toList];exact hf
   obtain⟨u,h1,h2⟩:=dR h hr w0;exact⟨u,by simp[Instr.field,run_underlying hu,hf',asAgg,h1],h2⟩
 cases h;cases h;cases h
def Su:AV->Option Nat
 | .sc (.int _ i)=>if 0<=i then some i.toNat else none
 | _=>none
def PO{c:Cx}{w:World}{a:AV}{v:Value}{n:Nat}(h:Su a=some n)(ha:Rp c w a v):∃k i,v=.int k i/\0<=i/\i.toNat=n:=by
 unfold Su at h;split at h;rename_i k i;split at h;rename_i h0;cases h;cases ha;exact⟨k,i,rfl,h0,rfl⟩;cases h;cases h
def BW(P:Program)(t:TypeId)(x ix:AV):Option AV :=
 match P.underlying t,Su ix with
 | some (.slice elem),some i=>match P.info? elem,x with
   | some e,.sl _ n cs=>if i < n then some (.el (cs.drop (i*e.size))) else none
   | some e,.G2 id off n=>if i < n then some (.ptr id (off+i*e.size)) else none
   | _,_=>none
 | some (.array len elem),some i=>match P.info? elem,x with
   | some e,.ptr id off=>if i < len then some (.ptr id (off+i*e.size)) else none
   | some e,.el cs=>if i < len then some (.el (cs.drop (i*e.size))) else none
   | _,_=>none
 | _,_=>none
def tM{P:Program}{c:Cx}{w:World}{t:TypeId}{x ix r:AV}{v vi:Value}(h:BW P t x ix=some r)(hx:Rp c w x v)(hi:Rp c w ix vi):∃u,(Instr.indexAt t v vi).run P w=.ok u w/\Rp c w r u:=by
 unfold BW at h;split at h;rename_i elem i hu hn;obtain⟨k,z,rfl,m5,rfl⟩:=PO hn hi;split at h;rename_i e n cs he;split at h;rename_i IJ;cases h;have u4:z < (n:Int):=by omega
 cases hx with
 | Ln=>omega
 | Pg hn hc ho =>
   refine⟨_,?_,.el (hc.drop _)⟩;simp[Instr.indexAt,asIntOf,run_underlying hu,m5,u4,Dr he,add_lit]
 cases h;rename_i e id off n he;split at h;rename_i IJ;cases h;have u4:z < (n:Int):=by omega
 cases hx with
 | G2 hn hid =>
   refine⟨_,?_,.ptr hid⟩;simp[Instr.indexAt,asIntOf,run_underlying hu,m5,u4,Dr he,add_lit]
 cases h;cases h;rename_i len elem i hu hn;obtain⟨k,z,rfl,m5,rfl⟩:=PO hn hi;split at h;rename_i e id off he;split at h;rename_i IJ;cases h;have u4:z < (len:Int):=by omega
 cases hx with
 | ptr hid =>
   refine⟨_,?_,.ptr hid⟩;simp[Instr.indexAt,asIntOf,run_underlying hu,m5,u4,Dr he,add_lit,Instr.sureAddr]
 cases h;rename_i e cs he;split at h;rename_i IJ;cases h;have u4:z < (len:Int):=by omega
 cases hx with
 | el hc =>
   refine⟨_,?_,.el (hc.drop _)⟩;simp[Instr.indexAt,asIntOf,run_underlying hu,m5,u4,Dr he,add_lit,Instr.sureAddr]
 cases h;cases h;cases h
def Oq(P:Program)(t:TypeId)(x ix:AV):Option AV :=
 match P.underlying t,Su ix with
 | some (.array len elem),some i=>match P.info? elem,x with
   | some e,.agg cs=>if i < len then apart P elem cs (i*e.size) else none
   | _,_=>none
 | some .string,some i=>match x with
   | .sc (.string s)=>match s.data.toList[i]? with
     | some b=>some (.sc (.int .u8 b.toNat))
     | none=>none
   | _=>none
 | _,_=>none
def aa8{P:Program}{c:Cx}{w:World}{t:TypeId}{x ix r:AV}{v vi:Value}(h:Oq P t x ix=some r)(hx:Rp c w x v)(hi:Rp c w ix vi)(w0:World):∃u,(Instr.index t v vi).run P w0=.ok u w0/\Rp c w r u:=by
 unfold Oq at h;split at h;rename_i len elem i hu hn;obtain⟨k,z,rfl,m5,rfl⟩:=PO hn hi;split at h;rename_i e cs he;split at h;rename_i IJ;have u4:z < (len:Int):=by omega
 cases hx with
 | agg hr =>
   obtain⟨u,h1,h2⟩:=dR h hr w0;exact⟨u,by simp[Instr.index,asIntOf,run_underlying hu,m5,u4,Dr he,h1],h2⟩
 cases h;cases h;rename_i i hu hn;obtain⟨k,z,rfl,m5,rfl⟩:=PO hn hi;split at h;rename_i s;split at h;rename_i b hb;cases h;cases hx;refine⟨_,?_,.sc rfl⟩
 have Vw:s[z.toNat]?=some b:=by
   rw[<- hb];have IJ:=(List.getElem?_eq_some_iff.1 hb).1;have jJ:z.toNat < s.size:=by simpa using IJ
   rw[getElem?_pos s z.toNat jJ,List.getElem?_eq_getElem IJ];rfl
 simp[Instr.index,asIntOf,run_underlying hu,m5,Vw];cases h;cases h;cases h
def UM(x:AV)(k:Nat):Option AV :=
 match x with
 | .Bj vs=>vs[k]?
 | _=>none
def uL{P:Program}{c:Cx}{w:World}{x r:AV}{k:Nat}{v:Value}(h:UM x k=some r)(hx:Rp c w x v)(w0:World):∃u,(Instr.extract v k).run P w0=.ok u w0/\Rp c w r u:=by
 unfold UM at h;split at h;cases hx with
 | Bj hr =>
   obtain⟨u,h1,h2⟩:=hr.get h;exact⟨u,by simp[Instr.extract,h1],h2⟩
 cases h
end AI
namespace AI
open Go Go.RowKit
def TG:AV->Option Value
 | .sc v=>some v
 | _=>none
def Ri:List AV->Option (List Value)
 | []=>some []
 | a::as=>match TG a,Ri as with
   | some v,some vs=>some (v::vs)
   | _,_=>none
def Ym:AV->Option Value
 | .sc v=>some v
 | .agg cs=>(Ri cs).map λl=>.agg l.toArray
 | _=>none
def Vg{c:Cx}{w:World}{a:AV}{v u:Value}(h:TG a=some v)(ha:Rp c w a u):u=v:=by
 unfold TG at h;split at h;cases h;cases ha;rfl;cases h
def g7{c:Cx}{w:World}{as:List AV}{vs us:List Value}(h:Ri as=some vs)(ha:C8 c w as us):us=vs:=by
 induction as generalizing vs us with
 | nil=>simp[Ri] at h;subst h;cases ha;rfl
 | cons a as ih =>
   simp only[Ri] at h;split at h;rename_i v vs' h1 h2;cases h;cases ha with
   | cons p q=>rw[Vg h1 p,ih h2 q]
   cases h
def sV{c:Cx}{w:World}{a:AV}{v u:Value}(h:Ym a=some v)(ha:Rp c w a u):u=v:=by
 unfold Ym at h;split at h;cases h;cases ha;rfl;rename_i cs;cases hc:Ri cs with
 | none=>rw[hc] at h;cases h
 | some l =>
   rw[hc] at h;cases h;cases ha with
   | agg hr=>rw[g7 hc hr]
 cases h
def jD(v:Value):Option AV:=if scalar v then some (.sc v) else none
def pO{v:Value}{a:AV}(h:jD v=some a)(c:Cx)(w:World):Rp c w a v:=by
 unfold jD at h;split at h;rename_i hs;cases h;exact .sc hs;cases h
def abd(op:BinOp)(x y:ByteArray):Option Value :=
 match op with
 | .add=>if x.data.toList.length+y.data.toList.length<=9223372036854775807 then some (.string ⟨(x.data.toList++y.data.toList).toArray⟩) else none
 | .eql=>some (.bool (x.data.toList == y.data.toList))
 | .neq=>some (.bool (!(x.data.toList == y.data.toList)))
 | .lss=>some (.bool (Op.bytesLess x.data.toList y.data.toList))
 | .leq=>some (.bool (Op.bytesLess x.data.toList y.data.toList||x.data.toList == y.data.toList))
 | .gtr=>some (.bool (!(Op.bytesLess x.data.toList y.data.toList||x.data.toList == y.data.toList)))
 | .geq=>some (.bool (!(Op.bytesLess x.data.toList y.data.toList)))
 | _=>none
def VW(P:Program)(op:BinOp)(t:TypeId)(xo yo:Operand)(a b:AV):Option AV :=
 match a,b with
 | .sc (.string x),.sc (.string y)=>(abd op x y).bind jD
 | a,b=>match Ym a,Ym b with
   | some u,some v=>(pv P (do eqGuard op t xo yo u v;binOp op t u v)).bind jD
   | _,_=>none
def pJ(x y:ByteArray):x++y=⟨(x.data.toList++y.data.toList).toArray⟩:=by
 apply ByteArray.ext;simp
def afE{P:Program}{c:Cx}{w:World}{op:BinOp}{t:TypeId}{xo yo:Operand}{a b r:AV}{u v:Value}(h:VW P op t xo yo a b=some r)(ha:Rp c w a u)(hb:Rp c w b v)(w0:World) :
   ∃z,(do eqGuard op t xo yo u v;binOp op t u v:Sem Value).run P w0=.ok z w0/\Rp c w r z:=by
 unfold VW at h;split at h
 . rename_i x y
   cases ha;cases hb;cases hs:abd op x y with
   | none=>rw[hs] at h;cases h
   | some z =>
     rw[hs,Option.bind_some] at h;refine⟨z,?_,pO h c w⟩;have vM:x.data.toList.length=x.size:=by simp
     have jJ:y.data.toList.length=y.size:=by simp
     unfold abd at hs;split at hs;split at hs;rename_i hle;cases hs;rw[vM,jJ] at hle
     have:¬((x.size+y.size:Nat):Int) > IntKind.i64.max:=by
       show ¬((x.size+y.size:Nat):Int) > 9223372036854775807;omega
     simp[eqGuard,binOp,Op.stringOp,pJ];omega;cases hs
     all_goals first
       | (cases hs;simp[eqGuard,binOp,Op.stringOp,ByteArray.toList_eq];done)
       | (cases hs;done)
 split at h;rename_i u' v' h1 h2;have e1:=sV h1 ha;have e2:=sV h2 hb;subst e1 e2;cases hp:pv P (do eqGuard op t xo yo u v;binOp op t u v) with
 | none=>rw[hp] at h;cases h
 | some z =>
   rw[hp,Option.bind_some] at h;exact⟨z,ad7 _ hp w0,pO h c w⟩
 cases h
def apq:Operand->Bool
 | .const (.slice none 0 0)=>true
 | _=>false
def ahI(P:Program)(op:BinOp)(t:TypeId)(yo:Operand)(z:Bool):Option AV:=match apq yo,P.underlying t with
 | true,some (.slice _)=>(match op with
   | .eql=>some (.sc (.bool z))
   | .neq=>some (.sc (.bool (!z)))
   | _=>none)
 | _,_=>none
def L2(P:Program)(op:BinOp)(t:TypeId)(xo yo:Operand)(a b:AV):Option AV :=
 match a with
 | .sl .nil _ _=>ahI P op t yo true
 | .sl .nn _ _=>ahI P op t yo false
 | a=>VW P op t xo yo a b
def pQ{P:Program}{op:BinOp}{t:TypeId}{xo yo:Operand}{z:Bool}{r:AV}{A:Option Addr}{n cap:Nat}{v:Value}(h:ahI P op t yo z=some r)(hA:A.isNone=z)(hy:∀k,yo=.const k->v=k)(c:Cx)(w w0:World) :
   ∃q,(do eqGuard op t xo yo (.slice A n cap) v;binOp op t (.slice A n cap) v:Sem Value).run P w0=.ok q w0/\Rp c w r q:=by
 unfold ahI at h;split at h;rename_i e hn hu
 have hv:v=.slice none 0 0:=by
   unfold apq at hn;split at hn;exact hy _ rfl;cases hn
 subst hv
 have Sr:(Op.equal t (.slice A n cap) (.slice none 0 0)).run P w0=.ok z w0:=by
   unfold Op.equal;obtain⟨d,hd⟩:∃d,Op.maxDepth=d+1:=⟨_,rfl⟩;rw[hd];unfold Op.equalIn;rw[Sem.run_bind,run_underlying hu,Result.andThen_ok];cases A with
   | none=>simp only[Option.isNone_none] at hA;subst hA;rfl
   | some a=>simp only[Option.isNone_some] at hA;subst hA;rfl
 split at h;cases h;exact⟨.bool z,by simp only[eqGuard,binOp];rw[Sem.run_bind];simp[Sr],.sc rfl⟩;cases h;exact⟨.bool !z,by simp only[eqGuard,binOp];rw[Sem.run_bind];simp[Sr],.sc rfl⟩;cases h;cases h
def ahc{P:Program}{c:Cx}{w:World}{op:BinOp}{t:TypeId}{xo yo:Operand}{a b r:AV}{u v:Value}(h:L2 P op t xo yo a b=some r)(ha:Rp c w a u)(hb:Rp c w b v)(hy:∀k,yo=.const k->v=k)(w0:World) :
   ∃z,(do eqGuard op t xo yo u v;binOp op t u v:Sem Value).run P w0=.ok z w0/\Rp c w r z:=by
 unfold L2 at h;split at h;cases ha with
 | Ln h0=>exact pQ h h0 hy c w w0
 | Pg _ _ ho=>exact ho.elim
 cases ha with
 | Ln h0=>exact pQ h h0 hy c w w0
 | Pg _ _ ho=>exact pQ h rfl hy c w w0
 exact afE h ha hb w0
def aC(P:Program)(s:Sem Value):Option AV:=(pv P s).bind jD
def Ye{P:Program}{s:Sem Value}{r:AV}(h:aC P s=some r)(c:Cx)(w w0:World):∃z,s.run P w0=.ok z w0/\Rp c w r z:=by
 unfold aC at h;cases hp:pv P s with
 | none=>rw[hp] at h;cases h
 | some z =>
   rw[hp,Option.bind_some] at h;exact⟨z,ad7 _ hp w0,pO h c w⟩
def MH(d:Nat):Option AV->Option Nat
 | none=>some d
 | some a=>Su a
inductive RO(c:Cx)(w:World):Option AV->Option Value->Prop where
 | none:RO c w none none
 | some {a:AV} {v:Value} (h:Rp c w a v):RO c w (some a) (some v)
def KL(P:Program)(t:TypeId)(x:AV)(lo hi mx:Option AV):Option AV :=
 match P.underlying t with
 | some .string=>match x with
   | .sc (.string s)=>match mx,MH 0 lo,MH s.data.toList.length hi with
     | none,some l,some h=>if l<=h/\h<=s.data.toList.length then some (.sc (.string ⟨((s.data.toList.drop l).take (h - l)).toArray⟩)) else none
     | _,_,_=>none
   | _=>none
 | some (.slice elem)=>match P.info? elem,x with
   | some e,.sl own n cs=>match MH 0 lo,MH n hi with
     | some l,some h=>if l<=h/\h<=n/\cs.length=n*e.size then
         (match mx with
         | none=>some (.sl (if l=0/\h=n then own else if h=n/\own=.full then .full else .lost) (h - l) ((cs.drop (l*e.size)).take ((h - l)*e.size)))
         | some m=>match Su m with
           | some m=>if h=m/\hi.isSome=true then some (.sl .full (h - l) ((cs.drop (l*e.size)).take ((h - l)*e.size))) else none
           | none=>none)
       else none
     | _,_=>none
   | _,_=>none
 | _=>none
def bY(d:Nat)(o:Option Value)(n:Nat):Prop:=(o=none/\n=d)\/∃k i,o=some (.int k i)/\0<=i/\i.toNat=n
def Vl{c:Cx}{w:World}{d n:Nat}{a:Option AV}{v:Option Value}(h:MH d a=some n)(ha:RO c w a v):bY d v n:=by
 cases ha with
 | none=>simp[MH] at h;exact .inl ⟨rfl,h.symm⟩
 | some h1 =>
   obtain⟨k,i,rfl,h2,h3⟩:=PO h h1;exact .inr ⟨k,i,rfl,h2,h3⟩
def Ld{P:Program}(k:IntKind)(i:Int)(y:Nat)(code:BoundsCode)(w:World)(h0:0<=i)(h1:i.toNat<=y):(Instr.sliceBound (.int k i) y code).run P w=.ok i.toNat w:=by
 have:i<=(y:Int):=by omega
 simp[Instr.sliceBound,asIntOf,h0,this]
def gW{P:Program}{isSlice:Bool}{len cap l h:Nat}{lo hi:Option Value}(hlo:bY 0 lo l)(hhi:bY len hi h)(hle:l<=h)(hh:h<=cap)(w:World) :
   (Instr.sliceBounds isSlice len cap lo hi none).run P w=.ok (l,h,cap) w:=by
 rcases hlo with ⟨rfl,rfl⟩ | ⟨k,i,rfl,Ca,rfl⟩<;>rcases hhi with ⟨rfl,rfl⟩ | ⟨k',i',rfl,agb,rfl⟩
 simp[Instr.sliceBounds];simp[Instr.sliceBounds,Ld k' i' cap _ w agb hh];simp[Instr.sliceBounds,Ld k i h _ w Ca hle];simp[Instr.sliceBounds,Ld k' i' cap _ w agb hh,Ld k i _ _ w Ca hle]
def uO{P:Program}{isSlice:Bool}{len cap l h:Nat}{lo hi:Option Value}{k:IntKind}{j:Int}(hlo:bY 0 lo l)(hhi:∃k i,hi=some (.int k i)/\0<=i/\i.toNat=h)(hle:l<=h)(hj:0<=j)(hh:h<=j.toNat)(hc:j.toNat<=cap)(w:World) :
   (Instr.sliceBounds isSlice len cap lo hi (some (.int k j))).run P w=.ok (l,h,j.toNat) w:=by
 obtain⟨k',i',rfl,agb,rfl⟩:=hhi;rcases hlo with ⟨rfl,rfl⟩ | ⟨k2,i,rfl,Ca,rfl⟩
 simp[Instr.sliceBounds,Ld k j cap _ w hj hc,Ld k' i' _ _ w agb hh];simp[Instr.sliceBounds,Ld k j cap _ w hj hc,Ld k' i' _ _ w agb hh,Ld k2 i _ _ w Ca hle]
def take_nil{c:Cx}{w:World}{g o:Nat}{cs:List AV}(l n:Nat)(h:Bn c w g o cs):Bn c w g (o+l) ((cs.drop l).take n):=(h.drop l).take n
def abu{P:Program}{c:Cx}{w:World}{t:TypeId}{x r:AV}{lo hi mx:Option AV}{v:Value}{lo' QZ mx':Option Value}(h:KL P t x lo hi mx=some r)(hx:Rp c w x v)(hlo:RO c w lo lo')(hhi:RO c w hi QZ)(hmx:RO c w mx mx') :
   ∃u,(Instr.sliceAt t v lo' QZ mx').run P w=.ok u w/\Rp c w r u:=by
 unfold KL at h;split at h;rename_i hu;split at h;rename_i s;split at h;rename_i l hh e1 e2;split at h;rename_i hc;cases h;cases hx;cases hmx;have b1:=Vl e1 hlo;have b2:=Vl e2 hhi;rw[show s.data.toList.length=s.size from by simp] at b2 hc;refine⟨_,?_,.sc rfl⟩;simp only[Instr.sliceAt,Sem.run_bind,run_underlying hu,Result.andThen_ok,Instr.slice,Option.isSome_none,Bool.false_eq_true,if_false,gW b1 b2 hc.1 hc.2,Sem.run_pure];congr 2;apply ByteArray.ext;apply Array.ext';rw[Lib.extract_data];cases h;cases h;cases h;rename_i elem hu;split at h;rename_i e own n cs he;split at h;rename_i l hh e1 e2;split at h;rename_i hc;have b1:=Vl e1 hlo;have b2:=Vl e2 hhi
 have xN:∀(A:Option Addr) (cap:Nat),n<=cap->mx'=none->(Instr.sliceAt t (.slice A n cap) lo' QZ mx').run P w=.ok (.slice (if cap=l then A else A.map (·.add (l*e.size))) (hh - l) (cap - l)) w:=by
   intro A cap adi hm;subst hm;simp only[Instr.sliceAt,Sem.run_bind,run_underlying hu,Result.andThen_ok,Instr.slice,gW b1 b2 hc.1 (Nat.le_trans hc.2.1 adi),Sem.run_pure,Dr he]
 split at h;cases h;cases hmx;cases hx with
 | Ln h0 =>
   obtain⟨rfl,rfl⟩:l=0/\hh=0:=by omega
   refine⟨_,xN _ _ (Nat.zero_le _) rfl,?_⟩;simp only[List.drop_nil,List.take_nil,Nat.sub_zero,if_true,and_self];exact .Ln (h0.re (by split<;>simp))
 | Pg hn iV ho =>
   rename_i cap g o;refine⟨_,xN _ _ hn rfl,?_⟩;by_cases HP:l=0/\hh=n;obtain⟨rfl,rfl⟩:=HP;simp only[Nat.zero_mul,List.drop_zero,Nat.sub_zero,and_self,if_true];rw[List.take_of_length_le (by rw[hc.2.2];exact Nat.le_refl _)]
   have:(if cap=0 then some (⟨g,o,none⟩:Addr) else Option.map (λx:Addr=>x.add 0) (some ⟨g,o,none⟩))=some ⟨g,o,none⟩:=by
     split;rfl;simp[Addr.add]
   rw[this];exact .Pg hn iV ho;rw[if_neg HP];by_cases hz:hh - l=0;have xX:((cs.drop (l*e.size)).take ((hh - l)*e.size))=[]:=by rw[hz];simp
   rw[xX,hz];by_cases hf:hh=n/\own=.full;rw[if_pos hf];obtain⟨rfl,rfl⟩:=hf;have:cap=hh:=ho;exact .Ln (by show cap - l=0;omega);rw[if_neg hf];exact .Ln trivial;have KS:¬cap=l:=by omega
   rw[if_neg KS];simp only[Option.map_some,add_lit];refine .Pg (by omega) ((iV.drop _).take _) ?_;by_cases hf:hh=n/\own=.full;rw[if_pos hf];obtain⟨rfl,rfl⟩:=hf;have:cap=hh:=ho;show cap - l=hh - l;omega;rw[if_neg hf];trivial
 rename_i m;split at h;rename_i j hj;split at h;rename_i hjm;cases h;obtain⟨rfl,aj9⟩:=hjm;cases hmx with
 | some hm =>
   obtain⟨k,z,rfl,m5,u4⟩:=PO hj hm
   have iG:∃k i,QZ=some (.int k i)/\0<=i/\i.toNat=hh:=by
     cases hhi with
     | none=>cases aj9
     | some h1 =>
       obtain⟨k,i,rfl,h2,h3⟩:=PO e2 h1;exact⟨k,i,rfl,h2,h3⟩
   have ajL:∀(A:Option Addr) (cap:Nat),n<=cap->(Instr.sliceAt t (.slice A n cap) lo' QZ (some (.int k z))).run P w=.ok (.slice (if hh=l then A else A.map (·.add (l*e.size))) (hh - l) (hh - l)) w:=by
     intro A cap adi;simp only[Instr.sliceAt,Sem.run_bind,run_underlying hu,Result.andThen_ok,Instr.slice,uO b1 iG hc.1 m5 (Nat.le_of_eq u4.symm) (by rw[u4];exact Nat.le_trans hc.2.1 adi),Sem.run_pure,Dr he];rw[u4]
   cases hx with
   | Ln h0 =>
     obtain⟨rfl,rfl⟩:l=0/\hh=0:=by omega
     refine⟨_,ajL _ _ (Nat.zero_le _),?_⟩;simp only[List.drop_nil,List.take_nil,Nat.sub_zero,if_true];exact .Ln rfl
   | Pg hn iV ho =>
     refine⟨_,ajL _ _ hn,?_⟩;by_cases hz:hh - l=0;have xX:((cs.drop (l*e.size)).take ((hh - l)*e.size))=[]:=by rw[hz];simp
     rw[xX,hz];exact .Ln rfl;rw[if_neg (by omega)];simp only[Option.map_some,add_lit];exact .Pg (Nat.le_refl _) ((iV.drop _).take _) rfl
 cases h;cases h;cases h;cases h;cases h;cases h
end AI
namespace AI
open Go Go.RowKit
def yY(P:Program)(s:AS)(size:Nat)(tx:TypeId)(b:AV):Option (Nat×List AV) :=
 match P.underlying tx,b with
 | some (.slice _),.sl _ n cs=>if cs.length=n*size then some (n,cs) else none
 | some (.slice _),.G2 id off n=>match s.get id with
   | some (.cells cs)=>if off+n*size<=cs.length then some (n,(cs.drop off).take (n*size)) else none
   | _=>none
 | some .string,.sc (.string x)=>if size=1 then some (x.data.toList.length,x.data.toList.map λb=>.sc (.int .u8 b.toNat)) else none
 | _,_=>none
def afm(c:Cx)(w:World)(l:List UInt8):C8 c w (l.map λb=>.sc (.int .u8 b.toNat)) (l.map λb=>.int .u8 b.toNat):=by
 induction l with
 | nil=>exact .nil
 | cons b l ih=>exact .cons (.sc rfl) ih
structure afP(P:Program)(size:Nat)(tx:TypeId)(x:Value)(n:Nat)(news:List Value)(w:World):Prop where
 kind:(∃e',P.underlying tx=some (.slice e'))\/P.underlying tx=some .string
 len:∀w':World,(Builtin.lenOf x).run P w'=.ok n w'
 cells:∀w':World,w'.heap=w.heap->(Builtin.firstCells size n x).run P w'=.ok news.toArray w'
def ahR{P:Program}{G:Bh}{c:Cx}{w:World}{s:AS}{size:Nat}{tx:TypeId}{b:AV}{x:Value}{n:Nat}{cs:List AV}(hs:St G c w s)(h:yY P s size tx b=some (n,cs))(hb:Rp c w b x) :
   ∃news,C8 c w cs news/\news.length=n*size/\afP P size tx x n news w:=by
 unfold yY at h;split at h;rename_i e own n' uY hu;split at h;rename_i hl;cases h;cases hb with
 | @Ln _ A cap _ =>
   refine⟨[],.nil,by simp,.inl ⟨_,hu⟩,λ_=>rfl,λw' _=>?_⟩;cases A with
   | none=>simp[Builtin.firstCells]
   | some a=>simp[Builtin.firstCells,loadCells,loadCellsFrom]
 | Pg hn hc ho =>
   obtain⟨vs,hr,Ls⟩:=hc.vals;have hlv:=hr.len;refine⟨vs,hr,by omega,.inl ⟨_,hu⟩,λ_=>rfl,λw' hw=>?_⟩;refine run_firstCells_some w' size n _ n _ vs (by omega) (λj v hj=>?_);rw[add_lit];have:=(Ls j v hj).2.2;rw[World.cell?_of_block (w:=w) (by rw[hw])];exact this
 cases h;rename_i e id off n' hu;split at h;rename_i uY Vw;split at h;rename_i hl;cases h;cases hb with
 | G2 hn hid =>
   obtain⟨vs,ext,T,hw,hr⟩:=Qd hs hid Vw;have hlv:=hr.len;have wG:((vs.drop off).take (n*size)).length=n*size:=by rw[List.length_take,List.length_drop];omega
   refine⟨(vs.drop off).take (n*size),(hr.drop off).take _,wG,.inl ⟨_,hu⟩,λ_=>rfl,λw' hw'=>?_⟩;refine run_firstCells_some w' size n _ n _ _ wG (λj v hj=>?_);rw[add_lit]
   have sG:vs[off+j]?=some v:=by
     rw[List.getElem?_take] at hj;split at hj;rw[List.getElem?_drop] at hj;exact hj;cases hj
   exact cell_of_heap (by rw[hw'];exact hw) (nO sG)
 cases h;cases h;rename_i x' hu;split at h;rename_i h1;cases h;cases hb;subst h1;refine⟨_,afm c w _,by simp,.inr hu,λ_=>by simp[Builtin.lenOf],λw' _=>?_⟩;simp only[Builtin.firstCells];rw[show x'.data.toList.length=x'.size from by simp];simp;apply Array.ext';simp;cases h;cases h
def AS.grow(s:AS)(r n:Nat):AS:=⟨s.h,s.nx,ab6 r n s.F,s.nr⟩
def AS.add(s:AS)(n:Nat):AS:=⟨s.h,s.nx,(s.nr,n)::s.F,s.nr+1⟩
section
variable {G:Bh} {c:Cx} {w:World} {s:AS}
def St.oP(h:St G c w s){r n:Nat}(hr:Ec r s.F=some n):r < c.rows.length:=by
 rcases h.Lm r n hr with h1 | ⟨g,cap,sz,h1⟩
 exact(List.getElem?_eq_some_iff.1 h1.1).1;exact(List.getElem?_eq_some_iff.1 h1).1
def O6{l:List Rw}{r r':Nat}{x y:Rw}(h:(l.set r x)[r']?=some y):(r'=r/\y=x/\r < l.length)\/(r'≠r/\l[r']?=some y):=by
 by_cases e:r=r';subst e;have hl:=(List.getElem?_eq_some_iff.1 h).1;rw[List.length_set] at hl;rw[List.getElem?_set_self hl] at h;exact .inl ⟨rfl,(Option.some.inj h).symm,hl⟩;rw[List.getElem?_set_ne e] at h;exact .inr ⟨λx=>e x.symm,h⟩
def St.nW(h:St G c w s){r n0:Nat}(hF:Ec r s.F=some n0){w':World}{g n cap sz:Nat}{vs:Array Value}{T:TypeId}(k:sL w w' (λx=>x=g))(hb:c.base<=g)(hp:some g∉c.C6)(IJ:n0 < n)(hlh:n<=cap)(hw:w'.heap[g]?=some (.cells vs T (0,0)))(Q5:vs.size=cap*sz)
   (hg:g=w.heap.size\/(c.rows[r]?=some (.U7 g n0 cap sz)/\∀i v,i < n0*sz->w.cell? ⟨g,i,none⟩=some v->vs[i]?=some v)) :
   Ext c w { c with rows:=c.rows.set r (.U7 g n cap sz) } w'/\St G { c with rows:=c.rows.set r (.U7 g n cap sz) } w' (s.grow r n):=by
 have at1:g < w'.heap.size:=(Array.getElem?_eq_some_iff.1 hw).1;have hrl:=h.oP hF
 have xK:∀(r':Nat) n' DQ Qc,c.rows[r']?=some (.U7 g n' DQ Qc)->r'=r:=by
   intro r' n' DQ Qc hr;rcases hg with rfl | ⟨hr0,_⟩
   have:=h.Xd hr;omega;exact h.KK r' r g _ _ _ _ _ _ hr hr0
 have e:Ext c w { c with rows:=c.rows.set r (.U7 g n cap sz) } w':=by
   refine⟨List.prefix_refl _,by simp,λr' y hr hy=>?_,λg' i v hv=>⟨Nat.lt_of_lt_of_le hv.1 k.size,λhs=>?_,?_⟩,k.below h.Xh (λx hx=>by rw[hx];exact hb),rfl,rfl,λ_ h=>.inl h,λr' g' n' DQ Qc hr=>?_,λq hq _ hr=>?_⟩;rcases O6 hy with ⟨rfl,rfl,_⟩ | ⟨_,h1⟩
   rcases h.Lm r' n0 hF with ⟨h1,_⟩ | ⟨g1,asB,sz1,h1⟩
   exact⟨_,h1,.inr (.inl rfl)⟩;exact⟨_,h1,.inr (.inr ⟨_,_,_,_,rfl,IJ⟩)⟩;exact⟨y,h1,Ow.refl y⟩
   . rcases hs with hs | ⟨r',n',DQ,Qc,hr,h1,h2⟩ | hs
     exact hv.2.1 (.inl hs);rotate_left;exact hv.2.1 (.inr (.inr hs));rcases O6 hr with ⟨rfl,h3,_⟩ | ⟨_,h3⟩
     injection h3 with e1 e2 e3 e4
     subst e1 e2 e3 e4;rcases hg with rfl | ⟨hr0,_⟩
     have:=hv.1;omega;have:=Nat.mul_le_mul_right Qc (Nat.le_of_lt IJ);exact hv.2.1 (.inr (.inl ⟨r',n0,DQ,Qc,hr0,by omega,h2⟩));exact hv.2.1 (.inr (.inl ⟨r',n',DQ,Qc,h3,h1,h2⟩))
   by_cases hgg:g'=g;subst hgg;rcases hg with rfl | ⟨hr0,aqb⟩
   have:=hv.1;omega
   have S5:i < n0*sz:=by
     by_cases IJ:i < n0*sz;exact IJ;exfalso;obtain⟨_,_,_,_,vs0,T0,hh0,ar3⟩:=h.row r g' n0 cap sz hr0;have hc:=hv.2.2;have hns:¬i < cap*sz:=λafQ=>hv.2.1 (.inr (.inl ⟨r,n0,cap,sz,hr0,by omega,afQ⟩));simp[World.cell?,hh0] at hc;have:=(Array.getElem?_eq_some_iff.1 hc).1;omega
   have:=aqb i v S5 hv.2.2;simp[World.cell?,hw,this];rw[k.cell hv.1 hgg];exact hv.2.2;rcases O6 hr with ⟨rfl,h1,_⟩ | ⟨_,h1⟩
   injection h1 with e1 _
   subst e1;rcases hg with rfl | ⟨hr0,_⟩
   exact .inr (Nat.le_refl _);exact .inl ⟨r',n0,_,_,hr0⟩;exact .inl ⟨r',n',DQ,Qc,h1⟩;refine k.block q hq (λe=>?_);subst e;rcases hg with rfl | ⟨hr0,_⟩
   omega;exact hr r _ _ _ hr0
 refine⟨e,⟨h.len,h.desc,h.nodup,h.low,λid g' b' h1 h2=>?_,by simp[AS.grow,h.Kr],λr' g' n' DQ Qc hr=>?_,λr' n' hr=>?_,λg hg=>Nat.lt_of_lt_of_le (h.T8 g hg) k.size,λg i hb=>Nat.lt_of_lt_of_le (h.SR g i hb) k.size,λr1 r2 g' n1 c1 s1 n2 c2 s2 hr kV=>?_,λg' cs kS=>(h.RN g' cs kS).mono e,Nat.le_trans h.Xh k.size⟩⟩;obtain⟨o',ho,Vw⟩:=h.box id g' b' h1 h2;exact⟨o',by rw[k.block g' (Array.getElem?_eq_some_iff.1 ho).1 (λe=>hp (by rw[<- e];exact List.mem_of_getElem? h1))];exact ho,Vw.mono e⟩;rcases O6 hr with ⟨rfl,h2,_⟩ | ⟨KS,h1⟩
 injection h2 with e1 e2 e3 e4
 subst e1 e2 e3 e4;refine⟨λi Q1=>?_,hb,hp,hlh,vs,T,hw,Q5⟩;rcases hg with rfl | ⟨hr0,_⟩
 have:=h.SR _ i Q1;omega;exact(h.row r' _ _ _ _ hr0).1 i Q1;obtain⟨a1,a2,a3,a4,vs',T',ho,a5⟩:=h.row r' g' n' DQ Qc h1
 have KS:¬g'=g:=λe=>by
   subst e;exact KS (xK r' _ _ _ h1)
 exact⟨a1,a2,a3,a4,vs',T',by rw[k.block g' (Array.getElem?_eq_some_iff.1 ho).1 KS];exact ho,a5⟩;rcases lH hr with ⟨rfl,rfl,_⟩ | ⟨KS,h2⟩
 exact .inr ⟨g,cap,sz,List.getElem?_set_self hrl⟩;simp only;rw[List.getElem?_set_ne (λe=>KS e.symm)];exact h.Lm r' n' h2;rcases O6 hr with ⟨rfl,h2,_⟩ | ⟨hn1,h1⟩<;>rcases O6 kV with ⟨rfl,h4,_⟩ | ⟨hn2,h3⟩
 rfl;injection h2 with e1
 subst e1;exact(xK r2 _ _ _ h3).symm;injection h4 with e1
 subst e1;exact xK r1 _ _ _ h1;exact h.KK r1 r2 g' _ _ _ _ _ _ h1 h3
def St.aio(h:St G c w s){w':World}{n cap sz:Nat}{vs:Array Value}{T:TypeId}(k:sL w w' (λx=>x=w.heap.size))(hn:0 < n)(hlh:n<=cap)(hw:w'.heap[w.heap.size]?=some (.cells vs T (0,0)))(Q5:vs.size=cap*sz) :
   Ext c w { c with rows:=c.rows++[.U7 w.heap.size n cap sz] } w'/\St G { c with rows:=c.rows++[.U7 w.heap.size n cap sz] } w' (s.add n):=by
 obtain⟨e1,st1⟩:=h.tok
 have hl:Ec s.nr s.tok.F=some 0:=by
   simp only[AS.tok,Ec];split;rfl;rename_i hb;exact absurd rfl (beq_false hb)
 have hp:some w.heap.size∉c.C6:=λhm=>by have:=h.Oe hm;omega
 obtain⟨e2,YU⟩:=st1.nW hl (g:=w.heap.size) (n:=n) (cap:=cap) (sz:=sz) k h.Xh hp hn hlh hw Q5 (.inl rfl)
 have hs:(c.rows++[Rw.new]).set s.nr (.U7 w.heap.size n cap sz)=c.rows++[.U7 w.heap.size n cap sz]:=by
   rw[h.Kr,List.set_append_right _ _ (Nat.le_refl _)];simp
 have hf:s.tok.grow s.nr n=s.add n:=by
   simp only[AS.tok,AS.grow,AS.add,ab6];have:Nat.beq s.nr s.nr=true:=Nat.beq_refl _;rw[this]
 simp only[hs] at e2 YU;rw[hf] at YU;exact⟨e1.trans e2,YU⟩
end
end AI
namespace AI
open Go Go.RowKit
def XI{P:Program}{w:World}{t tx ty e:TypeId}{i:TypeInfo}(ht:P.underlying t=some (.slice e))(hi:P.info? e=some i){base:Option Addr}{n cap m:Nat}{x:Value}{news:List Value}(hs:afP P i.size tx x m news w)(iQ:n+m<=cap){w':World}
   (HK:∀a,base=some a->(storeCells (a.add (n*i.size)) news).run P w=.ok () w') (iY:base=none->w'=w) :
   (Builtin.append_ #[t,tx] ty #[.slice base n cap,x]).run P w=.ok (.slice base (n+m) cap) w':=by
 have hc:=hs.cells w rfl;cases base with
 | none =>
   have:=iY rfl;subst this;rcases hs.kind with ⟨e',hk⟩ | hk<;>simp[Builtin.append_,run_underlying ht,run_underlying hk,Go.sizeOf,typeInfo,hi,hs.len,iQ,hc]
 | some a =>
   have:=HK a rfl;rcases hs.kind with ⟨e',hk⟩ | hk<;>simp[Builtin.append_,run_underlying ht,run_underlying hk,Go.sizeOf,typeInfo,hi,hs.len,iQ,hc,this]
def oR{P:Program}{w:World}{t tx ty e:TypeId}{i:TypeInfo}{z:Value}(ht:P.underlying t=some (.slice e))(hi:P.info? e=some i)(hz:i.zero=some z){base:Option Addr}{n cap m:Nat}{x:Value}{olds news:List Value}(hs:afP P i.size tx x m news w)
   (hold:(Builtin.firstCells i.size n (.slice base n cap)).run P { w with drawn:=w.drawn+1 }=.ok olds.toArray { w with drawn:=w.drawn+1 }) (hg:cap < n+m) (h63:n+m<=9223372036854775807) (hb:(n+m)*i.bytes<=140737488355328) :
   ∃DQ,n+m<=DQ/\(Builtin.append_ #[t,tx] ty #[.slice base n cap,x]).run P w=.ok (.slice (some ⟨w.heap.size,0,none⟩) (n+m) DQ) { w with drawn:=w.drawn+1,heap:=w.heap.push (.cells ((olds++news).toArray++Builtin.zeroCells z.cells (DQ - (n+m))) e) }:=by
 have hn:¬(n+m<=cap):=by omega
 have asq:¬(9223372036854775807 < ((n:Int)+(m:Int))):=by omega
 have apf:=growslice_fits hg hb;have asI:¬(281474976710656 < Builtin.nextslicecap (n+m) cap*i.bytes):=by omega
 have hc:=hs.cells { w with drawn:=w.drawn+1 } rfl
 refine⟨(Question.appendCap (n+m) cap e).cut (w.tape w.drawn (.appendCap (n+m) cap e)),by simp[Question.cut],?_⟩;have hc2:(Builtin.firstCells i.size m x).run P w.drew=.ok news.toArray w.drew:=hc;have apz:(Builtin.firstCells i.size n (.slice base n cap)).run P w.drew=.ok olds.toArray w.drew:=hold
 have aeE:olds.toArray++(news.toArray++Builtin.zeroCells z.cells ((Question.appendCap (n+m) cap e).cut (w.tape w.drawn (.appendCap (n+m) cap e)) - (n+m)))=(olds++news).toArray++Builtin.zeroCells z.cells ((Question.appendCap (n+m) cap e).cut (w.tape w.drawn (.appendCap (n+m) cap e)) - (n+m)):=by
   apply Array.ext';simp
 rcases hs.kind with ⟨e',hk⟩ | hk <;>
   (simp[Builtin.append_,run_underlying ht,run_underlying hk,Go.sizeOf,typeInfo,zeroValue,hi,hz,hs.len,hn,asq,asI,Question.forced,hc2,apz,newRow]
    rw[aeE];rfl)
def QR(sz:Nat)(F:List (Nat×Nat))(n:Nat):Own->Bool
 | .full=>true
 | .row r z=>z == sz&&(match Ec r F with | some k=>k == n | none=>false)
 | _=>false
def akE(s:AS)(sz:Nat):Own->Own
 | .row r _=>.row r sz
 | _=>.row s.nr sz
def AS.to(s:AS)(n:Nat):Own->AS
 | .row r _=>s.grow r n
 | _=>s.add n
def PR(P:Program)(s:AS)(t tx:TypeId)(a b:AV):Option (AV×AS) :=
 match P.underlying t with
 | some (.slice e)=>match P.info? e with
   | some i=>match i.zero with
     | some z=>if z.cells.size=i.size/\0 < i.size then (match a,yY P s i.size tx b with
       | .sl own n cs,some (m,ns)=>if cs.length=n*i.size/\ns.all one=true/\(n+m)*i.bytes<=140737488355328/\n+m<=9223372036854775807 then
           (if m=0 then some (.sl own n cs,s)
            else if QR i.size s.F n own=true then some (.sl (akE s i.size own) (n+m) (cs++ns),s.to (n+m) own) else none)
         else none
       | _,_=>none) else none
     | none=>none
   | none=>none
 | _=>none
def ZZ{P:Program}{c:Cx}{w:World}{own:Own}{n size:Nat}{cs:List AV}{v:Value}(h:Rp c w (.sl own n cs) v)(hl:cs.length=n*size) :
   ∃base cap olds,v=.slice base n cap/\n<=cap/\C8 c w cs olds/\olds.length=n*size/\∀w':World,w'.heap=w.heap->(Builtin.firstCells size n (.slice base n cap)).run P w'=.ok olds.toArray w':=by
 cases h with
 | @Ln _ A cap h0 =>
   refine⟨A,cap,[],rfl,Nat.zero_le _,.nil,by simp,λw' _=>?_⟩;cases A with
   | none=>simp[Builtin.firstCells]
   | some a=>simp[Builtin.firstCells,loadCells,loadCellsFrom]
 | @Pg _ _ cap g o _ hn hc ho =>
   obtain⟨vs,hr,Ls⟩:=hc.vals;have hlv:=hr.len;refine⟨_,cap,vs,rfl,hn,hr,by omega,λw' hw=>run_firstCells_some w' size n _ n _ vs (by omega) (λj v hj=>?_)⟩;rw[add_lit,World.cell?_of_block (w:=w) (by rw[hw])];exact(Ls j v hj).2.2
def mN{c:Cx}{w':World}{g n m sz cap:Nat}{T:TypeId}{all olds news:List Value}{rows:List Rw}(hw:w'.heap[g]?=some (.cells all.toArray T (0,0)))(HP:∀(j:Nat) v,(olds++news)[j]?=some v->all[j]?=some v)(hp:some g∉c.C6)(hb:∀i,¬c.bad g i)
   (hol:olds.length=n*sz) (hnl:news.length=m*sz) (acB:∀(r:Nat) n' DQ Qc,rows[r]?=some (.U7 g n' DQ Qc)->n'=n+m/\DQ=cap/\Qc=sz) {j:Nat} {v:Value} (hj:(olds++news)[j]?=some v):Pu { c with rows:=rows } w' g j v:=by
 have hjl:=(List.getElem?_eq_some_iff.1 hj).1;rw[List.length_append] at hjl;refine⟨(Array.getElem?_eq_some_iff.1 hw).1,λhs=>?_,cell_of_heap hw (HP j v hj)⟩;rcases hs with hs | ⟨r,n',DQ,Qc,hr,h1,h2⟩ | hs
 exact hp hs;obtain⟨rfl,rfl,rfl⟩:=acB r n' DQ Qc hr;rw[Nat.add_mul] at h1;omega;exact hb j hs
def yP{P:Program}{G:Bh}{c:Cx}{w:World}{s s':AS}{t tx ty:TypeId}{a b r:AV}{va vb:Value}(hs:St G c w s)(h:PR P s t tx a b=some (r,s'))(ha:Rp c w a va)(hb:Rp c w b vb) :
   ∃u w' c',(Builtin.append_ #[t,tx] ty #[va,vb]).run P w=.ok u w'/\Ext c w c' w'/\St G c' w' s'/\Rp c' w' r u:=by
 unfold PR at h;split at h;rename_i e ht;split at h;rename_i i hi;split at h;rename_i z hz;split at h;rename_i hzs;split at h;rename_i own n cs m ns arO;split at h;rename_i hc;obtain⟨news,hnr,hnl,hsi⟩:=ahR hs arO hb;split at h;rename_i hm;cases h;subst hm;have xX:news=[]:=List.eq_nil_of_length_eq_zero (by simpa using hnl)
 subst xX;obtain⟨base,cap,olds,rfl,adi,_,_,_⟩:=ZZ (P:=P) (size:=i.size) ha hc.1;refine⟨.slice base n cap,w,c,?_,Ext.refl c w,hs,ha⟩;exact XI ht hi hsi (by omega) (λa _=>by simp[storeCells]) (λ_=>rfl);rename_i hm;split at h;rename_i UF;cases h;obtain⟨base,cap,olds,rfl,adi,hor,hol,hfc⟩:=ZZ (P:=P) (size:=i.size) ha hc.1;by_cases iQ:n+m<=cap;cases ha with
 | Ln h0 =>
   exfalso;cases own with
   | full=>have:cap=0:=h0;omega
   | row r z=>have:cap=0:=h0.1;omega
   | lost=>simp[QR] at UF
   | nil=>simp[QR] at UF
   | nn=>simp[QR] at UF
 | @Pg _ _ _ g o _ hn iV ho =>
   cases own with
   | full=>exfalso;have:cap=n:=ho;omega
   | lost=>simp[QR] at UF
   | nil=>simp[QR] at UF
   | nn=>simp[QR] at UF
   | row r0 sz =>
     simp only[QR,Bool.and_eq_true,beq_iff_eq] at UF;obtain⟨rfl,hF⟩:=UF
     have hF:Ec r0 s.F=some n:=by
       split at hF;rename_i k hk;rw[hk,beq_iff_eq.1 hF];cases hF
     obtain⟨rfl,hlen,at3,uH,ao8⟩:=ho;rcases hs.Lm r0 n hF with ⟨h1,_⟩ | ⟨g',DQ,Qc,acB⟩
     exact absurd h1 uH;obtain⟨rfl,rfl,rfl⟩:=(ao8 _ _ _ _ acB).2 rfl;obtain⟨hgb,hbg,hgp,hlh,cur,T,agB,ast⟩:=hs.row r0 g' _ _ _ acB;have apf:n*i.size+news.length<=cur.size:=by rw[hnl,ast,<- Nat.add_mul];exact Nat.mul_le_mul_right _ iQ
     have HK:=run_storeCells_at P g' (n*i.size) T news 0 cur w agB (by simpa using apf) (zQ hnr hc.2.1)
     simp only[Nat.add_zero] at HK;have jP:=setRow_heap w g' cur (cur.toList.take (n*i.size)++news++cur.toList.drop (n*i.size+news.length)).toArray T (0,0) agB
     have ath:cur.toList.take (n*i.size)=olds:=by
       obtain⟨vs,hr,Ls⟩:=iV.vals;have h1:=hfc w rfl;have h2:=run_firstCells_some (P:=P) w i.size n ⟨g',0,none⟩ n DQ vs (by rw[hr.len];exact hc.1) (λj v hj=>by rw[add_lit];exact(Ls j v hj).2.2);rw[h1] at h2;injection h2 with h2 _
       have h3:olds=vs:=by simpa using congrArg Array.toList h2
       subst h3;apply List.ext_getElem?;intro j;rw[List.getElem?_take];by_cases hj:j < n*i.size;rw[if_pos hj];have sG:j < olds.length:=by omega
       have:=(Ls j _ (List.getElem?_eq_getElem sG)).2.2;rw[Nat.zero_add] at this;simp only[World.cell?,agB] at this;rw[List.getElem?_eq_getElem sG,Array.getElem?_toList];simpa using this
       rw[if_neg hj,List.getElem?_eq_none (by omega)]
     obtain⟨x,st⟩:=hs.nW hF (g:=g') (n:=n+m) (cap:=DQ) (sz:=i.size) (T:=T) (dE w g' (cur.toList.take (n*i.size)++news++cur.toList.drop (n*i.size+news.length)).toArray) hbg hgp (by omega) iQ jP (by simp only[List.size_toArray,List.length_append,List.length_take,List.length_drop,Array.length_toList];omega)
       (.inr ⟨acB,λj v hj hv=>by
         rw[List.getElem?_toArray,List.append_assoc,List.getElem?_append_left (by rw[List.length_take,Array.length_toList];omega),List.getElem?_take,if_pos hj];simpa[World.cell?,agB] using hv⟩)
     refine⟨_,_,_,XI ht hi hsi iQ (λa ha=>by cases ha;rw[add_lit,Nat.zero_add];exact HK) (λh=>by cases h),x,st,?_⟩;have hrl:=hs.oP hF;refine .Pg iQ (Bn.Xs ((hor.append hnr).mono x) (λj v hj=>?_)) ⟨rfl,by rw[List.length_append,hc.1,<- hnr.len,hnl,Nat.add_mul],by simpa using hrl,λh2=>?_,λg2 n2 c2 s2 h2=>?_⟩
     rw[Nat.zero_add];refine mN (olds:=olds) (news:=news) (cap:=DQ) jP (λj v hj=>?_) hgp hgb hol hnl (λr n' atV at5 hr=>?_) hj;rw[<- ath] at hj;have hjl:=(List.getElem?_eq_some_iff.1 hj).1;rw[List.getElem?_append_left hjl];exact hj;rcases O6 hr with ⟨rfl,h1,_⟩ | ⟨KS,h1⟩
     injection h1 with _ e2 e3 e4
     exact⟨e2,e3,e4⟩;exact absurd (hs.KK r r0 g' _ _ _ _ _ _ h1 acB) KS;simp only at h2;rw[List.getElem?_set_self hrl] at h2;cases h2;simp only at h2;rw[List.getElem?_set_self hrl] at h2;injection h2 with h2
     injection h2 with e1 e2 e3 e4
     subst e1 e2 e3 e4;exact⟨Nat.le_refl _,λ_=>⟨rfl,rfl,rfl⟩⟩
 obtain⟨DQ,aeR,xN⟩:=oR (ty:=ty) ht hi hz hsi (hfc { w with drawn:=w.drawn+1 } rfl) (by omega) hc.2.2.2 hc.2.2.1
 have hzc:(Builtin.zeroCells z.cells (DQ - (n+m))).size=(DQ - (n+m))*i.size:=by rw[size_zeroCells,hzs.1]
 have hk:sL w { w with drawn:=w.drawn+1,heap:=w.heap.push (.cells ((olds++news).toArray++Builtin.zeroCells z.cells (DQ - (n+m))) e) } (λx=>x=w.heap.size) :=
   ⟨rfl,rfl,rfl,by simp,λk hk _=>by simp[Array.getElem?_push];intro h;omega⟩
 have jP:({ w with drawn:=w.drawn+1,heap:=w.heap.push (.cells ((olds++news).toArray++Builtin.zeroCells z.cells (DQ - (n+m))) e) }:World).heap[w.heap.size]?=some (.cells ((olds++news).toArray++Builtin.zeroCells z.cells (DQ - (n+m))) e (0,0)):=by simp
 have apP:({ w with drawn:=w.drawn+1,heap:=w.heap.push (.cells ((olds++news).toArray++Builtin.zeroCells z.cells (DQ - (n+m))) e) }:World).heap[w.heap.size]?=some (.cells ((olds++news)++(Builtin.zeroCells z.cells (DQ - (n+m))).toList).toArray e (0,0)):=by
   rw[jP];congr 2;apply Array.ext';simp
 have hpn:some w.heap.size∉c.C6:=λhm=>by have:=hs.Oe hm;omega
 have hbn:∀i,¬c.bad w.heap.size i:=λi hb=>by have:=hs.SR _ i hb;omega
 have Q5:((olds++news).toArray++Builtin.zeroCells z.cells (DQ - (n+m))).size=DQ*i.size:=by
   simp only[Array.size_append,List.size_toArray,List.length_append,hol,hnl,hzc,<- Nat.add_mul];congr 1;omega
 have aqt:∀(r:Nat) n' c' s',c.rows[r]?≠some (.U7 w.heap.size n' c' s'):=λr n' c' s' hr=>by have:=hs.Xd hr;omega
 have fin:∀(rows:List Rw) (r:Nat),rows[r]?=some (.U7 w.heap.size (n+m) DQ i.size)->(∀(r':Nat) n' c' s',rows[r']?=some (.U7 w.heap.size n' c' s')->n'=n+m/\c'=DQ/\s'=i.size)->Ext c w { c with rows:=rows } { w with drawn:=w.drawn+1,heap:=w.heap.push (.cells ((olds++news).toArray++Builtin.zeroCells z.cells (DQ - (n+m))) e) } ->
     Rp { c with rows:=rows } { w with drawn:=w.drawn+1,heap:=w.heap.push (.cells ((olds++news).toArray++Builtin.zeroCells z.cells (DQ - (n+m))) e) } (.sl (.row r i.size) (n+m) (cs++ns)) (.slice (some ⟨w.heap.size,0,none⟩) (n+m) DQ):=by
   intro rows r hr HP x;refine .Pg aeR (Bn.Xs ((hor.append hnr).mono x) (λj v hj=>?_)) ⟨rfl,by rw[List.length_append,hc.1,<- hnr.len,hnl,Nat.add_mul],(List.getElem?_eq_some_iff.1 hr).1,λh2=>?_,λg2 n2 c2 s2 h2=>?_⟩;rw[Nat.zero_add];refine mN (olds:=olds) (news:=news) (cap:=DQ) apP (λj v hj=>?_) hpn hbn hol hnl HP hj;rw[List.getElem?_append_left (List.getElem?_eq_some_iff.1 hj).1];exact hj;simp only at h2;rw[hr] at h2;cases h2;simp only at h2;rw[hr] at h2;injection h2 with h2
   injection h2 with e1 e2 e3 e4
   subst e1 e2 e3 e4;exact⟨Nat.le_refl _,λ_=>⟨rfl,rfl,rfl⟩⟩
 have ahl:∀r sz,QR i.size s.F n (.row r sz)=true->∃u w' c',(Builtin.append_ #[t,tx] ty #[.slice base n cap,vb]).run P w=.ok u w'/\Ext c w c' w'/\St G c' w' (s.grow r (n+m))/\Rp c' w' (.sl (.row r i.size) (n+m) (cs++ns)) u:=by
   intro r sz UF;simp only[QR,Bool.and_eq_true,beq_iff_eq] at UF
   have hF:Ec r s.F=some n:=by
     have hF:=UF.2;split at hF;rename_i k hk;rw[hk,beq_iff_eq.1 hF];cases hF
   have hrl:=hs.oP hF;obtain⟨x,st⟩:=hs.nW hF (g:=w.heap.size) (n:=n+m) (cap:=DQ) (sz:=i.size) (T:=e) hk hs.Xh hpn (by omega) aeR jP Q5 (.inl rfl);refine⟨_,_,_,xN,x,st,fin _ r (List.getElem?_set_self hrl) (λr' n' c' s' hr=>?_) x⟩;rcases O6 hr with ⟨rfl,h1,_⟩ | ⟨KS,h1⟩
   injection h1 with _ e2 e3 e4
   exact⟨e2,e3,e4⟩;exact absurd h1 (aqt _ _ _ _)
 cases own with
 | lost=>simp[QR] at UF
 | nil=>simp[QR] at UF
 | nn=>simp[QR] at UF
 | row r sz=>exact ahl r sz UF
 | full =>
   obtain⟨x,st⟩:=hs.aio (n:=n+m) (cap:=DQ) (sz:=i.size) (T:=e) hk (by omega) aeR jP Q5;refine⟨_,_,_,xN,x,st,fin _ s.nr (by rw[hs.Kr];exact List.getElem?_concat_length) (λr' n' c' s' hr=>?_) x⟩;by_cases uW:r' < c.rows.length;rw[List.getElem?_append_left uW] at hr;exact absurd hr (aqt _ _ _ _);have hl:=(List.getElem?_eq_some_iff.1 hr).1;simp at hl;have:r'=c.rows.length:=by omega
   subst this;rw[List.getElem?_concat_length] at hr;injection hr with hr
   injection hr with _ e2 e3 e4
   exact⟨e2.symm,e3.symm,e4.symm⟩
 cases h;cases h;cases h;cases h;cases h;cases h;cases h
end AI
namespace AI
open Go Go.RowKit
def plainKey:TypeDesc->Bool
 | .int _ | .string | .bool=>true
 | _=>false
def Yg:TypeDesc->Value->Value->Option Bool
 | .int _,.int k a,.int k' b=>if k=k' then some (a == b) else none
 | .string,.string a,.string b=>some (a.data.toList == b.data.toList)
 | .bool,.bool a,.bool b=>some (a == b)
 | _,_,_=>none
def ac3(a b:ByteArray):(a == b)=(a.data.toList == b.data.toList):=by
 obtain⟨⟨a⟩⟩:=a;obtain⟨⟨b⟩⟩:=b;show((⟨a⟩:Array UInt8) == ⟨b⟩)=(a == b);simp
def dT(d:TypeDesc)(a b:Value):Instr.sameNow d a b=Yg d a b:=by
 unfold Yg;split<;>simp_all [Instr.sameNow,ac3]
def eB{d:TypeDesc}{a b:Value}(h:Yg d a b=some true):Instr.sameBits 10000 b a=true:=by
 unfold Yg at h;split at h;split at h;rename_i e;subst e;simp at h;subst h;simp[Instr.sameBits];cases h;rename_i x y;simp only[Option.some.injEq,beq_iff_eq] at h;simp[Instr.sameBits,ac3,h];simp at h;subst h;simp[Instr.sameBits];cases h
def Wd(d:TypeDesc)(k:Value):List (Value×AV×Nat)->Nat->Option (Option (Nat×AV))
 | [],_=>some none
 | e::es,i=>match Yg d k e.1 with
   | some true=>some (some (i,e.2.1))
   | some false=>Wd d k es (i+1)
   | none=>none
def SA{c:Cx}{w:World}{d:TypeDesc}{k:Value}{es:List (Value×AV×Nat)}{fs:List MapEntry}(h:Mk c w es fs){i:Nat}{r:Option (Nat×AV)}(hf:Wd d k es i=some r) :
   (r=none/\Instr.findNow d k fs i=some none)\/∃j a v e f,r=some (i+j,a)/\Instr.findNow d k fs i=some (some (i+j,v))/\Rp c w a v/\es[j]?=some e/\fs[j]?=some f/\e.2.1=a/\f.val=v/\f.key=e.1/\f.born=e.2.2/\Yg d k e.1=some true:=by
 induction h generalizing i r with
 | nil=>simp[Wd] at hf;subst hf;exact .inl ⟨rfl,rfl⟩
 | @cons k' a v b es fs h1 _ ih =>
   simp only[Wd] at hf;split at hf;rename_i hs;cases hf;refine .inr ⟨0,a,v,(k',a,b),⟨k',v,b⟩,rfl,?_,h1,rfl,rfl,rfl,rfl,rfl,rfl,hs⟩;simp only[Instr.findNow,dT,hs,Nat.add_zero];rename_i hs;rcases ih hf with ⟨h2,h3⟩ | ⟨j,a',v',e,f,h2,h3,h4,h5,h6,h7⟩
   refine .inl ⟨h2,?_⟩;simp only[Instr.findNow,dT,hs];exact h3;refine .inr ⟨j+1,a',v',e,f,by rw[h2];congr 2;omega,?_,h4,by simpa using h5,by simpa using h6,h7⟩
   simp only[Instr.findNow,dT,hs];rw[h3];congr 3;omega;cases hf
def Mk.set{c:Cx}{w:World}{es:List (Value×AV×Nat)}{fs:List MapEntry}(h:Mk c w es fs){k:Value}{a:AV}{v:Value}{b:Nat}(hr:Rp c w a v)(i:Nat):Mk c w (es.set i (k,a,b)) (fs.set i ⟨k,v,b⟩):=by
 induction h generalizing i with
 | nil=>exact .nil
 | cons h1 t ih =>
   cases i with
   | zero=>exact .cons hr t
   | succ i=>exact .cons h1 (ih i)
def Mk.snoc{c:Cx}{w:World}{es:List (Value×AV×Nat)}{fs:List MapEntry}(h:Mk c w es fs){k:Value}{a:AV}{v:Value}{b:Nat}(hr:Rp c w a v):Mk c w (es++[(k,a,b)]) (fs++[⟨k,v,b⟩]):=by
 induction h with
 | nil=>exact .cons hr .nil
 | cons h1 _ ih=>exact .cons h1 ih
def Mk.len{c:Cx}{w:World}{es:List (Value×AV×Nat)}{fs:List MapEntry}(h:Mk c w es fs):fs.length=es.length:=by
 induction h with
 | nil=>rfl
 | cons _ _ ih=>simp[ih]
def Yo{G:Bh}{c:Cx}{w:World}{s:AS}(hs:St G c w s){id g:Nat}{es:List (Value×AV×Nat)}{clock:Nat}(hid:c.C6[id]?=some (some g))(hb:s.get id=some (.map es clock)):∃fs,w.heap[g]?=some (.map fs.toArray clock)/\Mk c w es fs:=by
 obtain⟨o,ho,hbo⟩:=hs.box id g _ hid hb;cases hbo with
 | map h1=>exact⟨_,ho,h1⟩
def Ks{P:Program}{w:World}{g:Nat}{es:Array MapEntry}{cl:Nat}(h:w.heap[g]?=some (.map es cl)):(getObj g).run P w=.ok (.map es cl) w:=by simp[getObj,Sem.run,h]
def QH{P:Program}{w:World}{g:Nat}{es:Array MapEntry}{cl:Nat}(o:Obj)(h:w.heap[g]?=some (.map es cl)):(setObj g o).run P w=.ok () { w with heap:=w.heap.setIfInBounds g o }:=by simp[setObj,Sem.run,h]
def X1(w:World)(g:Nat)(o:Obj):sL w { w with heap:=w.heap.setIfInBounds g o } (λx=>x=g) :=
 ⟨rfl,rfl,rfl,by simp,λk _ KS=>by simp only;rw[Array.getElem?_setIfInBounds_ne (λe=>KS e.symm)]⟩
def XW(w:World){g:Nat}{o o':Obj}(h:w.heap[g]?=some o'):({ w with heap:=w.heap.setIfInBounds g o }:World).heap[g]?=some o:=by
 have:=(Array.getElem?_eq_some_iff.1 h).1;simp[this]
def run_checkKey{P:Program}{kt:TypeId}{kd:TypeDesc}{v:Value}(b:Bool)(h:P.underlying kt=some kd)(hp:plainKey kd=true)(w:World):(Instr.checkKey b 10000 kt v).run P w=.ok () w:=by
 unfold Instr.checkKey;rw[Sem.run_bind,run_underlying h];cases kd<;>first | (simp[plainKey] at hp;done) | rfl
def run_findKey{P:Program}{kt:TypeId}{kd:TypeDesc}{v:Value}{es:List MapEntry}{r:Option (Nat×Value)}(h:P.underlying kt=some kd)(hf:Instr.findNow kd v es 0=some r)(w:World):(Instr.findKey kt v es).run P w=.ok r w:=by
 unfold Instr.findKey;rw[Sem.run_bind,run_underlying h];simp[hf]
def JF(P:Program)(t:TypeId):Option AV :=
 match P.info? t with
 | some i=>match i.zero with
   | some z=>Z8 z
   | none=>none
 | none=>none
def kQ{P:Program}{t:TypeId}{a:AV}(h:JF P t=some a):UL a=false:=by
 unfold JF at h;split at h;split at h;exact yM h;cases h;cases h
def Yb{P:Program}{t:TypeId}{a:AV}(h:JF P t=some a)(c:Cx)(w w0:World):∃z,(zeroValue t).run P w0=.ok z w0/\Rp c w a z:=by
 unfold JF at h;split at h;rename_i i hi;split at h;rename_i z hz;exact⟨z,by simp[zeroValue,typeInfo,hi,hz],sZ h c w⟩;cases h;cases h
def H3(P:Program)(s:AS)(t:TypeId)(x k:AV)(ok:Bool):Option AV :=
 match P.underlying t with
 | some (.map kt et)=>match P.underlying kt,TG k with
   | some kd,some key=>if plainKey kd=true then
       (match (match x with
         | .sc (.map none)=>some []
         | .mp id=>match s.get id with
           | some (.map es _)=>some es
           | _=>none
         | _=>none) with
       | some es=>match Wd kd key es 0 with
         | some (some (_,v))=>some (if ok then .Bj [v,.sc (.bool true)] else v)
         | some none=>(JF P et).map λz=>if ok then .Bj [z,.sc (.bool false)] else z
         | none=>none
       | none=>none) else none
   | _,_=>none
 | _=>none
def afh(w:World)(vx:Value)(fs:List MapEntry):Prop:=(vx=.map none/\fs=[])\/∃g cl,vx=.map (some g)/\w.heap[g]?=some (.map fs.toArray cl)
def aV{P:Program}{w:World}{t kt et:TypeId}{kd:TypeDesc}{vx vk v:Value}{fs:List MapEntry}{j:Nat}(ok:Bool)(hu:P.underlying t=some (.map kt et))(kG:P.underlying kt=some kd)(hp:plainKey kd=true)(hm:afh w vx fs)(hf:Instr.findNow kd vk fs 0=some (some (j,v))) :
   (Instr.lookup t vx vk ok).run P w=.ok (if ok then .tuple #[v,.bool true] else v) w:=by
 rcases hm with ⟨rfl,rfl⟩ | ⟨g,cl,rfl,hg⟩
 simp[Instr.findNow] at hf;simp only[Instr.lookup,Sem.run_bind,run_underlying hu,Result.andThen_ok,Ks hg,Sem.run_pure,run_checkKey _ kG hp,run_findKey kG hf]
def bH{P:Program}{w:World}{t kt et:TypeId}{kd:TypeDesc}{vx vk z:Value}{fs:List MapEntry}(ok:Bool)(hu:P.underlying t=some (.map kt et))(kG:P.underlying kt=some kd)(hp:plainKey kd=true)(hm:afh w vx fs)(hf:Instr.findNow kd vk fs 0=some none)(hz:(zeroValue et).run P w=.ok z w) :
   (Instr.lookup t vx vk ok).run P w=.ok (if ok then .tuple #[z,.bool false] else z) w:=by
 rcases hm with ⟨rfl,rfl⟩ | ⟨g,cl,rfl,hg⟩
 simp only[Instr.lookup,Sem.run_bind,run_underlying hu,Result.andThen_ok,Sem.run_pure,run_checkKey _ kG hp];rw[run_findKey kG hf];simp only[Sem.run_bind,hz,Result.andThen_ok,Sem.run_pure];simp only[Instr.lookup,Sem.run_bind,run_underlying hu,Result.andThen_ok,Ks hg,Sem.run_pure,run_checkKey _ kG hp,run_findKey kG hf,hz]
def xR{P:Program}{G:Bh}{c:Cx}{w:World}{s:AS}{t:TypeId}{x k r:AV}{ok:Bool}{vx vk:Value}(hs:St G c w s)(h:H3 P s t x k ok=some r)(hx:Rp c w x vx)(hk:Rp c w k vk) :
   ∃u,(Instr.lookup t vx vk ok).run P w=.ok u w/\Rp c w r u:=by
 unfold H3 at h;split at h;rename_i kt et hu;split at h;rename_i kd key kG afT;have:=Vg afT hk;subst this;split at h;rename_i hp;split at h;rename_i es hes
 obtain⟨fs,hfs,hm⟩:∃fs,Mk c w es fs/\afh w vx fs:=by
   split at hes;cases hes;cases hx;exact⟨[],.nil,.inl ⟨rfl,rfl⟩⟩;split at hes;rename_i es' cl hb;cases hes;cases hx with
   | mp hid =>
     obtain⟨fs,hw,he⟩:=Yo hs hid hb;exact⟨fs,he,.inr ⟨_,_,rfl,hw⟩⟩
   cases hes;cases hes
 split at h;rename_i j v hf;cases h;rcases SA hfs hf with ⟨h1,_⟩ | ⟨j',a,v',e,f,h1,h2,h3,_⟩
 cases h1;injection h1 with h1
 injection h1 with _ h1
 subst h1;refine⟨_,aV ok hu kG hp hm h2,?_⟩;cases ok;exact h3;exact .Bj (vs:=[v',.bool true]) (.cons h3 (.cons (.sc rfl) .nil));rename_i hf;cases hz:JF P et with
 | none=>rw[hz] at h;cases h
 | some z =>
   rw[hz] at h;cases h;rcases SA hfs hf with ⟨_,h2⟩ | ⟨j',a,v',e,f,h1,_⟩
   obtain⟨zv,zM,hzp⟩:=Yb hz c w w;refine⟨_,bH ok hu kG hp hm h2 zM,?_⟩;cases ok;exact hzp;exact .Bj (vs:=[zv,.bool false]) (.cons hzp (.cons (.sc rfl) .nil));cases h1
 cases h;cases h;cases h;cases h;cases h
def K9(P:Program)(s:AS)(t:TypeId)(x k v:AV):Option AS :=
 match P.underlying t with
 | some (.map kt _)=>match P.underlying kt,TG k,x with
   | some kd,some key,.mp id=>if plainKey kd=true then
       (match s.get id with
       | some (.map es cl)=>match Wd kd key es 0 with
         | some (some (j,_))=>match es[j]? with
           | some e=>some (s.put id (.map (es.set j (key,v,e.2.2)) cl))
           | none=>none
         | some none=>some (s.put id (.map (es++[(key,v,cl)]) (cl+1)))
         | none=>none
       | _=>none) else none
   | _,_,_=>none
 | _=>none
def WI{fs:List MapEntry}{j:Nat}{f g:MapEntry}{F:MapEntry->MapEntry}(h:fs[j]?=some f)(hF:F f=g):fs.toArray.modify j F=(fs.set j g).toArray:=by
 apply Array.ext';rw[List.modify_toArray];apply List.ext_getElem?;intro i;rw[List.getElem?_modify,List.getElem?_set];by_cases e:j=i;subst e;obtain⟨hl,he⟩:=List.getElem?_eq_some_iff.1 h;simp[hl,he,hF];simp[e]
def dG{P:Program}{G:Bh}{c:Cx}{w:World}{s s':AS}{t:TypeId}{x k v:AV}{vx vk vv:Value}(hs:St G c w s)(h:K9 P s t x k v=some s')(hx:Rp c w x vx)(hk:Rp c w k vk)(hv:Rp c w v vv) :
   ∃w',(Instr.mapUpdate t vx vk vv).run P w=.ok () w'/\Ext c w c w'/\St G c w' s':=by
 unfold K9 at h;split at h;rename_i kt et hu;split at h;rename_i kd key id kG afT;have:=Vg afT hk;subst this;split at h;rename_i hp;split at h;rename_i es cl hb;cases hx with
 | @mp _ g hid =>
   obtain⟨fs,hw,he⟩:=Yo hs hid hb;split at h;rename_i j a hf;split at h;rename_i e hej;cases h;rcases SA he hf with ⟨h1,_⟩ | ⟨j',a',v',e',f,h1,h2,h3,h4,h5,h6,h7,h8,h9,h10⟩
   cases h1;injection h1 with h1
   injection h1 with h1 _
   rw[Nat.zero_add] at h1;subst h1;rw[hej] at h4;cases h4;rw[Nat.zero_add] at h2;have acY:fs.toArray.modify j (λe=>{ e with key:=vk,val:=vv })=(fs.set j ⟨vk,vv,e.2.2⟩).toArray:=WI h5 (by rw[<- h9])
   obtain⟨x1,st⟩:=hs.put (b:=.map (es.set j (vk,v,e.2.2)) cl) (o:=.map (fs.set j ⟨vk,vv,e.2.2⟩).toArray cl) hid (X1 w g _) (XW w hw) (.map (he.set hv j));refine⟨_,?_,x1,st⟩;have aey:=eB h10;have u9:=run_findKey (P:=P) kG h2 w;simp only[Instr.mapUpdate,Sem.run_bind,run_underlying hu,Result.andThen_ok,Ks hw,run_checkKey _ kG hp,u9,List.getElem?_toArray,h5,Option.map_some,Option.getD_some,h8,Instr.keyThatStays,aey,if_true,Sem.run_pure,acY];exact QH _ hw;cases h;rename_i hf;cases h;rcases SA he hf with ⟨_,h2⟩ | ⟨j',a',v',e',f,h1,_⟩
   obtain⟨x1,st⟩:=hs.put (b:=.map (es++[(vk,v,cl)]) (cl+1)) (o:=.map (fs++[(⟨vk,vv,cl⟩:MapEntry)]).toArray (cl+1)) hid (X1 w g _) (XW w hw) (.map (he.snoc hv));refine⟨_,?_,x1,st⟩;have u9:=run_findKey (P:=P) kG h2 w;have adK:fs.toArray.push (⟨vk,vv,cl⟩:MapEntry)=(fs++[(⟨vk,vv,cl⟩:MapEntry)]).toArray:=by simp
   simp only[Instr.mapUpdate,Sem.run_bind,run_underlying hu,Result.andThen_ok,Ks hw,run_checkKey _ kG hp,u9,adK];exact QH _ hw;cases h1;cases h
 cases h;cases h;cases h;cases h
def rR{P:Program}{G:Bh}{c:Cx}{w:World}{s:AS}{t:TypeId}(hs:St G c w s) :
   ∃v' w' c',(Instr.makeMap t none).run P w=.ok v' w'/\Ext c w c' w'/\St G c' w' (s.new (.map [] 0))/\Rp c' w' (.mp s.nx) v':=by
 obtain⟨e,st⟩:=hs.new (b:=.map [] 0) (o:=.map #[] 0) (.map (fs:=[]) .nil);refine⟨.map (some w.heap.size),_,_,?_,e,st,.mp ?_⟩;simp[Instr.makeMap];simp[hs.len]
def aK(P:Program)(s:AS)(t:TypeId)(a:AV):Option AV :=
 match P.underlying t,a with
 | some .string,.sc (.string x)=>some (.sc (.int .i64 x.data.toList.length))
 | some (.slice _),.sl _ n _=>some (.sc (.int .i64 n))
 | some (.slice _),.G2 _ _ n=>some (.sc (.int .i64 n))
 | some (.map _ _),.sc (.map none)=>some (.sc (.int .i64 0))
 | some (.map _ _),.mp id=>match s.get id with
   | some (.map es _)=>some (.sc (.int .i64 es.length))
   | _=>none
 | _,_=>none
def ahP{P:Program}{G:Bh}{c:Cx}{w:World}{s:AS}{t ty:TypeId}{a r:AV}{v:Value}(hs:St G c w s)(h:aK P s t a=some r)(ha:Rp c w a v):∃u,(Builtin.len_ #[t] ty #[v]).run P w=.ok u w/\Rp c w r u:=by
 unfold aK at h;split at h;rename_i x hu;cases h;cases ha;exact⟨_,by simp[Builtin.len_,run_underlying hu,goInt],.sc rfl⟩;rename_i hu;cases h;cases ha<;>exact⟨_,by simp[Builtin.len_,run_underlying hu,goInt],.sc rfl⟩
 rename_i hu;cases h;cases ha;exact⟨_,by simp[Builtin.len_,run_underlying hu,goInt],.sc rfl⟩;rename_i hu;cases h;cases ha;exact⟨_,by simp[Builtin.len_,run_underlying hu,goInt],.sc rfl⟩;rename_i hu;split at h;rename_i es cl hb;cases h;cases ha with
 | mp hid =>
   obtain⟨fs,hw,he⟩:=Yo hs hid hb;exact⟨_,by simp[Builtin.len_,run_underlying hu,Ks hw,he.len,goInt],.sc rfl⟩
 cases h;cases h
def nX:AV->AV
 | .sl _ n cs=>.sl .lost n cs
 | a=>a
def ach{c:Cx}{w:World}{a:AV}{v:Value}(h:Rp c w a v):Rp c w (nX a) v:=by
 cases h with
 | Ln h=>exact .Ln trivial
 | Pg h1 h2 h3=>exact .Pg h1 h2 trivial
 | sc h=>exact .sc h
 | agg h=>exact .agg h
 | Bj h=>exact .Bj h
 | G2 h1 h2=>exact .G2 h1 h2
 | el h=>exact .el h
 | ptr h=>exact .ptr h
 | fn h1 h2=>exact .fn h1 h2
 | TW h=>exact .TW h
 | mp h=>exact .mp h
 | any h=>exact .any h
 | raw=>exact .raw
def iF{c:Cx}{w:World}:∀{l:List AV} {vs:List Value},C8 c w l vs->C8 c w (l.map nX) vs
 | _,_,.nil=>.nil
 | _,_,.cons h t=>.cons (ach h) (iF t)
def uG(l:List Value):Option (List AV):=(L9 l).map (List.map nX)
def Iq(P:Program)(s:AS)(t:TypeId)(l c:AV):Option (AV×AS) :=
 match P.underlying t with
 | some (.slice elem)=>match P.info? elem,Su l,Su c with
   | some e,some n,some m=>match e.zero with
     | some z=>match L9 z.cells.toList with
       | some zs=>if n=m/\n<=16777216/\n*e.bytes<=281474976710656/\zs.isEmpty=false then some (.G2 s.nx 0 n,s.new (.cells ((List.range (n*e.size)).map λi=>zs.getD (i % zs.length) (.sc undef)))) else none
       | none=>none
     | none=>none
   | _,_,_=>none
 | _=>none
end AI
