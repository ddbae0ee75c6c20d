/- Part of a proof: see the last text. -/
import Derived.Test.YtpbkhogolfegfaaGreatDoorPna
import Derived.Laws.CopyRow
import Derived.Laws.AppendOwn
set_option linter.unusedVariables false
set_option linter.unusedSimpArgs false
set_option linter.defProp false
noncomputable section
open Array renaming eq_empty_of_size_eq_zero->boJ,toArray_toList->blC
open Bool renaming and_eq_true->bcA
open Go renaming sizeOf->bpB
open Go.Instr renaming box->bpZ,build->brO,loadAt->bnW,storeAt->bsE,sureAddr->blJ
open Go.Result renaming andThen_ok->biS
open Go.Sem renaming run_bind->biV,run_pure->bjX
open Go.World renaming setRow->bsQ
open List renaming all_cons->bnA,getElem?_eq_some_iff->abH
open Nat renaming add_zero->bkH,zero_add->bcD
open Option renaming isSome_iff_exists->bnN
namespace AI
open Go Go.RowKit
def pv{α:Type}(P:Program):Sem α->Option α
 | .pure a=>some a
 | .program k=>pv P (k P)
 | .mark _ k=>pv P k
 | _=>none
def auT{α:Type}{P:Program}(s:Sem α){a:α}(h:pv P s=some a)(w:World):s.run P w=.ok a w:=by
 induction s with
 | pure b=>simp[pv] at h;subst h;rfl
 | program k ih=>exact ih P (by simpa[pv] using h)
 | mark m k ih=>exact ih (by simpa[pv] using h)
 | _=>simp[pv] at h
def YN(v:Value):Option AV :=
 match v with
 | .slice none 0 0=>some (.sl .full 0 [])
 | .func f first caps=>if first.size=0/\caps.size=0 then some (.fn f [] []) else none
 | v=>if scalar v then some (.sc v) else none
def ML:List Value->Option (List AV)
 | []=>some []
 | v::vs=>match YN v,ML vs with
   | some a,some as=>some (a::as)
   | _,_=>none
def ZJ(v:Value):Option AV :=
 match v with
 | .agg cs=>(ML cs.toList).map .agg
 | v=>YN v
def nH{v:Value}{a:AV}(h:YN v=some a)(c:Cx)(w:World):Rp c w a v:=by
 unfold YN at h;split at h;cases h;exact .sl0 rfl;rename_i f first caps
 split at h;rename_i hz;cases h;have h1:first=#[]:=boJ hz.1
 have h2:caps=#[]:=boJ hz.2;subst h1 h2;exact .fn (us:=[]) (vs:=[]) .nil .nil;cases h;split at h;rename_i hs;cases h;exact .sc hs;cases h
def Sn{vs:List Value}{as:List AV}(h:ML vs=some as)(c:Cx)(w:World):Cv c w as vs:=by
 induction vs generalizing as with
 | nil=>simp[ML] at h;subst h;exact .nil
 | cons v vs ih =>
   simp only[ML] at h;split at h;rename_i a bs h1 h2;cases h;exact .cons (nH h1 c w) (ih h2);cases h
def wW{v:Value}{a:AV}(h:ZJ v=some a)(c:Cx)(w:World):Rp c w a v:=by
 unfold ZJ at h;split at h
 · rename_i cs
   cases hc:ML cs.toList with
   | none=>rw[hc] at h;cases h
   | some as =>
     rw[hc] at h;cases h;have:=Rp.agg (Sn hc c w);rwa[blC] at this
 exact nH h c w
def cellsOf:AV->List AV
 | .agg cs=>cs
 | v=>[v]
def VE:AV->Bool
 | .any=>true
 | _=>false
def R7{c:Cx}{w:World}{a:AV}{v:Value}(h:Rp c w a v)(hn:VE a=false):Cv c w (cellsOf a) v.cells.toList:=by
 cases h with
 | agg h1=>simpa[cellsOf,Value.cells] using h1
 | sc h1 =>
   cases v<;>first | (simp[scalar] at h1;done) | exact .cons (.sc h1) .nil
 | E9 h1=>exact .cons (.E9 h1) .nil
 | sl0 h1=>exact .cons (.sl0 h1) .nil
 | K6 a1 a2 a3=>exact .cons (.K6 a1 a2 a3) .nil
 | msl a1 a2=>exact .cons (.msl a1 a2) .nil
 | el a1=>exact .cons (.el a1) .nil
 | ptr a1=>exact .cons (.ptr a1) .nil
 | fn a1 a2=>exact .cons (.fn a1 a2) .nil
 | ifc a1=>exact .cons (.ifc a1) .nil
 | mp a1=>exact .cons (.mp a1) .nil
 | any a1=>cases hn
 | raw=>exact .cons .raw .nil
def one:AV->Bool
 | .agg _ | .E9 _ | .any=>false
 | .sc (.tuple _)=>false
 | _=>true
def aRU{c:Cx}{w:World}{a:AV}{v:Value}(h:Rp c w a v)(ho:one a=true):v.oneCell'=true:=by
 cases h with
 | sc h1 =>
   cases v<;>first | rfl | (simp[scalar] at h1;done) | (simp[one] at ho;done)
 | agg=>simp[one] at ho
 | E9=>simp[one] at ho
 | any=>simp[one] at ho
 | _=>rfl
def bT{c:Cx}{w:World}{as:List AV}{vs:List Value}(h:Cv c w as vs)(ho:as.all one=true):∀v∈vs,v.oneCell'=true:=by
 induction as generalizing vs with
 | nil=>cases h;simp
 | cons a as ih =>
   cases h with
   | cons h1 t =>
     simp only[bnA,bcA] at ho;intro v hv;rcases List.mem_cons.1 hv with hv | hv
     subst hv;exact aRU h1 ho.1;exact ih t ho.2 v hv
def O8:TypeDesc->Bool
 | .struct _ | .array _ _=>true
 | _=>false
def apart(P:Program)(t:TypeId)(cs:List AV)(off:Nat):Option AV :=
 match P.underlying t,P.info? t with
 | some d,some i=>if O8 d then (if off+i.size<=cs.length then some (.agg ((cs.drop off).take i.size)) else none) else cs[off]?
 | _,_=>none
def nS{P:Program}{t:TypeId}{d:TypeDesc}(h:P.underlying t=some d)(w:World):(isAgg t).run P w=.ok (O8 d) w:=by
 unfold isAgg;rw[biV,run_underlying h];cases d<;>rfl
def CG{P:Program}{t:TypeId}{i:TypeInfo}(h:P.info? t=some i)(w:World):(bpB t).run P w=.ok i.size w:=by
 simp[bpB,typeInfo,h]
def add_lit(g o i:Nat):(⟨g,o,none⟩:Addr).add i=⟨g,o+i,none⟩:=by unfold Addr.add;split<;>simp_all
def VU{P:Program}{c:Cx}{w:World}{t:TypeId}{cs:List AV}{vs:List Value}{g o off:Nat}{a:AV}(h:apart P t cs off=some a)(hr:Cv c w cs vs)(hc:∀(i:Nat) v,vs[i]?=some v->w.cell? ⟨g,o+i,none⟩=some v) :
   ∃u,(loadVar t ⟨g,o+off,none⟩).run P w=.ok u w/\Rp c w a u:=by
 unfold apart at h;split at h;rename_i d i hu hi;unfold loadVar;rw[biV,nS hu];by_cases hd:O8 d=true;rw[if_pos hd] at h;split at h;rename_i hl;cases h;have hlen:=hr.len;refine⟨.agg ((vs.drop off).take i.size).toArray,?_,.agg ((hr.drop off).take i.size)⟩;have hll:((vs.drop off).take i.size).length=i.size:=by rw[List.length_take,List.length_drop];omega
 have:=run_loadCells_list (P:=P) w ⟨g,o+off,none⟩ ((vs.drop off).take i.size) (λj v hj=>by
   rw[add_lit]
   have hj2:vs[off+j]?=some v:=by
     rw[List.getElem?_take] at hj;split at hj;rw[List.getElem?_drop] at hj;exact hj;cases hj
   have:=hc (off+j) v hj2;rwa[Nat.add_assoc])
 rw[hll] at this;simp[hd,CG hi,this];cases h;rw[if_neg hd] at h;obtain⟨v,hv,hrv⟩:=hr.get h;have:=hc off v hv;exact⟨v,by simp[hd,this],hrv⟩;cases h
def dA{P:Program}{c:Cx}{w:World}{t:TypeId}{cs:List AV}{vs:List Value}{off:Nat}{a:AV}(h:apart P t cs off=some a)(hr:Cv c w cs vs)(w0:World) :
   ∃u,(part t vs.toArray off).run P w0=.ok u w0/\Rp c w a u:=by
 unfold apart at h;split at h;rename_i d i hu hi;unfold part;rw[biV,nS hu];by_cases hd:O8 d=true;rw[if_pos hd] at h;split at h;cases h;refine⟨.agg ((vs.drop off).take i.size).toArray,?_,.agg ((hr.drop off).take i.size)⟩;simp only[hd,biS,if_true,biV,CG hi,bjX];congr 2;apply Array.ext';simp[List.extract_eq_take_drop];cases h;rw[if_neg hd] at h;obtain⟨v,hv,hrv⟩:=hr.get h;exact⟨v,by simp[hd,hv],hrv⟩;cases h
def JL(P:Program)(s:AS)(t:TypeId):AV->Option AV
 | .ptr id off=>match s.get id with
   | some (.cells cs)=>apart P t cs off
   | _=>none
 | .el cs=>apart P t cs 0
 | _=>none
def Rr{G:AK}{c:Cx}{w:World}{s:AS}(hs:St G c w s){id g:Nat}{cs:List AV}(hid:c.CJ[id]?=some (some g))(hb:s.get id=some (.cells cs)):∃vs ext T,w.heap[g]?=some (.cells (vs++ext).toArray T (0,0))/\Cv c w cs vs:=by
 obtain⟨o,ho,hbo⟩:=hs.box id g _ hid hb;cases hbo with
 | GA ext h1=>exact⟨_,ext,_,ho,h1⟩
def UE{α:Type}{l m:List α}{i:Nat}{x:α}(h:l[i]?=some x):(l++m)[i]?=some x:=by
 rw[List.getElem?_append_left (abH.1 h).1];exact h
def cell_of_heap{w:World}{g:Nat}{vs:List Value}{T:TypeId}{fr:Nat×Nat}(h:w.heap[g]?=some (.cells vs.toArray T fr)){i:Nat}{v:Value}(hv:vs[i]?=some v):w.cell? ⟨g,i,none⟩=some v:=by
 simp[World.cell?,h,hv]
def uD{P:Program}{G:AK}{c:Cx}{w:World}{s:AS}{t:TypeId}{a r:AV}{v:Value}(hs:St G c w s)(h:JL P s t a=some r)(ha:Rp c w a v):∃u,(bnW t v).run P w=.ok u w/\Rp c w r u:=by
 unfold JL at h;split at h
 · split at h
   · rename_i id off cs hb
     cases ha with
     | ptr hid =>
       obtain⟨vs,ext,T,hw,hr⟩:=Rr hs hid hb;have:=VU (g:=_) (o:=0) h hr (λi v hv=>by rw[bcD];exact cell_of_heap hw (UE hv));rw[bcD] at this;obtain⟨u,h1,h2⟩:=this;exact⟨u,by simp[bnW,blJ,h1],h2⟩
   cases h
 · rename_i cs
   cases ha with
   | el hc =>
     obtain⟨vs,hr,IL⟩:=hc.vals;obtain⟨u,h1,h2⟩:=VU h hr (λi v hv=>(IL i v hv).2.2);rw[bkH] at h1;exact⟨u,by simp[bnW,blJ,h1],h2⟩
 cases h
def acK{x:AV}(h:(cellsOf x).all one=true):VE x=false:=by cases x<;>first | rfl | (simp[cellsOf,one] at h;done)
def wU{v:Value}{a:AV}(h:YN v=some a):VE a=false:=by
 unfold YN at h;split at h;cases h;rfl;split at h;cases h;rfl;cases h;split at h;cases h;rfl;cases h
def acL{v:Value}{a:AV}(h:ZJ v=some a):VE a=false:=by
 unfold ZJ at h;split at h;rename_i cs;cases hc:ML cs.toList with
 | none=>rw[hc] at h;cases h
 | some as=>rw[hc] at h;cases h;rfl
 exact wU h
def IB{α:Type}(cs:List α)(off:Nat)(xs:List α):List α:=cs.take off++xs++cs.drop (off+xs.length)
def Cv.IB{c:Cx}{w:World}{as bs:List AV}{us vs:List Value}(h:Cv c w as us)(k:Cv c w bs vs)(off:Nat):Cv c w (AI.IB as off bs) (AI.IB us off vs):=by
 unfold AI.IB;rw[k.len];exact((h.take off).append k).append (h.drop _)
def Lb(P:Program)(s:AS)(t:TypeId)(a x:AV):Option AS :=
 match P.info? t,a with
 | some i,.ptr id off=>match s.get id with
   | some (.cells cs)=>if (cellsOf x).length=i.size/\(cellsOf x).all one=true/\off+i.size<=cs.length then some (s.put id (.cells (IB cs off (cellsOf x)))) else none
   | _=>none
 | _,_=>none
def Hy(w:World)(g:Nat)(cs:Array Value):Tv w (w.setRow g cs) (λx=>x=g) :=
 ⟨rfl,rfl,rfl,by simp[bsQ],λk _ hne=>by simp only[bsQ,Array.getElem?_modify];rw[if_neg (λe=>hne e.symm)]⟩
def ajK{P:Program}{G:AK}{c:Cx}{w:World}{s s':AS}{t:TypeId}{a x:AV}{v u:Value}(hs:St G c w s)(h:Lb P s t a x=some s')(ha:Rp c w a v)(hx:Rp c w x u) :
   ∃w',(bsE t v u).run P w=.ok () w'/\Ext c w c w'/\St G c w' s':=by
 unfold Lb at h;split at h
 · rename_i i id off hi
   split at h
   · rename_i cs hb
     split at h
     · rename_i hc
       cases h;cases ha with
       | ptr hid =>
         rename_i g;obtain⟨vs,ext,T,hw,hr⟩:=Rr hs hid hb;have hxr:=R7 hx (acK hc.2.1);have hl:=hxr.len;have hlv:=hr.len;have Fl:=run_storeCells_at P g off T u.cells.toList 0 (vs++ext).toArray w hw (by simp only[List.size_toArray,bkH,List.length_append];omega) (bT hxr hc.2.1);obtain⟨e,st⟩:=hs.put (b:=.cells (IB cs off (cellsOf x))) hid (Hy w g (IB vs off u.cells.toList++ext).toArray) (setRow_heap w g (vs++ext).toArray _ T (0,0) hw) (.GA ext (hr.IB hxr off));refine⟨_,?_,e,st⟩;have hsz:u.cells.size=i.size:=by rw[<- hc.1,<- hl];simp
         simp only[bsE,blJ,biV,bjX,biS,storeVar,CG hi,hsz,ne_eq,not_true_eq_false,if_false];simp only[bkH] at Fl
         have hsp:IB (vs++ext) off u.cells.toList=IB vs off u.cells.toList++ext:=by
           unfold IB;rw[List.take_append_of_le_length (by omega),List.drop_append_of_le_length (by omega)];simp only[List.append_assoc]
         rw[<- hsp];exact Fl
     cases h
   cases h
 cases h
def aeI{P:Program}{G:AK}{c:Cx}{w:World}{s:AS}{t:TypeId}{x:AV}{u:Value}(hs:St G c w s)(hx:Rp c w x u)(hn:VE x=false) :
   ∃v' w' c',(bpZ t u).run P w=.ok v' w'/\Ext c w c' w'/\St G c' w' (s.new (.cells (cellsOf x)))/\Rp c' w' (.ptr s.nx 0) v':=by
 have hxr:=R7 hx hn
 have hb:EA c w (.cells (cellsOf x)) (.cells u.cells t (0,0)):=by
   have:=EA.cells (T:=t) hxr;rwa[blC] at this
 obtain⟨e,st⟩:=hs.new hb;refine⟨.pointer (some ⟨w.heap.size,0,none⟩),_,_,?_,e,st,.ptr ?_⟩;simp[bpZ,newVar,newRow];simp[hs.len]
def ajC{P:Program}{G:AK}{c:Cx}{w:World}{s:AS}{t:TypeId}{x:AV}{u:Value}{id:Nat}(hs:St G c w s)(hx:Rp c w x u)(hn:VE x=false)(hid:c.CJ[id]?=some none)(QW:s.get id=some (.cells (cellsOf x))) :
   ∃v' w' c',(bpZ t u).run P w=.ok v' w'/\Mon c w c' w'/\St G c' w' s/\Rp c' w' (.ptr id 0) v'/\(∀c0 w0,Ext c0 w0 c w->c0.CJ.length<=id->Ext c0 w0 c' w')/\∀i,i≠id->c'.CJ[i]?=c.CJ[i]?:=by
 have hxr:=R7 hx hn
 have hb:EA c w (.cells (cellsOf x)) (.cells u.cells t (0,0)):=by
   have:=EA.cells (T:=t) hxr;rwa[blC] at this
 obtain⟨m,st,ex⟩:=hs.fill hid QW hb;refine⟨.pointer (some ⟨w.heap.size,0,none⟩),_,_,?_,m,st,.ptr ?_,ex,λi hi=>?_⟩;simp[bpZ,newVar,newRow];exact List.getElem?_set_self (abH.1 hid).1;exact List.getElem?_set_ne (λe=>hi e.symm)
end AI
namespace AI
open Go Go.RowKit
def aAA(off:Nat)(xs:List Value)(k:Nat)(cs:List Value)(h:off+k+xs.length<=cs.length) :
   (xs.zipIdx k).foldl (λ(a:Array Value) (p:Value×Nat)=>a.setIfInBounds (off+p.2) p.1) cs.toArray=(IB cs (off+k) xs).toArray:=by
 induction xs generalizing k cs with
 | nil=>simp[IB]
 | cons x xs ih =>
   simp only[List.length_cons] at h;rw[List.zipIdx_cons,List.foldl_cons];have:=ih (k+1) (cs.set (off+k) x) (by simp;omega);simp only[List.setIfInBounds_toArray];rw[this];have e:=list_seg_step cs (off+k) x xs (by omega);unfold IB;rw[show off+(k+1)=off+k+1 from by omega,e];simp
inductive PL(c:Cx)(w:World):List (Nat×AV)->List (Nat×Value)->Prop where
 | nil:PL c w [] []
 | cons {i:Nat} {a:AV} {v:Value} {as:List (Nat×AV)} {vs:List (Nat×Value)} (h:Rp c w a v) (t:PL c w as vs):PL c w ((i,a)::as) ((i,v)::vs)
def Vv(place:Nat->Option (Nat×Nat))(cells:List AV):List (Nat×AV)->Option (List AV)
 | []=>some cells
 | (i,v)::rest=>match place i with
   | none=>none
   | some (off,size)=>if VE v=false/\(cellsOf v).length=size/\off+size<=cells.length then Vv place (IB cells off (cellsOf v)) rest else none
def cX{c:Cx}{w:World}{place:Nat->Option (Nat×Nat)}{cells r:List AV}{ps:List (Nat×AV)}{vs:List Value}{qs:List (Nat×Value)}(h:Vv place cells ps=some r)(hr:Cv c w cells vs)(hp:PL c w ps qs) :
   ∃us,Instr.fill place vs.toArray qs=some us.toArray/\Cv c w r us:=by
 induction hp generalizing cells vs with
 | nil=>simp[Vv] at h;subst h;exact⟨vs,rfl,hr⟩
 | cons h1 _ ih =>
   rename_i i a v as qs' _;simp only[Vv] at h;split at h;cases h;rename_i off size hpl;split at h;rename_i hc;have hv:=R7 h1 hc.1
   replace hc:=hc.2
   have hl:=hv.len;have hlc:=hr.len;obtain⟨us,hf,hu⟩:=ih h (hr.IB hv off);refine⟨us,?_,hu⟩;unfold Instr.fill;rw[hpl];have hsz:v.cells.size=size:=by rw[<- hc.1,<- hl];simp
   have aWW:(decide (v.cells.size≠size)||decide (off+v.cells.size > vs.toArray.size))=false:=by
     simp[hsz];omega
   simp only[aWW,Bool.false_eq_true,if_false];have:=aAA off v.cells.toList 0 vs (by rw[bkH];omega);rw[bkH] at this;rw[<- hf,<- this];congr 1;rw[<- Array.foldl_toList,Array.toList_zipIdx];cases h
def iL(P:Program)(fields:Array Field)(k:Nat):Option (Nat×Nat) :=
 match fields.toList[k]? with
 | some f=>(P.info? f.type).map λi=>(f.offset,i.size)
 | none=>none
def cT(P:Program)(t:TypeId)(parts:List (Nat×AV)):Option AV :=
 match P.info? t,P.underlying t with
 | some i,some d=>match i.zero with
   | some z=>match ML z.cells.toList with
     | some zs=>match d with
       | .struct fields=>if fields.toList.all (λf=>(P.info? f.type).isSome)=true then (Vv (iL P fields) zs parts).map .agg else none
       | .array _ elem=>match P.info? elem with
         | some e=>(Vv (λi=>some (i*e.size,e.size)) zs parts).map .agg
         | none=>none
       | _=>none
     | none=>none
   | none=>none
 | _,_=>none
def run_places{P:Program}(fs:List Field)(h:fs.all (λf=>(P.info? f.type).isSome)=true)(w:World) :
   (fs.mapM (m:=Sem) λf=>do pure (f.offset,<- bpB f.type)).run P w=.ok (fs.map λf=>(f.offset,((P.info? f.type).map (·.size)).getD 0)) w:=by
 induction fs with
 | nil=>rfl
 | cons f fs ih =>
   simp only[bnA,bcA] at h;obtain⟨i,hi⟩:=bnN.1 h.1;rw[List.mapM_cons];simp only[biV,CG hi,biS,bjX,ih h.2,List.map_cons,hi,Option.map_some,Option.getD_some]
def ajD{P:Program}{c:Cx}{w:World}{t:TypeId}{ps:List (Nat×AV)}{r:AV}{qs:Array (Nat×Value)}(h:cT P t ps=some r)(hp:PL c w ps qs.toList)(w0:World) :
   ∃u,(brO t qs).run P w0=.ok u w0/\Rp c w r u:=by
 unfold cT at h;split at h
 · rename_i i d hi hu
   split at h
   · rename_i z hz
     split at h
     · rename_i zs hzs
       have hzr:=Sn hzs c w;split at h
       · rename_i fields
         split at h
         · rename_i Gu
           cases hf:Vv (iL P fields) zs ps with
           | none=>rw[hf] at h;cases h
           | some cs =>
             rw[hf] at h;cases h;obtain⟨us,Zx,hur⟩:=cX hf hzr hp;refine⟨.agg us.toArray,?_,.agg hur⟩;have hpl:=run_places (P:=P) fields.toList Gu w0
             have aPS:(λk=>(fields.toList.map λf=>(f.offset,((P.info? f.type).map (·.size)).getD 0)).toArray[k]?)=iL P fields:=by
               funext k;unfold iL;simp only[List.getElem?_toArray,List.getElem?_map];cases hk:fields.toList[k]? with
               | none=>simp
               | some f =>
                 obtain⟨i,hi⟩:=bnN.1 (List.all_eq_true.1 Gu f (List.mem_of_getElem? hk));simp[hi]
             unfold brO;simp only[biV,zeroValue,typeInfo,run_program,biS,hi,hz,bjX,run_underlying hu];rw[Array.mapM_eq_mapM_toList];simp only[Sem.run_map,hpl,biS];rw[show(λx=>(List.map (λf=>(f.offset,((P.info? f.type).map (·.size)).getD 0)) fields.toList).toArray[x]?)=iL P fields from aPS];rw[blC] at Zx;rw[Zx];rfl
         cases h
       · rename_i elem
         split at h
         · rename_i e he
           cases hf:Vv (λi=>some (i*e.size,e.size)) zs ps with
           | none=>rw[hf] at h;cases h
           | some cs =>
             rw[hf] at h;cases h;obtain⟨us,Zx,hur⟩:=cX hf hzr hp;refine⟨.agg us.toArray,?_,.agg hur⟩;unfold brO;rw[blC] at Zx;simp[zeroValue,typeInfo,hi,hz,run_underlying hu,CG he,Zx]
         cases h
       cases h
     cases h
   cases h
 cases h
end AI
