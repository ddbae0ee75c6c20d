/- Part of a proof: see the last text. -/
import Derived.Test.YtpbkhogolfegfaaGreatDoorPpn
import Derived.Test.YtpbkhogolfegfaaGreatDoorCards
import Derived.Test.YtpbkhogolfegfaaGreatDoorTie
import Derived.Lib.LaidTab
import Derived.Lib.LaidIn
import Derived.Shelf.Vars
set_option linter.unusedVariables false
set_option linter.unusedSimpArgs false
set_option linter.defProp false
noncomputable section
namespace Go.Proofs.YtpbkhogolfegfaaGreatDoor
open AI Go Go.RowKit LexS
def chunks{α:Type}{V:α->List Value}{k:Nat}:∀{l:List α} {cs:List Value},cs.length=l.length*k->(∀y,(V y).length=k)->(∀(i:Nat) y,l[i]?=some y->(cs.drop (i*k)).take k=V y)->cs=l.flatMap V
 | [],cs,h,_,_=>by
   simp only[List.length_nil,Nat.zero_mul] at h;rw[List.eq_nil_of_length_eq_zero h];rfl
 | a::l,cs,h,hV,hc=>by
   have h0:=hc 0 a rfl;rw[Nat.zero_mul,List.drop_zero] at h0
   have ih:=chunks (V:=V) (k:=k) (l:=l) (cs:=cs.drop k) (by rw[List.length_drop,h,List.length_cons,Nat.succ_mul];omega) hV λi y hy=>by
     rw[List.drop_drop];have:=hc (i+1) y (by simpa using hy)
     rwa[Nat.succ_mul,Nat.add_comm] at this
   rw[List.flatMap_cons,<- h0,<- ih,List.take_append_drop]
def NI{α H:Type}{enc:TypeId×Value->H}{P:Program}{w:World}{base:Nat}{sp:Nat->Bool}{held:Bool}{fuel:Nat}{t e:TypeId}{n k:Nat}{cs:List Value}{l:List α}{p:List MemPlace}(D:α->DataW H)(V:α->List Value)(hV:∀y,(V y).length=k)
   (NV:∀f c y q,DataW.trod enc P w base sp held f e c=some (D y,q)->c=V y)
   (ht:P.underlying t=some (.array n e)) (hce:P.cellsOf e=k) (hct:P.cellsOf t=n*k) (h:DataW.trod enc P w base sp held fuel t cs=some (.agg (l.map D),p)):cs=l.flatMap V:=by
 obtain⟨xs,m,_,hx,hl,hxl,RD⟩:=DataW.trod_array ht h
 have hd:l.map D=xs.map (·.1):=by
   have:=congrArg Prod.fst hx;simpa using this
 have vW:l.length=n:=by
   have:=congrArg List.length hd;simp at this;omega
 rw[hct] at hl;rw[hce] at RD;refine chunks (by rw[hl,vW]) hV λi y hy=>?_;have hi:i < n:=by have:=(List.getElem?_eq_some_iff.1 hy).1;omega
 have h2:=RD i hi;have hxi:xs[i]?=some xs[i]:=List.getElem?_eq_getElem (by omega);rw[hxi] at h2;have h3:(l.map D)[i]?=(xs.map (·.1))[i]?:=by rw[hd]
 rw[List.getElem?_map,List.getElem?_map,hy,hxi] at h3;simp only[Option.map_some,Option.some.injEq] at h3;refine NV m _ y xs[i].2 ?_;rw[h2,h3]
def YK{H:Type}{enc:TypeId×Value->H}{w:World}{base:Nat}{sp:Nat->Bool}{held:Bool}(f:Nat)(c:List Value)(y:List UInt8)(q:List MemPlace)(hh:DataW.trod enc Tryz.prog w base sp held f 9 c=some (.lit (.string y),q)):c=[.string ⟨y.toArray⟩]:=by
 obtain⟨z,hc,hz,_⟩:=DataW.trod_string Tryz.underlying9 hh;simp only[Prod.mk.injEq,DataW.lit.injEq,Lit.string.injEq] at hz;rw[hc,hz.1]
def Qk{W:World}{n:String}{g:Nat}{cs:Array Value}(hg:Tryz.prog.globalNamed n=some g)(h:W.var? Tryz.prog n=some cs):∃t fr,W.heap[g]?=some (.cells cs t fr):=by
 unfold World.var? at h;rw[hg] at h;simp only[Option.bind_some] at h;split at h;rename_i c t fr hh;injection h with h
 subst h;exact⟨t,fr,hh⟩;cases h
def gB:Tryz.prog.globalNamed "wageoffice/calendar.before"=some 12:=by kernel_rfl
def gC:Tryz.prog.globalNamed "wageoffice/lexer.classes"=some 3:=by kernel_rfl
def gS:Tryz.prog.globalNamed "wageoffice/lexer.symbols"=some 0:=by kernel_rfl
def gO:Tryz.prog.globalNamed "wageoffice/parser.operators"=some 2:=by kernel_rfl
def gR:Tryz.prog.globalNamed "wageoffice/parser.roles"=some 1:=by kernel_rfl
def gP:Tryz.prog.globalNamed "internal/strconv.uint64pow10"=some 4:=by kernel_rfl
def gPT:(Tryz.prog.globals[(4:Nat)]?).map (·.type)=some 167:=by kernel_rfl
def zW:Tryz.prog.cellsOf 146=1:=by kernel_rfl
def zP:Tryz.prog.cellsOf 167=20*1:=by kernel_rfl
def gBT:(Tryz.prog.globals[(12:Nat)]?).map (·.type)=some 203:=by kernel_rfl
def gCT:(Tryz.prog.globals[(3:Nat)]?).map (·.type)=some 151:=by kernel_rfl
def gST:(Tryz.prog.globals[(0:Nat)]?).map (·.type)=some 134:=by kernel_rfl
def gOT:(Tryz.prog.globals[(2:Nat)]?).map (·.type)=some 143:=by kernel_rfl
def gRT:(Tryz.prog.globals[(1:Nat)]?).map (·.type)=some 135:=by kernel_rfl
def zI:Tryz.prog.cellsOf 3=1:=by kernel_rfl
def zU:Tryz.prog.cellsOf 5=1:=by kernel_rfl
def zS:Tryz.prog.cellsOf 9=1:=by kernel_rfl
def zB:Tryz.prog.cellsOf 203=13*1:=by kernel_rfl
def zC:Tryz.prog.cellsOf 151=128*1:=by kernel_rfl
def zY:Tryz.prog.cellsOf 134=17*1:=by kernel_rfl
def z6:Tryz.prog.cellsOf 142=6*1:=by kernel_rfl
def zO:Tryz.prog.cellsOf 143=6*6:=by kernel_rfl
def zR:Tryz.prog.cellsOf 135=5*1:=by kernel_rfl
def aAM:List Int:=[0,31,59,90,120,151,181,212,243,273,304,334,365]
def aDT:List (List UInt8):=[[],[101,97,114,110],[100,101,100,117,99,116],[102,108,111,111,114],[105,110,102,111]]
def opsL:List (List (List UInt8)):=[[[111,114],[],[],[],[],[]],[[97,110,100],[],[],[],[],[]],[[],[],[],[],[],[]],[[61,61],[33,61],[60],[60,61],[62],[62,61]],[[43],[45],[],[],[],[]],[[42],[47],[97,116],[],[],[]]]
abbrev dP(y:List UInt8):DataW Unit:=.lit (.string y)
def aIP:(Rows.laid_wageoffice_calendar_before:DataW Unit)=.agg (aAM.map λz=>.lit (.int .i64 z)):=by rfl
def aIS:(Rows.laid_internal_strconv_uint64pow10:DataW Unit)=.agg (Lib.pow10Tab.map λz=>.lit (.int .u64 z)):=by kernel_rfl
def aIQ:(Rows.laid_wageoffice_lexer_classes:DataW Unit)=.agg ((List.range 128).map λi=>.lit (.int .u8 (L3 i:Nat))):=by rfl
def aIU:(Rows.laid_wageoffice_lexer_symbols:DataW Unit)=.agg (Gc.map dP):=by rfl
def aIR:(Rows.laid_wageoffice_parser_operators:DataW Unit)=.agg (opsL.map λl=>.agg (l.map dP)):=by rfl
def aIT:(Rows.laid_wageoffice_parser_roles:DataW Unit)=.agg (aDT.map dP):=by rfl
def aMA:((begin Tryz.prog (λ_ _=>0) default).world.heap[(5:Nat)]?).bind Obj.row?=some (#[.int .i64 0],3):=by kernel_rfl
def axV{W:World}(h:W.ShapedOpen Tryz.prog):∃m,W.cell? ⟨5,0,none⟩=some (.int .i64 m):=by
 obtain⟨m,hm⟩:=cell_of_shapedOpen_int h (g:=5) (by decide +kernel) aMA rfl (by kernel_rfl) (by kernel_rfl) Tryz.underlying3;exact⟨m,hm⟩
def Xe(c:Cx)(w:World):∀l:List (List UInt8),CT c w (l.map GF) (l.flatMap λy=>[.string ⟨y.toArray⟩])
 | []=>.nil
 | _::l=>.cons (.sc rfl) (Xe c w l)
def tI(c:Cx)(w:World):∀l:List Int,CT c w (l.map Hd.int) (l.flatMap λy=>[.int .i64 y])
 | []=>.nil
 | _::l=>.cons (.sc rfl) (tI c w l)
def agA(c:Cx)(w:World):∀l:List Int,CT c w (l.map Hd.aqC) (l.flatMap λy=>[.int .u64 y])
 | []=>.nil
 | _::l=>.cons (.sc rfl) (agA c w l)
def afU(c:Cx)(w:World):∀l:List Nat,CT c w (l.map λi=>.sc (.int .u8 (L3 i:Nat))) (l.flatMap λi=>[.int .u8 (L3 i:Nat)])
 | []=>.nil
 | _::l=>.cons (.sc rfl) (afU c w l)
def kF(c:Cx)(w:World):∀l:List (List (List UInt8)),CT c w (l.flatMap λy=>y.map GF) (l.flatMap λy=>y.flatMap λz=>[.string ⟨z.toArray⟩])
 | []=>.nil
 | a::l=>(Xe c w a).append (kF c w l)
def Vj{W:World}{g:Nat}{l:List AV}{cs:Array Value}(h:∃t fr,W.heap[g]?=some (.cells cs t fr))(hr:CT (Mo.XP W) W l cs.toList):Bk (Mo.XP W) W g 0 l:=by
 obtain⟨t,fr,h⟩:=h;refine Bk.QK hr λi v hi=>Mo.azW ?_;rw[Nat.zero_add,cell_of_row W g i cs t fr h];rwa[Array.getElem?_toList] at hi
def pU{W:World}(h:laidMetH Tryz.prog Rows.parserTreesRow.laid W)(KQ:W.ShapedOpen Tryz.prog):∃mx,St (Hd.G mx) (Mo.XP W) W s0:=by
 have h:laidMet Tryz.prog [("math/bits.deBruijn32tab",Rows.laid_math_bits_deBruijn32tab),("math/bits.deBruijn64tab",Rows.laid_math_bits_deBruijn64tab),("internal/strconv.uint64pow10",Rows.laid_internal_strconv_uint64pow10),("unicode/utf8.acceptRanges",Rows.laid_unicode_utf8_acceptRanges),("strconv.ErrRange",Rows.laid_strconv_ErrRange),("strconv.ErrSyntax",Rows.laid_strconv_ErrSyntax),("wageoffice/calendar.before",Rows.laid_wageoffice_calendar_before),("wageoffice/lexer.classes",Rows.laid_wageoffice_lexer_classes),("wageoffice/lexer.symbols",Rows.laid_wageoffice_lexer_symbols),("wageoffice/parser.operators",Rows.laid_wageoffice_parser_operators),("wageoffice/parser.roles",Rows.laid_wageoffice_parser_roles),("unicode/utf8.first",Rows.laid_unicode_utf8_first)] W:=h
 obtain⟨ps,⟨_,_,_,_,_,_,_,_,_,_,⟨_,_,_,_,_,_,_,_,_,_,⟨g3,t3,cs3,f3,p3,q3,hg3,ht3,hv3,hd3,⟨_,_,_,_,_,_,_,_,_,_,⟨_,_,_,_,_,_,_,_,_,_,⟨_,_,_,_,_,_,_,_,_,_,⟨g7,t7,cs7,f7,p7,q7,hg7,ht7,hv7,hd7,⟨g8,t8,cs8,f8,p8,q8,hg8,ht8,hv8,hd8,⟨g9,t9,cs9,f9,p9,q9,hg9,ht9,hv9,hd9,⟨g10,t10,aAS,f10,p10,q10,aJT,aKP,aKR,hd10,⟨g11,t11,aNI,f11,p11,q11,aJU,aKQ,aKS,aBR,_⟩,_⟩,_⟩,_⟩,_⟩,_⟩,_⟩,_⟩,_⟩,_⟩,_⟩,_⟩:=h;obtain rfl:=Option.some.inj (gP.symm.trans hg3);obtain rfl:=Option.some.inj (gPT.symm.trans ht3);rw[aIS] at hd3;obtain rfl:=Option.some.inj (gB.symm.trans hg7);obtain rfl:=Option.some.inj (gC.symm.trans hg8);obtain rfl:=Option.some.inj (gS.symm.trans hg9);obtain rfl:=Option.some.inj (gO.symm.trans aJT);obtain rfl:=Option.some.inj (gR.symm.trans aJU);obtain rfl:=Option.some.inj (gBT.symm.trans ht7);obtain rfl:=Option.some.inj (gCT.symm.trans ht8);obtain rfl:=Option.some.inj (gST.symm.trans ht9);obtain rfl:=Option.some.inj (gOT.symm.trans aKP);obtain rfl:=Option.some.inj (gRT.symm.trans aKQ);rw[aIP] at hd7;rw[aIQ] at hd8;rw[aIU] at hd9;rw[aIR] at hd10;rw[aIT] at aBR
 have e3:=NI (k:=1) (λz:Int=>(DataW.lit (.int .u64 z):DataW Unit)) (λz=>[.int .u64 z]) (λ_=>rfl)
   (λf c y q hh=>by obtain⟨z,hc,hz,_⟩:=DataW.trod_int Tryz.underlying146 hh;simp only[Prod.mk.injEq,DataW.lit.injEq,Lit.int.injEq,true_and] at hz;rw[hc,hz.1]) Tryz.underlying167 zW zP hd3
 have e7:=NI (k:=1) (λz:Int=>(DataW.lit (.int .i64 z):DataW Unit)) (λz=>[.int .i64 z]) (λ_=>rfl)
   (λf c y q hh=>by obtain⟨z,hc,hz,_⟩:=DataW.trod_int Tryz.underlying3 hh;simp only[Prod.mk.injEq,DataW.lit.injEq,Lit.int.injEq,true_and] at hz;rw[hc,hz.1]) Tryz.underlying203 zI zB hd7
 have e8:=NI (k:=1) (λi:Nat=>(DataW.lit (.int .u8 (L3 i:Nat)):DataW Unit)) (λi=>[.int .u8 (L3 i:Nat)]) (λ_=>rfl)
   (λf c y q hh=>by obtain⟨z,hc,hz,_⟩:=DataW.trod_int Tryz.underlying5 hh;simp only[Prod.mk.injEq,DataW.lit.injEq,Lit.int.injEq,true_and] at hz;rw[hc,hz.1]) Tryz.underlying151 zU zC hd8
 have e9:=NI (k:=1) dP (λy=>[.string ⟨y.toArray⟩]) (λ_=>rfl) YK Tryz.underlying134 zS zY hd9;have e11:=NI (k:=1) dP (λy=>[.string ⟨y.toArray⟩]) (λ_=>rfl) YK Tryz.underlying135 zS zR aBR
 have e10:aAS.toList=opsL.flatMap λy=>y.flatMap λz=>[.string ⟨z.toArray⟩]:=by
   obtain⟨xs,m,_,hx,hl,hxl,RD⟩:=DataW.trod_array Tryz.underlying143 hd10
   have hd:(opsL.map λl=>(DataW.agg (l.map dP):DataW Unit))=xs.map (·.1):=by
     have:=congrArg Prod.fst hx;simpa using this
   rw[zO] at hl;rw[z6] at RD;have aLP:∀y∈opsL,(y.flatMap λz=>[(Value.string ⟨z.toArray⟩:Value)]).length=6:=by decide
   have cX:∀(i:Nat) y,opsL[i]?=some y->(aAS.toList.drop (i*6)).take 6=y.flatMap λz=>[.string ⟨z.toArray⟩]:=by
     intro i y hy;have hi:i < 6:=(List.getElem?_eq_some_iff.1 hy).1;have h2:=RD i hi;have hxi:xs[i]?=some xs[i]:=List.getElem?_eq_getElem (by omega);rw[hxi] at h2;have h3:(opsL.map λl=>(DataW.agg (l.map dP):DataW Unit))[i]?=(xs.map (·.1))[i]?:=by rw[hd]
     rw[List.getElem?_map,List.getElem?_map,hy,hxi] at h3;simp only[Option.map_some,Option.some.injEq] at h3;have h4:xs[i]=(.agg (y.map dP),xs[i].2):=Prod.ext h3.symm rfl;rw[h4] at h2;exact NI (k:=1) dP (λy=>[.string ⟨y.toArray⟩]) (λ_=>rfl) YK Tryz.underlying142 zS z6 h2
   have l6:∀{l:List (List (List UInt8))} {cs:List Value},(∀y∈l,(y.flatMap λz=>[(Value.string ⟨z.toArray⟩:Value)]).length=6)->cs.length=l.length*6->(∀(i:Nat) y,l[i]?=some y->(cs.drop (i*6)).take 6=y.flatMap λz=>[.string ⟨z.toArray⟩])->cs=l.flatMap λy=>y.flatMap λz=>[.string ⟨z.toArray⟩]:=by
     intro l
     induction l with
     | nil=>intro cs _ h _;exact List.eq_nil_of_length_eq_zero (by simpa using h)
     | cons a l ih =>
       intro cs hq h hc;have h0:=hc 0 a rfl;rw[Nat.zero_mul,List.drop_zero] at h0
       have:=ih (cs:=cs.drop 6) (λy hy=>hq y (by simp[hy])) (by rw[List.length_drop,h,List.length_cons,Nat.succ_mul];omega) λi y hy=>by
         rw[List.drop_drop];have:=hc (i+1) y (by simpa using hy)
         rwa[Nat.succ_mul,Nat.add_comm] at this
       rw[List.flatMap_cons,<- h0,<- this,List.take_append_drop]
   exact l6 aLP (by rw[hl];rfl) cX
 obtain⟨mx,hm⟩:=axV KQ;have Gt:=Mo.stW W;refine⟨mx,Gt.len,Gt.desc,Gt.nodup,Gt.low,Gt.box,Gt.JU,Gt.row,Gt.Kn,Gt.OQ,Gt.OH,Gt.JR,λg cs h=>?_,Gt.RS⟩;unfold Hd.G at h;split at h;rename_i hg;cases h;rw[beq_true hg];exact Vj (Qk gO aKR) (by rw[e10];exact kF _ _ opsL);split at h;rename_i hg;cases h;rw[beq_true hg];exact Vj (Qk gR aKS) (by rw[e11];exact Xe _ _ aDT);split at h;rename_i hg;cases h;rw[beq_true hg];exact Vj (Qk gB hv7) (by rw[e7];exact tI _ _ aAM);split at h;rename_i hg;cases h;rw[beq_true hg];exact Vj (Qk gC hv8) (by rw[e8];exact afU _ _ _);split at h;rename_i hg;cases h;rw[beq_true hg];exact Vj (Qk gS hv9) (by rw[e9];exact Xe _ _ _);split at h;rename_i hg;cases h;rw[beq_true hg];exact .cons (Mo.azW hm) (.sc rfl) .nil;split at h;rename_i hg;cases h;rw[beq_true hg];exact Vj (Qk gP hv3) (by rw[e3];exact agA _ _ _);cases h
def oL{mx:Int}{f:FuncId}{args:List AV}{vs:List Value}{W:World}(Gt:St (Hd.G mx) (Mo.XP W) W s0)(h:Pure Tryz.prog (Hd.G mx) f args (.sc (.bool true)))(ha:CT (Mo.XP W) W args vs):Calls Tryz.prog f vs.toArray W λe W'=>e=.returned (.bool true)/\Below W.heap.size W W':=by
 refine(h s0 (Mo.XP W) W vs Gt ha).mono ?_;rintro e w' ⟨c',hx,_,u,rfl,hu⟩;cases hu;exact⟨rfl,hx.below⟩
def axQ:DataW Unit->List Value
 | .lit l=>[l.value]
 | _=>[]
def aBA:DataW Unit->List Value
 | .agg l=>l.flatMap axQ
 | d=>axQ d
def S7:DataW Unit->Array Value
 | .agg l=>(l.flatMap aBA).toArray
 | d=>(axQ d).toArray
def putCells(cs:Array Value):Obj->Obj
 | .cells _ t frozen=>.cells cs t frozen
 | o=>o
def low:Nat:=(World.holding Tryz.prog default ⟨#[],#[],[]⟩).heap.size
abbrev aEH:ByteArray:={ data:=#[118,97,108,117,101,32,111,117,116,32,111,102,32,114,97,110,103,101] }
abbrev aEI:ByteArray:={ data:=#[105,110,118,97,108,105,100,32,115,121,110,116,97,120] }
def Vs(os:Os):World :=
 let w0:=World.holding Tryz.prog os ⟨#[.cells #[.string aEH] 210,.cells #[.string aEI] 210],#[],[]⟩
 { w0 with heap:=((((((((((((w0.heap.modify 8 (putCells (S7 Rows.laid_math_bits_deBruijn32tab))).modify
     9 (putCells (S7 Rows.laid_math_bits_deBruijn64tab))).modify
     4 (putCells (S7 Rows.laid_internal_strconv_uint64pow10))).modify
     7 (putCells (S7 Rows.laid_unicode_utf8_acceptRanges))).modify
     11 (putCells #[.iface 208 (.pointer (some ⟨low,0,none⟩))])).modify
     10 (putCells #[.iface 208 (.pointer (some ⟨low+1,0,none⟩))])).modify
     12 (putCells (S7 Rows.laid_wageoffice_calendar_before))).modify
     3 (putCells (S7 Rows.laid_wageoffice_lexer_classes))).modify
     0 (putCells (S7 Rows.laid_wageoffice_lexer_symbols))).modify
     2 (putCells (S7 Rows.laid_wageoffice_parser_operators))).modify
     1 (putCells (S7 Rows.laid_wageoffice_parser_roles))).modify
     6 (putCells (S7 Rows.laid_unicode_utf8_first))) }
def adW(os:Os)(args:Array Value):laidMet Tryz.prog Rows.parserTreesRow.laid ((Vs os).forCall (λ_ _=>0) ⟨#[],args,[]⟩).memory :=
 laidMet_of_run3 8 (by kernel_rfl) (by kernel_rfl) (by kernel_rfl)
end Go.Proofs.YtpbkhogolfegfaaGreatDoor
namespace Go.Proofs.YtpbkhogolfegfaaGreatDoor
open AI Go
namespace Mo
set_option maxRecDepth 100000
set_option maxHeartbeats 4000000
variable {mx:Int}
end Mo
end Go.Proofs.YtpbkhogolfegfaaGreatDoor
namespace Go.Proofs.YtpbkhogolfegfaaGreatDoor
open AI Go
namespace Mo
set_option maxRecDepth 100000
set_option maxHeartbeats 4000000
variable {mx:Int}
def zN(n:Nd):Nd:=⟨n.kind,n.name,n.unit,n.n,n.fr,n.to,n.known,n.CV,n.kids,0⟩
section
variable {b:Nat} {B:Nat->Nat->Prop} {w0:World} {g cap:Nat} {ps:List (Nat×Nat)} {s:AS} {Q:QE} {j:List Value}
variable {id off nx:Nat} {L:List Nd}
end
abbrev Bx:=List (Nd×Option Nat)
def a1:Bo:=.cells [.sc (.int .i64 0),.sc (.string ByteArray.empty),.sc (.string ByteArray.empty),.sc (.int .i64 0),.sc (.int .i64 0),.sc (.int .i64 0),.sc (.int .i64 0),.sc (.int .i64 0),.sl .full 0 [],.sl .full 0 [],.sc (.int .i64 0)]
mutual
def cN:Nd->Nat
 | ⟨_,_,_,_,_,_,_,_,kids,_⟩=>1+cL kids
def cL:List Nd->Nat
 | []=>0
 | k::ks=>cN k+cL ks
end
mutual
def ZE:Nd->Prop
 | ⟨_,_,_,_,_,_,_,CV,kids,_⟩=>CV.ps.length*24<=140737488355328/\psL kids
def psL:List Nd->Prop
 | []=>True
 | k::ks=>ZE k/\psL ks
end
def sY:∀l:List Nd,psL l↔∀k∈l,ZE k
 | []=>by simp[psL]
 | a::l=>by rw[psL,sY l];simp
def SC(n:Nd):ZE n↔n.CV.ps.length*24<=140737488355328/\∀k∈n.kids,ZE k:=by cases n;rw[ZE,sY]
mutual
def L1:Nd->Nd
 | ⟨kind,name,unit,n,fr,to,known,CV,kids,_⟩=>⟨kind,name,unit,n,fr,to,known,CV,stL kids,0⟩
def stL:List Nd->List Nd
 | []=>[]
 | k::ks=>L1 k::stL ks
end
def tO:∀l:List Nd,stL l=l.map L1
 | []=>by rw[stL];rfl
 | k::l=>by rw[stL,tO l];rfl
def Ot(n:Nd):L1 n=⟨n.kind,n.name,n.unit,n.n,n.fr,n.to,n.known,n.CV,n.kids.map L1,0⟩:=by cases n;rw[L1,tO]
structure Inv(n0:Nd)(rk:Option Nat)(M:List Bx)(qs:List ((Nat×Nat)×List Nd)):Prop where
 aLX:∀q∈qs,(q.1=(2,0)/\rk=none/\q.2=[n0])\/∃(i a:Nat) (l:Bx) (m:Nd),q.1=(3+i,0+a*11+9)/\M[i]?=some l/\l[a]?=some (m,none)/\q.2=m.kids/\m.kids≠[]
 aNJ:(qs.map (·.1)).Nodup
 all:(rk=none->(2,0)∈qs.map (·.1))/\∀(i a:Nat) (l:Bx) (m:Nd),M[i]?=some l->l[a]?=some (m,none)->m.kids≠[]->(3+i,0+a*11+9)∈qs.map (·.1)
 done:∀(i a:Nat) (l:Bx) (m:Nd) (c:Nat),M[i]?=some l->l[a]?=some (m,some c)->∃(i2:Nat) (l2:Bx),c=3+i2/\i < i2/\M[i2]?=some l2/\l2.map (·.1)=m.kids.map zN
 root:∀c,rk=some c->∃(i2:Nat) (l2:Bx),c=3+i2/\M[i2]?=some l2/\l2.map (·.1)=[zN n0]
 small:∀q∈qs,∀x∈q.2,ZE x
 zero:∀(i a:Nat) (l:Bx) (m:Nd) (c:Option Nat),M[i]?=some l->l[a]?=some (m,c)->m.AH=0
section
variable {n0:Nd} {rk:Option Nat} {M:List Bx} {qs:List ((Nat×Nat)×List Nd)} {q:(Nat×Nat)×List Nd}
def Inv.low(h:Inv n0 rk M qs):∀q∈qs,q.1.1 < 3+M.length:=λq hq=>by
 rcases h.aLX q hq with ⟨e,_⟩ | ⟨i,a,l,m,e,hi,_⟩
 rw[e];show 2 < _;omega;rw[e];have:=(List.getElem?_eq_some_iff.1 hi).1;show 3+i < _;omega
end
end Mo
end Go.Proofs.YtpbkhogolfegfaaGreatDoor
namespace Go.Proofs.YtpbkhogolfegfaaGreatDoor
open AI Go
namespace Mo
variable {mx:Int}
end Mo
end Go.Proofs.YtpbkhogolfegfaaGreatDoor
namespace Go.Proofs.YtpbkhogolfegfaaGreatDoor
open AI Go Go.RowKit LexS
namespace Mo
variable {mx:Int}
def aMD{cx:Cx}{w:World}{s:AS}(h:St (G mx) cx w s):Nk w:=by
 refine⟨λi hi=>?_,λj v hj=>?_⟩;have hc:=h.Ph 3 Hd.akU rfl;have he:Hd.akU[i]?=some (.sc (.int .u8 (L3 i:Nat))):=by simp[Hd.akU,hi]
 obtain⟨v,hv,hr⟩:=hc.get he;cases hr;have:=hv.2.2;rwa[Nat.zero_add] at this;have hc:=h.Ph 0 Hd.apK rfl;have hj':(Gc.map λy=>Value.string ⟨y.toArray⟩)[j]?=some v:=by simpa[Iu] using hj
 rw[List.getElem?_map] at hj';obtain⟨y,hy,rfl⟩:=Option.map_eq_some_iff.1 hj';have he:Hd.apK[j]?=some (GF y):=by simp[Hd.apK,hy]
 obtain⟨u,hu,hr⟩:=hc.get he;unfold GF at hr;cases hr;have:=hu.2.2;rwa[Nat.zero_add] at this
def Vk{w w':World}(h:Below w.heap.size w w'):Si w w' (λ_=>False):=⟨h.os,h.tape,h.output,h.size,λk hk _=>h.block k hk⟩
def vF(w:World)(e:TypeId)(s:ByteArray):Si w (Lib.bytesWorld w e s) (λ_=>False) :=
 Vk (Lib.below_freeze ((Below.drew (Below.refl _ w)).alloc (Nat.le_refl _) _) (p:=⟨w.heap.size,_,Option.none⟩) (Nat.le_refl _) 1)
def Hi(x:LexS.Tok):Tk:=⟨x.1,⟨x.2.1.toArray⟩,x.2.2⟩
def apX(l:List LexS.Tok):(rows Gr (l.map Hi)).length=(KC l).length:=by
 unfold KC
 induction l with
 | nil=>rfl
 | cons x l ih=>rw[List.map_cons,I1,List.flatMap_cons,List.length_append,List.length_append,ih];rfl
def azO(cx:Cx)(w:World)(l:List LexS.Tok):CT cx w (rows Gr (l.map Hi)) (KC l):=by
 unfold KC
 induction l with
 | nil=>exact .nil
 | cons x l ih =>
   rw[List.map_cons,I1,List.flatMap_cons];exact CT.append (.cons (.sc rfl) (.cons (.sc rfl) (.cons (.sc rfl) .nil))) ih
def IE(s:ByteArray):Option (List Tk×Int×Int):=some ((I9 s.data.toList).1.map Hi,(((I9 s.data.toList).2.1:Nat):Int),(((I9 s.data.toList).2.2:Nat):Int))
def Ns{s:ByteArray}{yR:List Tk×Int×Int}(h:IE s=some yR):Pure P (G mx) 34 [.sc (.string s)] (.CZ [.sl .lost yR.1.length (rows Gr yR.1),.sc (.int .i64 yR.2.1),.sc (.int .i64 yR.2.2)]):=by
 cases h;intro s0 cx w vs hs ha;cases ha with
 | cons h1 tl =>
 cases tl;cases h1;refine(amU s w (aMD hs)).mono ?_;rintro e w' ⟨u,rfl,QB,hb⟩;obtain⟨x,st⟩:=hs.same (Vk hb);refine⟨cx,x,st,_,rfl,?_⟩;show Rp cx w' (.CZ [.sl .lost ((I9 (L s)).1.map Hi).length (rows Gr ((I9 (L s)).1.map Hi)),.sc (.int .i64 (I9 (L s)).2.1),.sc (.int .i64 (I9 (L s)).2.2)]) _;refine .CZ (vs:=[u,.int .i64 (I9 (L s)).2.1,.int .i64 (I9 (L s)).2.2]) (.cons ?_ (.cons (.sc rfl) (.cons (.sc rfl) .nil)));have hl:=apX (I9 (L s)).1;have hc:=azO cx w' (I9 (L s)).1;rw[List.length_map];obtain⟨h1,⟨rfl,h2⟩ | ⟨g,cap,cur,rfl,hg,hw,hn,_,hsz,htk⟩⟩:=QB;have:(I9 (L s)).1=[]:=List.eq_nil_of_length_eq_zero h2;rw[this];exact .sl0 trivial;refine .M4 hn (Bk.QK hc (λi v hi=>⟨(Array.getElem?_eq_some_iff.1 hw).1,λKQ=>?_,?_⟩)) trivial;have:g < w.heap.size:=hs.eQ KQ;omega;rw[Nat.zero_add,cell_of_row w' g i cur _ _ hw];rw[<- htk,List.getElem?_take] at hi;split at hi;rwa[Array.getElem?_toList] at hi;cases hi
def RM(s:ByteArray):Option (Int×Unit):=if s.data.toList.length<=18 then (Lib.atoi s.data.toList).map λn=>(n,()) else none
def qO{s:ByteArray}{yR:Int×Unit}(h:RM s=some yR):Pure P (G mx) 173 [.sc (.string s)] (.CZ [.sc (.int .i64 yR.1),.sc .nilIface]):=by
 unfold RM at h;split at h
 · rename_i hl
   cases hn:Lib.atoi s.data.toList with
   | none=>rw[hn] at h;cases h
   | some n =>
     rw[hn] at h;cases h;intro s0 cx w vs hs ha;cases ha with
     | cons h1 tl =>
     cases tl;cases h1;refine(Tryz.strconv_Atoi s n (by show s.data.size<=18;rw[<- Array.length_toList];exact hl) hn w).mono ?_;rintro e w' ⟨rfl,tt,rfl⟩;obtain⟨x,st⟩:=hs.same (vF w _ tt);exact⟨cx,x,st,_,rfl,.CZ (vs:=[.int .i64 n,.nilIface]) (.cons (.sc rfl) (.cons (.sc rfl) .nil))⟩
 cases h
def KV(t o n:ByteArray)(k:Int):Option ByteArray:=if 1<=o.size/\t.size+Lib.countB t o*n.size<=4000 then some ⟨(Lib.replace t.data.toList o.data.toList n.data.toList k).toArray⟩ else none
def eF{t o n:ByteArray}{k:Int}{yR:ByteArray}(h:KV t o n k=some yR):Pure P (G mx) 163 [.sc (.string t),.sc (.string o),.sc (.string n),.sc (.int .i64 k)] (.sc (.string yR)):=by
 unfold KV at h;split at h
 · rename_i hl
   cases h;intro s0 cx w vs hs ha;cases ha with
   | cons a1 tl =>
   cases tl with
   | cons a2 tl =>
   cases tl with
   | cons a3 tl =>
   cases tl with
   | cons a4 tl =>
   cases tl;cases a1;cases a2;cases a3;cases a4
   have hm:w.cell? ⟨5,0,none⟩=some (.int .i64 mx):=by
     have hg:=hs.Ph 5 [Hd.int mx] rfl;obtain⟨v,hv,hr⟩:=hg.get (i:=0) rfl;unfold Hd.int at hr;cases hr;exact hv.2.2
   refine(Tryz.strings_Replace t o n k mx w (by omega) hm hl.1 (by omega)).mono ?_;rintro e w' ⟨rfl,hb⟩;obtain⟨x,st⟩:=hs.same (Vk hb);exact⟨cx,x,st,_,rfl,.sc rfl⟩
 cases h
def ahY:Nd⊕Dg->Nd×Dg×Bool
 | .inl n=>(n,⟨0,0⟩,true)
 | .inr d=>(⟨0,ByteArray.empty,ByteArray.empty,0,0,0,0,⟨0,[]⟩,[],0⟩,d,false)
end Mo
end Go.Proofs.YtpbkhogolfegfaaGreatDoor

namespace AI
open Go
abbrev AV.zi(x:Int):AV:=.sc (.int .i64 x)
abbrev AV.zs(x:ByteArray):AV:=.sc (.string x)
abbrev AV.zb(x:Bool):AV:=.sc (.bool x)
abbrev bT:Value:=.bool true
abbrev bF:Value:=.bool false
def Ew{α β:Type}{a b:α}{c d:β}{Q:Prop}(k:a=b->c=d->Q):some (a,c)=some (b,d)->Q:=λh=>by cases h;exact k rfl rfl
def rT{P:Program}{G:Bc}{c:Code}{fr:List AV}{s:AS}{x:Value}{fn:Func}{m:Nat}(l:List (PC P G))(h:aoA P fn (Tw P G 300 c [] (pHs l) fr s)=some (mH l,.sc x):=by kernel_rfl):W P G (XS P G) H0 c fr s (Un P fn m (λr _=>∃a,r=.ret a/\Fits 0 0 a (.sc x))):=rS (Ac 300 l) h
end AI
namespace Go.Proofs.YtpbkhogolfegfaaGreatDoor
open AI Go
namespace Mo
variable {mx:Int}
abbrev ndL(x:Nd)(r:List AV):List AV:=.zi x.kind::.zs x.name::.zs x.unit::.zi x.n::.zi x.fr::.zi x.to::.zi x.known::.zi x.CV.den::.sl .lost x.CV.ps.length (rows Jb x.CV.ps)::.sl .lost x.kids.length (BF x.kids)::.zi x.AH::r
end Mo
end Go.Proofs.YtpbkhogolfegfaaGreatDoor
namespace AI
open Go
def BW{α β γ δ:Type}{m:Option ((α⊕β)×γ)}{k:(α⊕β)×γ->Option δ}{r:δ}{X:Prop}(h1:∀a c,m=some (.inl a,c)->k (.inl a,c)=some r->X)(h2:∀b c,m=some (.inr b,c)->k (.inr b,c)=some r->X):m.bind k=some r->X:=λh=>by
 cases m with
 | none=>cases h
 | some p =>
   obtain⟨a | b,c⟩:=p;exact h1 a c rfl h;exact h2 b c rfl h
end AI
namespace Go.Proofs.YtpbkhogolfegfaaGreatDoor
open AI Go
namespace Mo
variable {mx:Int}
abbrev pC(p:Pr)(x:Int):List AV:=[.sl .lost p.Bj.length (rows Gr p.Bj),.zi x,.zi p.DK]
abbrev pZ(p:Pr):AS:=⟨[(0,.cells (Rj p))],1,[],0⟩
abbrev pS(p:Pr)(x:Int):AS:=⟨[(0,.cells (pC p x))],1,[],0⟩
def pW{n m:Nat}(p:Pr)(x:Int):FO n m:=bw (.cells (pC p x)) (.cells (pC p x)) (.cells (.plain (A1 (BK.IA p.Bj) (A1 rfl (A1 rfl rfl)))))
abbrev SZ:List AV:=[.zi 0,.zs ByteArray.empty,.zs ByteArray.empty,.zi 0,.zi 0,.zi 0,.zi 0,.zi 0,.sl .full 0 [],.sl .full 0 [],.zi 0]
def mJ{n m:Nat}:FO n m:=bw (.cells SZ) (.cells SZ) (.cells (.plain (A1 rfl (A1 rfl (A1 rfl (A1 rfl (A1 rfl (A1 rfl (A1 rfl (A1 rfl (A1 (Wh rfl) (A1 (Wh rfl) (A1 rfl rfl)))))))))))))
abbrev eD:Dg->AV:=λdV=>.ifc 45 (.agg (OI dV))
def gD{n m:Nat}(d:Dg):FP n m:=⟨eD d,eD d,.plain (B7.Cu d)⟩
abbrev eN:Nd->AV:=λyV=>.agg (C8 yV)
abbrev eT:Tk->AV:=λyV=>.agg (Gr yV)
abbrev eI:Int->AV:=λyV=>.zi yV
abbrev eJ:Int×Int->AV:=λyV=>.CZ [.zi yV.1,.zi yV.2]
abbrev eL:List Nd->AV:=λyV=>.sl .lost yV.length (BF yV)
abbrev eP:Pt->AV:=λyV=>.agg (Xb yV)
abbrev pR(mx:Int)(f:Nat)(al:List AV)(p:Pr)(r:CR)(x:Int):Prop:=Sound P (G mx) (.call f al (pZ p) r (pS p x))
section
variable {c:Code} {fr0:List AV} {s s0 s2:AS} {Q:AX->List AV->AS->Prop} {m:Nat} {v:AV} {ks:List KI}
def Ib(d:Dg)(p:Pr)(x:Int)(l:List (PC P (G mx)))(k:Tl (G mx) m s0 Q v s2)(h:anL s0.nx s0.nr m [v] (mD (n:=s0.nx) (m:=s0.nr) [gD d]) (nK (n:=s0.nx) (m:=s0.nr) [pW p x]) (Tw P (G mx) 300 c [] (pHs l) fr0 s)=some (mH l,[v],s2,rD (n:=s0.nx) (m:=s0.nr) [gD d],yS (n:=s0.nx) (m:=s0.nr) [pW p x]):=by kernel_rfl):W P (G mx) (XS P (G mx)) H0 c fr0 s Q:=BR Hd.Aa m [gD d] [pW p x] (Ac 300 l) h k
def qgB(d:Dg)(p:Pr)(x:Int)(l:List (PC P (G mx)))(k:Tl (G mx) m s0 Q v s2)(h:anL s0.nx s0.nr m [v] (mD (n:=s0.nx) (m:=s0.nr) [gD d]) (nK (n:=s0.nx) (m:=s0.nr) [pW p x]) (Ru (Tw P (G mx) 300) ks .normal (pHs l) fr0 s)=some (mH l,[v],s2,rD (n:=s0.nx) (m:=s0.nr) [gD d],yS (n:=s0.nx) (m:=s0.nr) [pW p x]):=by kernel_rfl):Ee P (G mx) ks Q .normal fr0 s:=BR Hd.Aa m [gD d] [pW p x] (Ht 300 l) h k
end
section
variable {f:Nat} {al:List AV} {p:Pr} {x:Int}
def quG{r:CR}(hr:∀ρ σ,RnR 1 0 ρ σ r r)(hS:pR mx f (.ptr 0 0::al) p r x)(u0:Nat)(ha:BS al=true):Cd.ok P (G mx) (.E9 f (.ptr u0 0::al) r [(u0,.cells (Rj p))] [] [(u0,.cells (pC p x))] []) :=
 Hy (M:=[.cells (Rj p)]) (M2:=[.cells (pC p x)]) (T:=[]) (T2:=[]) (k:=1) (j:=0) Hd.Aa _ _ _ _ hS rfl rfl rfl rfl rfl (List.nodup_cons.2 ⟨by simp,List.nodup_nil⟩) List.nodup_nil rfl rfl (.cons (.cells (.pl (CM.pl p))) .nil) (.cons (.cells (.pl (A1 (BK.IA p.Bj) (A1 rfl (A1 rfl rfl))))) .nil) (.cons (.ptr (by decide)) (.pl ha)) (hr _ _) (λe he=>by simp only[List.mem_singleton] at he;subst he;exact(.arg (.here .ptr)))
def Hr{y:Nd⊕Dg}(hS:pR mx f (.ptr 0 0::al) p (IX eN eD y) x)(u0:Nat)(ha:BS al=true:=by kernel_rfl):Cd.ok P (G mx) (.E9 f (.ptr u0 0::al) (IX eN eD y) [(u0,.cells (Rj p))] [] [(u0,.cells (pC p x))] []):=quG (λ_ _=>Mp (enc:=eN) (encd:=eD) (λyV=>AD.Cu yV) (λdV=>B7.Cu dV) y) hS u0 ha
def Ih{y:Tk⊕Dg}(hS:pR mx f (.ptr 0 0::al) p (IX eT eD y) x)(u0:Nat)(ha:BS al=true:=by kernel_rfl):Cd.ok P (G mx) (.E9 f (.ptr u0 0::al) (IX eT eD y) [(u0,.cells (Rj p))] [] [(u0,.cells (pC p x))] []):=quG (λ_ _=>Mp (enc:=eT) (encd:=eD) (λyV=>BK.Cu yV) (λdV=>B7.Cu dV) y) hS u0 ha
def aH{y:Int⊕Dg}(hS:pR mx f (.ptr 0 0::al) p (IX eI eD y) x)(u0:Nat)(ha:BS al=true:=by kernel_rfl):Cd.ok P (G mx) (.E9 f (.ptr u0 0::al) (IX eI eD y) [(u0,.cells (Rj p))] [] [(u0,.cells (pC p x))] []):=quG (λ_ _=>Mp (enc:=eI) (encd:=eD) (λyV=>rfl) (λdV=>B7.Cu dV) y) hS u0 ha
def Nf{y:(Int×Int)⊕Dg}(hS:pR mx f (.ptr 0 0::al) p (IX eJ eD y) x)(u0:Nat)(ha:BS al=true:=by kernel_rfl):Cd.ok P (G mx) (.E9 f (.ptr u0 0::al) (IX eJ eD y) [(u0,.cells (Rj p))] [] [(u0,.cells (pC p x))] []):=quG (λ_ _=>Mp (enc:=eJ) (encd:=eD) (λyV=>rfl) (λdV=>B7.Cu dV) y) hS u0 ha
def Oj{a:AV}(hS:Sound P (G mx) (.call f (.ptr 0 0::al) (pZ p) (.ret a) (pZ p)))(u0:Nat)(ha:BS al=true:=by kernel_rfl)(hp:plain a=true:=by kernel_rfl):Cd.ok P (G mx) (.E9 f (.ptr u0 0::al) (.ret a) [(u0,.cells (Rj p))] [] [(u0,.cells (Rj p))] []):=quG (x:=p.J3) (r:=.ret a) (λ_ _=>.pl hp) hS u0 ha
end
end Mo
end Go.Proofs.YtpbkhogolfegfaaGreatDoor
namespace Go.Proofs.YtpbkhogolfegfaaGreatDoor
open AI Go
namespace Mo
set_option maxRecDepth 100000
set_option maxHeartbeats 4000000
variable {mx:Int}
def B49:Code:=A3 Tryz.f49
def b49:Tryz.f49.body=some B49:=by kernel_rfl
def MH(p:Pr)(err:Int)(at_:Int):Option (Unit⊕Dg):=some (Sum.inr (⟨err,at_⟩:Dg):(Unit⊕Dg))
def Au{p:Pr}{err:Int}{at_:Int}{yR:(Unit⊕Dg)}(hS:Sound P (G mx) (.call 49 [.ptr 0 0,.zi err,.zi at_] (pZ p) (IX (λyV=>.CZ []) eD yR) (pZ p)))(u0:Nat)(PS:([u0]:List Nat).Nodup:=by decide)(PT:([]:List Nat).Nodup:=by decide):Cd.ok P (G mx) (.E9 49 [.ptr u0 0,.zi err,.zi at_] (IX (λyV=>.CZ []) eD yR) [(u0,.cells (Rj p))] [] [(u0,.cells (Rj p))] []) :=
 Hy (M:=[.cells (Rj p)]) (M2:=[.cells (Rj p)]) (T:=[]) (T2:=[]) (k:=1) (j:=0) Hd.Aa _ _ _ _ hS rfl rfl rfl rfl rfl PS PT rfl rfl (.cons (.cells (.pl (CM.pl p))) .nil) (.cons (.cells (.pl (CM.pl p))) .nil) (.cons (.ptr (by decide)) (.cons (.pl rfl) (.cons (.pl rfl) .nil))) (Mp (enc:=λyV=>.CZ []) (encd:=λdV=>.ifc 45 (.agg (OI dV))) (λyV=>rfl) (λdV=>(B7.Cu dV)) yR) (λe he=>by simp only[List.mem_singleton] at he;subst he;exact(.arg (.here .ptr)))
def Am{p:Pr}{err:Int}{at_:Int}{yR:(Unit⊕Dg)}(h:MH  p err at_=some yR):Sound P (G mx) (.call 49 [.ptr 0 0,.zi err,.zi at_] (pZ p) (IX (λyV=>.CZ []) eD yR) (pZ p)):=by
 unfold MH at h;refine B0 Hd.mixed (Ay Tryz.func49 b49 ?_);revert h;rintro⟨⟩;exact BR Hd.Aa _ [⟨.ifc 45 (.agg [.zi err,.zi at_]),.ifc 45 (.agg [.zi err,.zi at_]),(.plain (B7.Cu (⟨err,at_⟩:Dg)))⟩] [bp (CM.pl p)] (Ac 300 [ppn]) (by kernel_rfl) .body
def B69:Code:=A3 Tryz.f69
def b69:Tryz.f69.body=some B69:=by kernel_rfl
def AF(p:Pr):Option (Tk⊕Dg):=cond (N1 ((p.Bj.length:Nat):Int) p.J3) (some (Sum.inr (⟨72,p.DK⟩:Dg):(Tk⊕Dg))) ((G5 p.Bj p.J3).bind λx1=>some (Sum.inl x1:(Tk⊕Dg)))
def AA{p:Pr}{yR:(Tk⊕Dg)}(hS:Sound P (G mx) (.call 69 [.ptr 0 0] (pZ p) (IX eT eD yR) (pZ p)))(u0:Nat)(PS:([u0]:List Nat).Nodup:=by decide)(PT:([]:List Nat).Nodup:=by decide):Cd.ok P (G mx) (.E9 69 [.ptr u0 0] (IX eT eD yR) [(u0,.cells (Rj p))] [] [(u0,.cells (Rj p))] []) :=
 Hy (M:=[.cells (Rj p)]) (M2:=[.cells (Rj p)]) (T:=[]) (T2:=[]) (k:=1) (j:=0) Hd.Aa _ _ _ _ hS rfl rfl rfl rfl rfl PS PT rfl rfl (.cons (.cells (.pl (CM.pl p))) .nil) (.cons (.cells (.pl (CM.pl p))) .nil) (.cons (.ptr (by decide)) .nil) (Mp (enc:=λyV=>.agg (Gr yV)) (encd:=λdV=>.ifc 45 (.agg (OI dV))) (λyV=>(BK.Cu yV)) (λdV=>(B7.Cu dV)) yR) (λe he=>by simp only[List.mem_singleton] at he;subst he;exact(.arg (.here .ptr)))
def Ao{p:Pr}{yR:(Tk⊕Dg)}(h:AF  p=some yR):Sound P (G mx) (.call 69 [.ptr 0 0] (pZ p) (IX eT eD yR) (pZ p)):=by
 unfold AF at h;refine B0 Hd.mixed (Ay Tryz.func69 b69 ?_);revert h;refine Ag (λA0=>?_) λA0=>?_;rintro⟨⟩;exact BR Hd.Aa _ [⟨.ifc 45 (.agg [.zi 72,.zi p.DK]),.ifc 45 (.agg [.zi 72,.zi p.DK]),(.plain (B7.Cu (⟨72,p.DK⟩:Dg)))⟩] [bp (CM.pl p)] (Ac 300 [pb A0,An (Au (Am (p:=p) (err:=72) (at_:=p.DK) rfl) 0)]) (by kernel_rfl) .body;refine Aq λx1 vY=>?_;rintro⟨⟩;exact Aw Hd.Aa _ _ [⟨.agg (Gr x1),.agg (Gr x1),(.plain (BK.Cu x1))⟩] [bp (CM.pl p)] (Ac 300 [pb A0,mI,IN (Z2 .lost vY)]) (by kernel_rfl) .body
def aFU:Code:=A3 Tryz.f143
def aHN:Tryz.f143.body=some aFU:=by kernel_rfl
def Il(word:ByteArray):Option Bool:=cond (B2 word.data.toList RX.data.toList) (some true) (cond (B2 word.data.toList N2.data.toList) (some true) (cond (B2 word.data.toList He.data.toList) (some true) (cond (B2 word.data.toList abV.data.toList) (some true) (cond (B2 word.data.toList tB.data.toList) (some true) (cond (B2 word.data.toList rG.data.toList) (some true) (cond (B2 word.data.toList toS.data.toList) (some true) (cond (B2 word.data.toList Vr.data.toList) (some true) (cond (B2 word.data.toList bK.data.toList) (some true) (cond (B2 word.data.toList SH.data.toList) (some true) (cond (B2 word.data.toList Qq.data.toList) (some true) (cond (B2 word.data.toList G9.data.toList) (some true) (cond (B2 word.data.toList EF.data.toList) (some true) (cond (B2 word.data.toList JN.data.toList) (some true) (cond (B2 word.data.toList amY.data.toList) (some true) (cond (B2 word.data.toList S6.data.toList) (some true) (cond (B2 word.data.toList Me.data.toList) (some true) (cond (B2 word.data.toList Pg.data.toList) (some true) (cond (B2 word.data.toList Ta.data.toList) (some true) (cond (B2 word.data.toList jH.data.toList) (some true) (cond (B2 word.data.toList PJ.data.toList) (some true) (cond (B2 word.data.toList Vy.data.toList) (some true) (cond (B2 word.data.toList gI.data.toList) (some true) (cond (B2 word.data.toList Y5.data.toList) (some true) (cond (B2 word.data.toList Tu.data.toList) (some true) (cond (B2 word.data.toList cA.data.toList) (some true) (cond (B2 word.data.toList LP.data.toList) (some true) (cond (B2 word.data.toList cJ.data.toList) (some true) (cond (B2 word.data.toList QG.data.toList) (some true) (cond (B2 word.data.toList Vd.data.toList) (some true) (cond (B2 word.data.toList KS.data.toList) (some true) (cond (B2 word.data.toList FU.data.toList) (some true) (cond (B2 word.data.toList QZ.data.toList) (some true) (some false)))))))))))))))))))))))))))))))))
def Jo{word:ByteArray}{yR:Bool}(h:Il  word=some yR):Pure P (G mx) 143 [.zs word] (.zb yR):=by
 unfold Il at h;refine C5 Hd.mixed Hd.Aa (Ay Tryz.func143 aHN ?_) (A1 rfl rfl) rfl;revert h;refine Ag (λA0=>?_) λA0=>?_;rintro⟨⟩;exact rT [pb A0];let o1:List (PC P (G mx)):=[pb A0];refine Ag (λhb2=>?_) λhb2=>?_;rintro⟨⟩;exact rT (o1++[pb hb2]);let o2:List (PC P (G mx)):=o1++[pb hb2];refine Ag (λhb3=>?_) λhb3=>?_;rintro⟨⟩;exact rT (o2++[pb hb3]);let o3:List (PC P (G mx)):=o2++[pb hb3];refine Ag (λFa=>?_) λFa=>?_;rintro⟨⟩;exact rT (o3++[pb Fa]);let o4:List (PC P (G mx)):=o3++[pb Fa];refine Ag (λHH=>?_) λHH=>?_;rintro⟨⟩;exact rT (o4++[pb HH]);let o5:List (PC P (G mx)):=o4++[pb HH];refine Ag (λIH=>?_) λIH=>?_;rintro⟨⟩;exact rT (o5++[pb IH]);let o6:List (PC P (G mx)):=o5++[pb IH];refine Ag (λI6=>?_) λI6=>?_;rintro⟨⟩;exact rT (o6++[pb I6]);let o7:List (PC P (G mx)):=o6++[pb I6];refine Ag (λKP=>?_) λKP=>?_;rintro⟨⟩;exact rT (o7++[pb KP]);let o8:List (PC P (G mx)):=o7++[pb KP];refine Ag (λKi=>?_) λKi=>?_;rintro⟨⟩;exact rT (o8++[pb Ki]);let o9:List (PC P (G mx)):=o8++[pb Ki];refine Ag (λGG=>?_) λGG=>?_;rintro⟨⟩;exact rT (o9++[pb GG]);let sR:List (PC P (G mx)):=o9++[pb GG];refine Ag (λIS=>?_) λIS=>?_;rintro⟨⟩;exact rT (sR++[pb IS]);let o11:List (PC P (G mx)):=sR++[pb IS];refine Ag (λJz=>?_) λJz=>?_;rintro⟨⟩;exact rT (o11++[pb Jz]);let o12:List (PC P (G mx)):=o11++[pb Jz];refine Ag (λJA=>?_) λJA=>?_;rintro⟨⟩;exact rT (o12++[pb JA]);let oW:List (PC P (G mx)):=o12++[pb JA];refine Ag (λKO=>?_) λKO=>?_;rintro⟨⟩;exact rT (oW++[pb KO]);let zD:List (PC P (G mx)):=oW++[pb KO];refine Ag (λLf=>?_) λLf=>?_;rintro⟨⟩;exact rT (zD++[pb Lf]);let zE:List (PC P (G mx)):=zD++[pb Lf];refine Ag (λNU=>?_) λNU=>?_;rintro⟨⟩;exact rT (zE++[pb NU]);let wO:List (PC P (G mx)):=zE++[pb NU];refine Ag (λUy=>?_) λUy=>?_;rintro⟨⟩;exact rT (wO++[pb Uy]);let o17:List (PC P (G mx)):=wO++[pb Uy];refine Ag (λWt=>?_) λWt=>?_;rintro⟨⟩;exact rT (o17++[pb Wt]);let o18:List (PC P (G mx)):=o17++[pb Wt];refine Ag (λnO=>?_) λnO=>?_;rintro⟨⟩;exact rT (o18++[pb nO]);let o19:List (PC P (G mx)):=o18++[pb nO];refine Ag (λnP=>?_) λnP=>?_;rintro⟨⟩;exact rT (o19++[pb nP]);let o20:List (PC P (G mx)):=o19++[pb nP];refine Ag (λnQ=>?_) λnQ=>?_;rintro⟨⟩;exact rT (o20++[pb nQ]);let o21:List (PC P (G mx)):=o20++[pb nQ];refine Ag (λnR=>?_) λnR=>?_;rintro⟨⟩;exact rT (o21++[pb nR]);let o22:List (PC P (G mx)):=o21++[pb nR];refine Ag (λnS=>?_) λnS=>?_;rintro⟨⟩;exact rT (o22++[pb nS]);let o23:List (PC P (G mx)):=o22++[pb nS];refine Ag (λavS=>?_) λavS=>?_;rintro⟨⟩;exact rT (o23++[pb avS]);let o24:List (PC P (G mx)):=o23++[pb avS];refine Ag (λalT=>?_) λalT=>?_;rintro⟨⟩;exact rT (o24++[pb alT]);refine Ag (λavT=>?_) λavT=>?_;rintro⟨⟩;exact rT (o24++[pb alT,pb avT]);let o25:List (PC P (G mx)):=o24++[pb alT,pb avT];refine Ag (λalU=>?_) λalU=>?_;rintro⟨⟩;exact rT (o25++[pb alU]);refine Ag (λavU=>?_) λavU=>?_;rintro⟨⟩;exact rT (o25++[pb alU,pb avU]);let o26:List (PC P (G mx)):=o25++[pb alU,pb avU];refine Ag (λnT=>?_) λnT=>?_;rintro⟨⟩;exact rT (o26++[pb nT]);refine Ag (λvT=>?_) λvT=>?_;rintro⟨⟩;exact rT (o26++[pb nT,pb vT]);refine Ag (λacU=>?_) λacU=>?_;rintro⟨⟩;exact rT (o26++[pb nT,pb vT,pb acU]);refine Ag (λalV=>?_) λalV=>?_;rintro⟨⟩;exact rT (o26++[pb nT,pb vT,pb acU,pb alV]);refine Ag (λavV=>?_) λavV=>?_;rintro⟨⟩;exact rT (o26++[pb nT,pb vT,pb acU,pb alV,pb avV]);rintro⟨⟩;exact rT (o26++[pb nT,pb vT,pb acU,pb alV,pb avV])
def aFJ:Code:=A3 Tryz.f119
def aGX:Tryz.f119.body=some aFJ:=by kernel_rfl
def Cw(token:Tk):Option Bool:=cond (CS token.kind 1) ((Il token.text).bind λy1=>cond y1 (some false) (some true)) (some false)
def N8{token:Tk}{yR:Bool}(h:Cw  token=some yR):Pure P (G mx) 119 [.agg (Gr token)] (.zb yR):=by
 unfold Cw at h;refine C5 Hd.mixed Hd.Aa (Ay Tryz.func119 aGX ?_) (A1 (BK.Cu token) rfl) rfl;revert h;refine Ag (λA0=>?_) λA0=>?_;refine Aq λy1 Ci=>?_;refine Ag (λhv=>?_) λhv=>?_;subst hv;rintro⟨⟩;exact rT [pb A0,AM (Jo Ci)];subst hv;rintro⟨⟩;exact rT [pb A0,AM (Jo Ci)];rintro⟨⟩;exact rT [pb A0]
def aFX:Code:=A3 Tryz.f154
def aHQ:Tryz.f154.body=some aFX:=by kernel_rfl
def Dv(token:Tk)(a1:ByteArray):Option Bool:=cond (B2 token.text.data.toList a1.data.toList) (some true) (some false)
def Pv{token:Tk}{a1:ByteArray}{yR:Bool}(hS:Sound P (G mx) (.call 154 [.agg (Gr token),.ptr 0 0] ⟨[(0,.cells [.zs a1])],1,[],0⟩ (.ret (.zb yR)) ⟨[(0,.cells [.zs a1])],1,[],0⟩))(u0:Nat)(PS:([u0]:List Nat).Nodup:=by decide)(PT:([]:List Nat).Nodup:=by decide):Cd.ok P (G mx) (.E9 154 [.agg (Gr token),.ptr u0 0] (.ret (.zb yR)) [(u0,.cells [.zs a1])] [] [(u0,.cells [.zs a1])] []) :=
 Hy (M:=[.cells [.zs a1]]) (M2:=[.cells [.zs a1]]) (T:=[]) (T2:=[]) (k:=1) (j:=0) Hd.Aa _ _ _ _ hS rfl rfl rfl rfl rfl PS PT rfl rfl (.cons (.cells (.pl (A1 rfl rfl))) .nil) (.cons (.cells (.pl (A1 rfl rfl))) .nil) (.cons (.pl (BK.Cu token)) (.cons (.ptr (by decide)) .nil)) (.pl rfl) (λe he=>by simp only[List.mem_singleton] at he;subst he;exact(.arg (.there (.here .ptr))))
def Nw{token:Tk}{a1:ByteArray}{yR:Bool}(h:Dv  token a1=some yR):Sound P (G mx) (.call 154 [.agg (Gr token),.ptr 0 0] ⟨[(0,.cells [.zs a1])],1,[],0⟩ (.ret (.zb yR)) ⟨[(0,.cells [.zs a1])],1,[],0⟩):=by
 unfold Dv at h;refine B0 Hd.mixed (Ay Tryz.func154 aHQ ?_);revert h;refine Ag (λA0=>?_) λA0=>?_;rintro⟨⟩;exact Aw Hd.Aa _ _ [] [none] (Ac 300 [pb A0]) (by kernel_rfl) .body;rintro⟨⟩;exact Aw Hd.Aa _ _ [] [none] (Ac 300 [pb A0]) (by kernel_rfl) .body
def aFI:Code:=A3 Tryz.f118
def cC:Tryz.f118.body=some aFI:=by kernel_rfl
def Gn(p:Pr)(fits:ByteArray):Option ((Tk⊕Dg)×Int):=(AF p).bind λy1=>Sum.elim (λ(CJ:Tk)=>(Dv CJ fits).bind λy2=>cond y2 (some ((Sum.inl CJ:(Tk⊕Dg)),(BC p.J3 1))) (some ((Sum.inr (⟨71,CJ.AH⟩:Dg):(Tk⊕Dg)),p.J3))) (λ(LY:Dg)=>some ((Sum.inr LY:(Tk⊕Dg)),p.J3)) y1
def LG{p:Pr}{fits:ByteArray}{yR:(Tk⊕Dg)}{Ai:Int}(hS:Sound P (G mx) (.call 118 [.ptr 0 0,.fn (.func 154) [] [.ptr 1 0]] ⟨[(1,.cells [.zs fits]),(0,.cells (Rj p))],2,[],0⟩ (IX eT eD yR) ⟨[(1,.cells [.zs fits]),(0,.cells (pC p Ai))],2,[],0⟩))(u0 u1:Nat)(PS:([u0,u1]:List Nat).Nodup:=by decide)(PT:([]:List Nat).Nodup:=by decide):Cd.ok P (G mx) (.E9 118 [.ptr u0 0,.fn (.func 154) [] [.ptr u1 0]] (IX eT eD yR) [(u0,.cells (Rj p)),(u1,.cells [.zs fits])] [] [(u0,.cells (pC p Ai)),(u1,.cells [.zs fits])] []) :=
 Hy (M:=[.cells (Rj p),.cells [.zs fits]]) (M2:=[.cells (pC p Ai),.cells [.zs fits]]) (T:=[]) (T2:=[]) (k:=2) (j:=0) Hd.Aa _ _ _ _ hS rfl rfl rfl rfl rfl PS PT rfl rfl (.cons (.cells (.pl (CM.pl p))) (.cons (.cells (.pl (A1 rfl rfl))) .nil)) (.cons (.cells (.pl (A1 (BK.IA p.Bj) (A1 rfl (A1 rfl rfl))))) (.cons (.cells (.pl (A1 rfl rfl))) .nil)) (.cons (.ptr (by decide)) (.cons (.fn (.pl rfl) (.cons (.ptr (by decide)) .nil)) .nil)) (Mp (enc:=λyV=>.agg (Gr yV)) (encd:=λdV=>.ifc 45 (.agg (OI dV))) (λyV=>(BK.Cu yV)) (λdV=>(B7.Cu dV)) yR) (by
   intro e he;simp only[List.mem_cons,List.not_mem_nil,or_false] at he;rcases he with rfl | rfl
   exact(.arg (.here .ptr));exact(.arg (.there (.here (.fn2 (.here .ptr)))))
   )
def Kl{p:Pr}{fits:ByteArray}{yR:(Tk⊕Dg)}{Ai:Int}(h:Gn  p fits=some (yR,Ai)):Sound P (G mx) (.call 118 [.ptr 0 0,.fn (.func 154) [] [.ptr 1 0]] ⟨[(1,.cells [.zs fits]),(0,.cells (Rj p))],2,[],0⟩ (IX eT eD yR) ⟨[(1,.cells [.zs fits]),(0,.cells (pC p Ai))],2,[],0⟩):=by
 unfold Gn at h;refine B0 Hd.mixed (Ay Tryz.func118 cC ?_);revert h;refine Aq λy1 Ci=>?_;refine SW (λCJ L4=>?_) λLY L4=>?_;subst L4;refine Aq λy2 D3=>?_;let o1:List (PC P (G mx)):=[Af (AA (Ao Ci) 0),Af (Pv (Nw D3) 1)];refine Ag (λhv=>?_) λhv=>?_;subst hv;rintro⟨⟩;exact Aw Hd.Aa _ _ [⟨.agg (Gr CJ),.agg (Gr CJ),(.plain (BK.Cu CJ))⟩] [none,pW p (BC p.J3 1)] (Ac 300 (o1++[pk])) (by kernel_rfl) .body;subst hv;rintro⟨⟩;exact BR Hd.Aa _ [⟨.ifc 45 (.agg [.zi 71,.zi CJ.AH]),.ifc 45 (.agg [.zi 71,.zi CJ.AH]),(.plain (B7.Cu (⟨71,CJ.AH⟩:Dg)))⟩] [none,bp (CM.pl p)] (Ac 300 (o1++[An (Au (Am (p:=p) (err:=71) (at_:=CJ.AH) rfl) 0)])) (by kernel_rfl) .body;subst L4;rintro⟨⟩;exact BR Hd.Aa _ [gD LY] [none,bp (CM.pl p)] (Ac 300 [An (AA (Ao Ci) 0)]) (by kernel_rfl) .body
def aFK:Code:=A3 Tryz.f120
def aGY:Tryz.f120.body=some aFK:=by kernel_rfl
def Ak(p:Pr)(text:ByteArray):Option ((Tk⊕Dg)×Int):=(Gn p text).bind λ(Eu,Bm)=>Sum.elim (λ(AB:Tk)=>some ((Sum.inl AB:(Tk⊕Dg)),Bm)) (λ(CQ:Dg)=>some ((Sum.inr CQ:(Tk⊕Dg)),Bm)) Eu
def Ab{p:Pr}{text:ByteArray}{yR:(Tk⊕Dg)}{Ai:Int}(h:Ak  p text=some (yR,Ai)):pR mx 120 [.ptr 0 0,.zs text] p (IX eT eD yR) Ai:=by
 unfold Ak at h;refine B0 Hd.mixed (Ay Tryz.func120 aGY ?_);revert h;refine BW (λAB Bm Ci=>?_) λCQ Bm Ci=>?_;refine Ew ?_;rintro rfl rfl;exact Aw Hd.Aa _ _ [⟨.agg (Gr AB),.agg (Gr AB),(.plain (BK.Cu AB))⟩] [pW p Bm] (Ac 300 [Af (LG (Kl Ci) 0 1)]) (by kernel_rfl) .body;refine Ew ?_;rintro rfl rfl;exact Ib CQ p Bm [An (LG (Kl Ci) 0 1)] .body
def aFL:Code:=A3 Tryz.f121
def aGZ:Tryz.f121.body=some aFL:=by kernel_rfl
def Fb(token:Tk):Option Bool:=cond (B2 token.text.data.toList G9.data.toList) (some true) (cond (B2 token.text.data.toList EF.data.toList) (some true) (cond (B2 token.text.data.toList JN.data.toList) (some true) (cond (CS token.kind 2) (some true) (some false))))
def TG{token:Tk}{yR:Bool}(h:Fb  token=some yR):Pure P (G mx) 121 [.agg (Gr token)] (.zb yR):=by
 unfold Fb at h;refine C5 Hd.mixed Hd.Aa (Ay Tryz.func121 aGZ ?_) (A1 (BK.Cu token) rfl) rfl;revert h;refine Ag (λA0=>?_) λA0=>?_;rintro⟨⟩;exact rT [pb A0];refine Ag (λhb2=>?_) λhb2=>?_;rintro⟨⟩;exact rT [pb A0,pb hb2];refine Ag (λhb3=>?_) λhb3=>?_;rintro⟨⟩;exact rT [pb A0,pb hb2,pb hb3];refine Ag (λFa=>?_) λFa=>?_;rintro⟨⟩;exact rT [pb A0,pb hb2,pb hb3,pb Fa];rintro⟨⟩;exact rT [pb A0,pb hb2,pb hb3,pb Fa]
def auA:Code:=A3 Tryz.f122
def aHA:Tryz.f122.body=some auA:=by kernel_rfl
def Ev(word:ByteArray):Option Int:=cond (B2 S6.data.toList word.data.toList) (some 1) (cond (B2 Me.data.toList word.data.toList) (some 2) (cond (B2 Pg.data.toList word.data.toList) (some 3) (cond (B2 Ta.data.toList word.data.toList) (some 4) (some 0))))
def KU{word:ByteArray}{yR:Int}(h:Ev  word=some yR):Pure P (G mx) 122 [.zs word] (.zi yR):=by
 unfold Ev at h;refine C5 Hd.mixed Hd.Aa (Ay Tryz.func122 aHA ?_) (A1 rfl rfl) rfl;revert h;refine Dx (G6 (fr2:=fr 19 [(0,.zs word),(5,.agg [.zs ByteArray.empty,.zs S6,.zs Me,.zs Pg,.zs Ta]),(6,.zi 0)] [] []) (s2:=⟨[],0,[],0⟩) [] 0 (sb auA 52) [.code (sb auA 7)] (Ac 300 []) (by kernel_rfl)) ?_;refine Dx (Ej (fr2:=fr 19 [(0,.zs word),(5,.agg [.zs ByteArray.empty,.zs S6,.zs Me,.zs Pg,.zs Ta]),(6,.zi 1),(7,.zb true),(11,.zb false),(12,.zb false),(16,.zb false)] [] []) (s2:=⟨[],0,[],0⟩) [] (Ac 300 [pk,pk,pk,pk]) (by kernel_rfl)) ?_;refine Ag (λA0=>?_) λA0=>?_;rintro⟨⟩;exact Az _ _ (Ac 300 [pk,pk,pk,pb A0]) (by kernel_rfl) (.Gb (.outer .body)) .sc;refine Dx (Ej (fr2:=fr 19 [(0,.zs word),(5,.agg [.zs ByteArray.empty,.zs S6,.zs Me,.zs Pg,.zs Ta]),(6,.zi 2),(7,.zb true),(11,.zb true),(12,.zb true),(15,.zb false),(16,.zb false)] [] []) (s2:=⟨[],0,[],0⟩) [] (Ac 300 [pk,pk,pk,pb A0,pk]) (by kernel_rfl)) ?_;refine Ag (λhb2=>?_) λhb2=>?_;rintro⟨⟩;exact Az _ _ (Ac 300 [pk,pk,pk,pb hb2]) (by kernel_rfl) (.Gb (.outer .body)) .sc;refine Dx (Ej (fr2:=fr 19 [(0,.zs word),(5,.agg [.zs ByteArray.empty,.zs S6,.zs Me,.zs Pg,.zs Ta]),(6,.zi 3),(7,.zb true),(11,.zb true),(12,.zb true),(15,.zb false),(16,.zb false)] [] []) (s2:=⟨[],0,[],0⟩) [] (Ac 300 [pk,pk,pk,pb hb2,pk]) (by kernel_rfl)) ?_;refine Ag (λhb3=>?_) λhb3=>?_;rintro⟨⟩;exact Az _ _ (Ac 300 [pk,pk,pk,pb hb3]) (by kernel_rfl) (.Gb (.outer .body)) .sc;refine Dx (Ej (fr2:=fr 19 [(0,.zs word),(5,.agg [.zs ByteArray.empty,.zs S6,.zs Me,.zs Pg,.zs Ta]),(6,.zi 4),(7,.zb true),(11,.zb true),(12,.zb true),(15,.zb false),(16,.zb false)] [] []) (s2:=⟨[],0,[],0⟩) [] (Ac 300 [pk,pk,pk,pb hb3,pk]) (by kernel_rfl)) ?_;refine Ag (λFa=>?_) λFa=>?_;rintro⟨⟩;exact Az _ _ (Ac 300 [pk,pk,pk,pb Fa]) (by kernel_rfl) (.Gb (.outer .body)) .sc;refine Dx (Ej (fr2:=fr 19 [(0,.zs word),(5,.agg [.zs ByteArray.empty,.zs S6,.zs Me,.zs Pg,.zs Ta]),(6,.zi 5),(7,.zb true),(11,.zb true),(12,.zb true),(15,.zb false),(16,.zb false)] [] []) (s2:=⟨[],0,[],0⟩) [] (Ac 300 [pk,pk,pk,pb Fa,pk]) (by kernel_rfl)) ?_;refine dJ (DU (id:=0) (fr2:=fr 19 [(7,.zb false),(11,.zb true),(12,.zb true),(15,.zb false),(16,.zb false)] [] []) (s2:=⟨[],0,[],0⟩) (Ac 300 [pk]) (by kernel_rfl)) ?_;rintro⟨⟩;exact Az _ _ (eM 300 []) (by kernel_rfl) .body .sc
def aFM:Code:=A3 Tryz.f123
def aHB:Tryz.f123.body=some aFM:=by kernel_rfl
def BX(token:Tk):Option Bool:=(Ev token.text).bind λy1=>cond (DM 0 y1) (some true) (some false)
def LF{token:Tk}{yR:Bool}(h:BX  token=some yR):Pure P (G mx) 123 [.agg (Gr token)] (.zb yR):=by
 unfold BX at h;refine C5 Hd.mixed Hd.Aa (Ay Tryz.func123 aHB ?_) (A1 (BK.Cu token) rfl) rfl;revert h;refine Aq λy1 Ci=>?_;refine Ag (λA0=>?_) λA0=>?_;rintro⟨⟩;exact rT [AM (KU Ci),pb A0];rintro⟨⟩;exact rT [AM (KU Ci),pb A0]
def DD(p:Pr):Option ((Tk⊕Dg)×Int):=(AF p).bind λy1=>Sum.elim (λ(CJ:Tk)=>(Cw CJ).bind λy2=>cond y2 (some ((Sum.inl CJ:(Tk⊕Dg)),(BC p.J3 1))) (some ((Sum.inr (⟨71,CJ.AH⟩:Dg):(Tk⊕Dg)),p.J3))) (λ(LY:Dg)=>some ((Sum.inr LY:(Tk⊕Dg)),p.J3)) y1
def D7{p:Pr}{yR:(Tk⊕Dg)}{Ai:Int}(h:DD  p=some (yR,Ai)):pR mx 118 [.ptr 0 0,.fn (.func 119) [] []] p (IX eT eD yR) Ai:=by
 unfold DD at h;refine B0 Hd.mixed (Ay Tryz.func118 cC ?_);revert h;refine Aq λy1 Ci=>?_;refine SW (λCJ L4=>?_) λLY L4=>?_;subst L4;refine Aq λy2 D3=>?_;let o1:List (PC P (G mx)):=[Af (AA (Ao Ci) 0),AM (N8 D3)];refine Ag (λhv=>?_) λhv=>?_;subst hv;rintro⟨⟩;exact Aw Hd.Aa _ _ [⟨.agg (Gr CJ),.agg (Gr CJ),(.plain (BK.Cu CJ))⟩] [pW p (BC p.J3 1)] (Ac 300 (o1++[pk])) (by kernel_rfl) .body;subst hv;rintro⟨⟩;exact BR Hd.Aa _ [⟨.ifc 45 (.agg [.zi 71,.zi CJ.AH]),.ifc 45 (.agg [.zi 71,.zi CJ.AH]),(.plain (B7.Cu (⟨71,CJ.AH⟩:Dg)))⟩] [bp (CM.pl p)] (Ac 300 (o1++[An (Au (Am (p:=p) (err:=71) (at_:=CJ.AH) rfl) 0)])) (by kernel_rfl) .body;subst L4;rintro⟨⟩;exact BR Hd.Aa _ [gD LY] [bp (CM.pl p)] (Ac 300 [An (AA (Ao Ci) 0)]) (by kernel_rfl) .body
def EI(p:Pr):Option ((Tk⊕Dg)×Int):=(AF p).bind λy1=>Sum.elim (λ(CJ:Tk)=>(Fb CJ).bind λy2=>cond y2 (some ((Sum.inl CJ:(Tk⊕Dg)),(BC p.J3 1))) (some ((Sum.inr (⟨71,CJ.AH⟩:Dg):(Tk⊕Dg)),p.J3))) (λ(LY:Dg)=>some ((Sum.inr LY:(Tk⊕Dg)),p.J3)) y1
def Io{p:Pr}{yR:(Tk⊕Dg)}{Ai:Int}(h:EI  p=some (yR,Ai)):pR mx 118 [.ptr 0 0,.fn (.func 121) [] []] p (IX eT eD yR) Ai:=by
 unfold EI at h;refine B0 Hd.mixed (Ay Tryz.func118 cC ?_);revert h;refine Aq λy1 Ci=>?_;refine SW (λCJ L4=>?_) λLY L4=>?_;subst L4;refine Aq λy2 D3=>?_;let o1:List (PC P (G mx)):=[Af (AA (Ao Ci) 0),AM (TG D3)];refine Ag (λhv=>?_) λhv=>?_;subst hv;rintro⟨⟩;exact Aw Hd.Aa _ _ [⟨.agg (Gr CJ),.agg (Gr CJ),(.plain (BK.Cu CJ))⟩] [pW p (BC p.J3 1)] (Ac 300 (o1++[pk])) (by kernel_rfl) .body;subst hv;rintro⟨⟩;exact BR Hd.Aa _ [⟨.ifc 45 (.agg [.zi 71,.zi CJ.AH]),.ifc 45 (.agg [.zi 71,.zi CJ.AH]),(.plain (B7.Cu (⟨71,CJ.AH⟩:Dg)))⟩] [bp (CM.pl p)] (Ac 300 (o1++[An (Au (Am (p:=p) (err:=71) (at_:=CJ.AH) rfl) 0)])) (by kernel_rfl) .body;subst L4;rintro⟨⟩;exact BR Hd.Aa _ [gD LY] [bp (CM.pl p)] (Ac 300 [An (AA (Ao Ci) 0)]) (by kernel_rfl) .body
def F5(p:Pr):Option ((Tk⊕Dg)×Int):=(AF p).bind λy1=>Sum.elim (λ(CJ:Tk)=>(BX CJ).bind λy2=>cond y2 (some ((Sum.inl CJ:(Tk⊕Dg)),(BC p.J3 1))) (some ((Sum.inr (⟨71,CJ.AH⟩:Dg):(Tk⊕Dg)),p.J3))) (λ(LY:Dg)=>some ((Sum.inr LY:(Tk⊕Dg)),p.J3)) y1
def JQ{p:Pr}{yR:(Tk⊕Dg)}{Ai:Int}(h:F5  p=some (yR,Ai)):pR mx 118 [.ptr 0 0,.fn (.func 123) [] []] p (IX eT eD yR) Ai:=by
 unfold F5 at h;refine B0 Hd.mixed (Ay Tryz.func118 cC ?_);revert h;refine Aq λy1 Ci=>?_;refine SW (λCJ L4=>?_) λLY L4=>?_;subst L4;refine Aq λy2 D3=>?_;let o1:List (PC P (G mx)):=[Af (AA (Ao Ci) 0),AM (LF D3)];refine Ag (λhv=>?_) λhv=>?_;subst hv;rintro⟨⟩;exact Aw Hd.Aa _ _ [⟨.agg (Gr CJ),.agg (Gr CJ),(.plain (BK.Cu CJ))⟩] [pW p (BC p.J3 1)] (Ac 300 (o1++[pk])) (by kernel_rfl) .body;subst hv;rintro⟨⟩;exact BR Hd.Aa _ [⟨.ifc 45 (.agg [.zi 71,.zi CJ.AH]),.ifc 45 (.agg [.zi 71,.zi CJ.AH]),(.plain (B7.Cu (⟨71,CJ.AH⟩:Dg)))⟩] [bp (CM.pl p)] (Ac 300 (o1++[An (Au (Am (p:=p) (err:=71) (at_:=CJ.AH) rfl) 0)])) (by kernel_rfl) .body;subst L4;rintro⟨⟩;exact BR Hd.Aa _ [gD LY] [bp (CM.pl p)] (Ac 300 [An (AA (Ao Ci) 0)]) (by kernel_rfl) .body
def B70:Code:=A3 Tryz.f70
def b70:Tryz.f70.body=some B70:=by kernel_rfl
def DC(p:Pr):Option ((Nd⊕Dg)×Int):=(AF p).bind λy1=>Sum.elim (λ(CJ:Tk)=>(DD (⟨p.Bj,(BC p.J3 1),p.DK⟩:Pr)).bind λ(Ia,EL)=>Sum.elim (λ(C7:Tk)=>(Ak (⟨p.Bj,EL,p.DK⟩:Pr) UO).bind λ(IP,EN)=>Sum.elim (λ(CK:Tk)=>(EI (⟨p.Bj,EN,p.DK⟩:Pr)).bind λ(VV,JD)=>Sum.elim (λ(Dl:Tk)=>cond (B2 CJ.text.data.toList N2.data.toList) ((F5 (⟨p.Bj,JD,p.DK⟩:Pr)).bind λ(Sh,Hv)=>Sum.elim (λ(Ix:Tk)=>(Ev Ix.text).bind λy6=>(Ak (⟨p.Bj,Hv,p.DK⟩:Pr) Rz).bind λ(qI,RB)=>Sum.elim (λ(Vc:Tk)=>some ((Sum.inl (⟨3,C7.text,Dl.text,y6,0,0,0,(⟨0,[]⟩:Fn),[],CJ.AH⟩:Nd):(Nd⊕Dg)),RB)) (λ(PD:Dg)=>some ((Sum.inr PD:(Nd⊕Dg)),RB)) qI) (λ(Hb:Dg)=>some ((Sum.inr Hb:(Nd⊕Dg)),Hv)) Sh) ((Ak (⟨p.Bj,JD,p.DK⟩:Pr) Rz).bind λ(Zl,LU)=>Sum.elim (λ(GZ:Tk)=>some ((Sum.inl (⟨2,C7.text,Dl.text,0,0,0,0,(⟨0,[]⟩:Fn),[],CJ.AH⟩:Nd):(Nd⊕Dg)),LU)) (λ(LS:Dg)=>some ((Sum.inr LS:(Nd⊕Dg)),LU)) Zl)) (λ(Iw:Dg)=>some ((Sum.inr Iw:(Nd⊕Dg)),JD)) VV) (λ(Ez:Dg)=>some ((Sum.inr Ez:(Nd⊕Dg)),EN)) IP) (λ(Ha:Dg)=>some ((Sum.inr Ha:(Nd⊕Dg)),EL)) Ia) (λ(LY:Dg)=>some ((Sum.inr LY:(Nd⊕Dg)),p.J3)) y1
def D6{p:Pr}{yR:(Nd⊕Dg)}{Ai:Int}(h:DC  p=some (yR,Ai)):pR mx 70 [.ptr 0 0] p (IX eN eD yR) Ai:=by
 unfold DC at h;refine B0 Hd.mixed (Ay Tryz.func70 b70 ?_);revert h;refine Aq λy1 Ci=>?_;refine SW (λCJ L4=>?_) λLY L4=>?_;subst L4;let o1:List (PC P (G mx)):=[Af (AA (Ao Ci) 0),pk];refine BW (λC7 EL D3=>?_) λHa EL D3=>?_;let o2:List (PC P (G mx)):=o1++[Af (Ih (D7 D3) 0)];refine BW (λCK EN Fc=>?_) λEz EN Fc=>?_;let o3:List (PC P (G mx)):=o2++[Af (Ih (Ab Fc) 0)];refine BW (λDl JD J5=>?_) λIw JD J5=>?_;let o4:List (PC P (G mx)):=o3++[Af (Ih (Io J5) 0)];refine Ag (λA0=>?_) λA0=>?_;refine BW (λIx Hv Ko=>?_) λHb Hv Ko=>?_;refine Aq λy6 L6=>?_;let o5:List (PC P (G mx)):=o4++[pb A0,Af (Ih (JQ Ko) 0),AM (KU L6)];refine BW (λVc RB Sz=>?_) λPD RB Sz=>?_;refine Ew ?_;rintro rfl rfl;exact Aw Hd.Aa _ _ [⟨.agg [.zi 3,.zs C7.text,.zs Dl.text,.zi y6,.zi 0,.zi 0,.zi 0,.zi 0,.sl .full 0 [],.sl .full 0 [],.zi CJ.AH],.agg [.zi 3,.zs C7.text,.zs Dl.text,.zi y6,.zi 0,.zi 0,.zi 0,.zi 0,.sl .lost ([].length) (rows Jb []),.sl .lost ([].length) (BF []),.zi CJ.AH],(.wn (.g (.r (.r (.r (.r (.r (.r (.r (.r (.z (.z (.r .nil))))))))))) .nil) (AD.Cu (⟨3,C7.text,Dl.text,y6,0,0,0,(⟨0,[]⟩:Fn),[],CJ.AH⟩:Nd)))⟩] [pW p RB] (Ac 300 (o5++[Af (Ih (Ab Sz) 0)])) (by kernel_rfl) .body;refine Ew ?_;rintro rfl rfl;exact Ib PD p RB (o5++[An (Ih (Ab Sz) 0)]) .body;refine Ew ?_;rintro rfl rfl;exact Ib Hb p Hv (o4++[pb A0,An (Ih (JQ Ko) 0)]) .body;refine BW (λGZ LU OF=>?_) λLS LU OF=>?_;refine Ew ?_;rintro rfl rfl;exact Aw Hd.Aa _ _ [⟨.agg [.zi 2,.zs C7.text,.zs Dl.text,.zi 0,.zi 0,.zi 0,.zi 0,.zi 0,.sl .full 0 [],.sl .full 0 [],.zi CJ.AH],.agg [.zi 2,.zs C7.text,.zs Dl.text,.zi 0,.zi 0,.zi 0,.zi 0,.zi 0,.sl .lost ([].length) (rows Jb []),.sl .lost ([].length) (BF []),.zi CJ.AH],(.wn (.g (.r (.r (.r (.r (.r (.r (.r (.r (.z (.z (.r .nil))))))))))) .nil) (AD.Cu (⟨2,C7.text,Dl.text,0,0,0,0,(⟨0,[]⟩:Fn),[],CJ.AH⟩:Nd)))⟩] [pW p LU] (Ac 300 (o4++[pb A0,Af (Ih (Ab OF) 0)])) (by kernel_rfl) .body;refine Ew ?_;rintro rfl rfl;exact Ib LS p LU (o4++[pb A0,An (Ih (Ab OF) 0)]) .body;refine Ew ?_;rintro rfl rfl;exact Ib Iw p JD (o3++[An (Ih (Io J5) 0)]) .body;refine Ew ?_;rintro rfl rfl;exact Ib Ez p EN (o2++[An (Ih (Ab Fc) 0)]) .body;refine Ew ?_;rintro rfl rfl;exact Ib Ha p EL (o1++[An (Ih (D7 D3) 0)]) .body;subst L4;refine Ew ?_;rintro rfl rfl;exact BR Hd.Aa _ [gD LY] [bp (CM.pl p)] (Ac 300 [An (AA (Ao Ci) 0)]) (by kernel_rfl) .body
def aGE:Code:=A3 Tryz.f172
def aHX:Tryz.f172.body=some aGE:=by kernel_rfl
def Eo(token:Tk):Option Bool:=cond (CS token.kind 3) (some true) (some false)
def Nx{token:Tk}{yR:Bool}(h:Eo  token=some yR):Pure P (G mx) 172 [.agg (Gr token)] (.zb yR):=by
 unfold Eo at h;refine C5 Hd.mixed Hd.Aa (Ay Tryz.func172 aHX ?_) (A1 (BK.Cu token) rfl) rfl;revert h;refine Ag (λA0=>?_) λA0=>?_;rintro⟨⟩;exact rT [pb A0];rintro⟨⟩;exact rT [pb A0]
def HV(p:Pr):Option ((Tk⊕Dg)×Int):=(AF p).bind λy1=>Sum.elim (λ(CJ:Tk)=>(Eo CJ).bind λy2=>cond y2 (some ((Sum.inl CJ:(Tk⊕Dg)),(BC p.J3 1))) (some ((Sum.inr (⟨71,CJ.AH⟩:Dg):(Tk⊕Dg)),p.J3))) (λ(LY:Dg)=>some ((Sum.inr LY:(Tk⊕Dg)),p.J3)) y1
def Jp{p:Pr}{yR:(Tk⊕Dg)}{Ai:Int}(h:HV  p=some (yR,Ai)):pR mx 118 [.ptr 0 0,.fn (.func 172) [] []] p (IX eT eD yR) Ai:=by
 unfold HV at h;refine B0 Hd.mixed (Ay Tryz.func118 cC ?_);revert h;refine Aq λy1 Ci=>?_;refine SW (λCJ L4=>?_) λLY L4=>?_;subst L4;refine Aq λy2 D3=>?_;let o1:List (PC P (G mx)):=[Af (AA (Ao Ci) 0),AM (Nx D3)];refine Ag (λhv=>?_) λhv=>?_;subst hv;rintro⟨⟩;exact Aw Hd.Aa _ _ [⟨.agg (Gr CJ),.agg (Gr CJ),(.plain (BK.Cu CJ))⟩] [pW p (BC p.J3 1)] (Ac 300 (o1++[pk])) (by kernel_rfl) .body;subst hv;rintro⟨⟩;exact BR Hd.Aa _ [⟨.ifc 45 (.agg [.zi 71,.zi CJ.AH]),.ifc 45 (.agg [.zi 71,.zi CJ.AH]),(.plain (B7.Cu (⟨71,CJ.AH⟩:Dg)))⟩] [bp (CM.pl p)] (Ac 300 (o1++[An (Au (Am (p:=p) (err:=71) (at_:=CJ.AH) rfl) 0)])) (by kernel_rfl) .body;subst L4;rintro⟨⟩;exact BR Hd.Aa _ [gD LY] [bp (CM.pl p)] (Ac 300 [An (AA (Ao Ci) 0)]) (by kernel_rfl) .body
def aFY:Code:=A3 Tryz.f155
def aHR:Tryz.f155.body=some aFY:=by kernel_rfl
def EV(p:Pr):Option (((Int×Int)⊕Dg)×Int):=(HV p).bind λ(Eu,Bm)=>Sum.elim (λ(AB:Tk)=>(RM AB.text).bind λ(Ia,EL)=>some ((Sum.inl (Ia,AB.AH):((Int×Int)⊕Dg)),Bm)) (λ(CQ:Dg)=>some ((Sum.inr CQ:((Int×Int)⊕Dg)),Bm)) Eu
def Fj{p:Pr}{yR:((Int×Int)⊕Dg)}{Ai:Int}(h:EV  p=some (yR,Ai)):pR mx 155 [.ptr 0 0] p (IX eJ eD yR) Ai:=by
 unfold EV at h;refine B0 Hd.mixed (Ay Tryz.func155 aHR ?_);revert h;refine BW (λAB Bm Ci=>?_) λCQ Bm Ci=>?_;refine Aq ?_;rintro⟨Ia,EL⟩ D3;dsimp only;refine Ew ?_;rintro rfl rfl;exact Aw Hd.Aa _ _ [⟨.CZ [.zi Ia,.zi AB.AH],.CZ [.zi Ia,.zi AB.AH],(.plain (A1 rfl (A1 rfl rfl)))⟩] [pW p Bm] (Ac 300 [Af (Ih (Jp Ci) 0),AM (qO D3)]) (by kernel_rfl) .body;refine Ew ?_;rintro rfl rfl;exact Ib CQ p Bm [An (Ih (Jp Ci) 0)] .body
def aFN:Code:=A3 Tryz.f124
def aHC:Tryz.f124.body=some aFN:=by kernel_rfl
def AL(p:Pr)(least:Int):Option (((Int×Int)⊕Dg)×Int):=(EV p).bind λ(Eu,Bm)=>Sum.elim (λ(AB:(Int×Int))=>cond (DM AB.1 least) (some ((Sum.inr (⟨3,AB.2⟩:Dg):((Int×Int)⊕Dg)),Bm)) (cond (DM 1000000 AB.1) (some ((Sum.inr (⟨3,AB.2⟩:Dg):((Int×Int)⊕Dg)),Bm)) (some ((Sum.inl (AB.1,AB.2):((Int×Int)⊕Dg)),Bm)))) (λ(CQ:Dg)=>some ((Sum.inr CQ:((Int×Int)⊕Dg)),Bm)) Eu
def Al{p:Pr}{least:Int}{yR:((Int×Int)⊕Dg)}{Ai:Int}(h:AL  p least=some (yR,Ai)):pR mx 124 [.ptr 0 0,.zi least] p (IX eJ eD yR) Ai:=by
 unfold AL at h;refine B0 Hd.mixed (Ay Tryz.func124 aHC ?_);revert h;refine BW (λAB Bm Ci=>?_) λCQ Bm Ci=>?_;let o1:List (PC P (G mx)):=[Af (Nf (Fj Ci) 0)];refine Ag (λA0=>?_) λA0=>?_;refine Ew ?_;rintro rfl rfl;exact BR Hd.Aa _ [⟨.ifc 45 (.agg [.zi 3,.zi AB.2]),.ifc 45 (.agg [.zi 3,.zi AB.2]),(.plain (B7.Cu (⟨3,AB.2⟩:Dg)))⟩] [pW p Bm] (Ac 300 (o1++[pb A0,An (Au (Am (p:=(⟨p.Bj,Bm,p.DK⟩:Pr)) (err:=3) (at_:=AB.2) rfl) 0)])) (by kernel_rfl) .body;refine Ag (λhb2=>?_) λhb2=>?_;refine Ew ?_;rintro rfl rfl;exact BR Hd.Aa _ [⟨.ifc 45 (.agg [.zi 3,.zi AB.2]),.ifc 45 (.agg [.zi 3,.zi AB.2]),(.plain (B7.Cu (⟨3,AB.2⟩:Dg)))⟩] [pW p Bm] (Ac 300 (o1++[pb A0,pb hb2,An (Au (Am (p:=(⟨p.Bj,Bm,p.DK⟩:Pr)) (err:=3) (at_:=AB.2) rfl) 0)])) (by kernel_rfl) .body;refine Ew ?_;rintro rfl rfl;exact Aw Hd.Aa _ _ [⟨.CZ [.zi AB.1,.zi AB.2],.CZ [.zi AB.1,.zi AB.2],(.plain (A1 rfl (A1 rfl rfl)))⟩] [pW p Bm] (Ac 300 (o1++[pb A0,pb hb2])) (by kernel_rfl) .body;refine Ew ?_;rintro rfl rfl;exact Ib CQ p Bm [An (Nf (Fj Ci) 0)] .body
def B37:Code:=A3 Tryz.f37
def b37:Tryz.f37.body=some B37:=by kernel_rfl
def As(p:Pr)(text:ByteArray):Option Bool:=cond (DM p.J3 ((p.Bj.length:Nat):Int)) ((G5 p.Bj p.J3).bind λx1=>(some (B2 x1.text.data.toList text.data.toList)).bind λq2=>some q2) (some false)
def Ah{p:Pr}{text:ByteArray}{yR:Bool}(h:As  p text=some yR):Sound P (G mx) (.call 37 [.ptr 0 0,.zs text] (pZ p) (.ret (.zb yR)) (pZ p)):=by
 unfold As at h;refine B0 Hd.mixed (Ay Tryz.func37 b37 ?_);revert h;refine Ag (λA0=>?_) λA0=>?_;refine Aq λx1 vY=>?_;refine Aq λq2 Zn=>?_;rintro⟨⟩;exact Aw Hd.Aa _ _ [] [bp (CM.pl p)] (Ac 300 [pb A0,IN (Z2 .lost vY),Kx (aFD Zn (.tmp 26) (.tmp 27))]) (by kernel_rfl) .body;rintro⟨⟩;exact Aw Hd.Aa _ _ [] [bp (CM.pl p)] (Ac 300 [pb A0]) (by kernel_rfl) .body
def aGF:Code:=A3 Tryz.f174
def aHY:Tryz.f174.body=some aGF:=by kernel_rfl
def EU(token:Tk):Option Bool:=cond (CS token.kind 5) (some true) (some false)
def OO{token:Tk}{yR:Bool}(h:EU  token=some yR):Pure P (G mx) 174 [.agg (Gr token)] (.zb yR):=by
 unfold EU at h;refine C5 Hd.mixed Hd.Aa (Ay Tryz.func174 aHY ?_) (A1 (BK.Cu token) rfl) rfl;revert h;refine Ag (λA0=>?_) λA0=>?_;rintro⟨⟩;exact rT [pb A0];rintro⟨⟩;exact rT [pb A0]
def aGJ:Code:=A3 Tryz.f212
def aIE:Tryz.f212.body=some aGJ:=by kernel_rfl
def Gg(year:Int)(month:Int):Option Int:=(G5 beforeL (BC month 1)).bind λx1=>(G5 beforeL month).bind λx2=>cond (CS month 1) (cond (CS (fE year 4) 0) (some (BC (LR x1 x2) 1)) (some (LR x1 x2))) (some (LR x1 x2))
def Qt{year:Int}{month:Int}{yR:Int}(h:Gg  year month=some yR):Pure P (G mx) 212 [.zi year,.zi month] (.zi yR):=by
 unfold Gg at h;refine C5 Hd.mixed Hd.Aa (Ay Tryz.func212 aIE ?_) (A1 rfl (A1 rfl rfl)) rfl;revert h;refine Aq λx1 vY=>?_;refine Aq λx2 yZ=>?_;let o1:List (PC P (G mx)):=[pk,IN (oJ vY),IN (oJ yZ),pk];refine Ag (λA0=>?_) λA0=>?_;refine Ag (λhb2=>?_) λhb2=>?_;rintro⟨⟩;exact rT (o1++[pb A0,pk,pb hb2,pk]);rintro⟨⟩;exact rT (o1++[pb A0,pk,pb hb2]);rintro⟨⟩;exact rT (o1++[pb A0])
def aGN:Code:=A3 Tryz.f227
def aIJ:Tryz.f227.body=some aGN:=by kernel_rfl
def JI(year:Int):Option Int:=some (BC (BU (LR year 2000) 365) (yJ (BC (LR year 2000) 3) 4))
def PM{year:Int}{yR:Int}(h:JI  year=some yR):Pure P (G mx) 227 [.zi year] (.zi yR):=by
 unfold JI at h;refine C5 Hd.mixed Hd.Aa (Ay Tryz.func227 aIJ ?_) (A1 rfl rfl) rfl;revert h;rintro⟨⟩;exact rT [pk,pk,pk,pk,pk]
def aGK:Code:=A3 Tryz.f213
def aIF:Tryz.f213.body=some aGK:=by kernel_rfl
def Ii(month:Int):Option Int:=cond (DM month 0) (some (-1)) (cond (DM 1199 month) (some (-1)) ((JI (BC 2000 (yJ month 12))).bind λy1=>(G5 beforeL (fE month 12)).bind λx2=>cond (DM 1 (fE month 12)) (cond (CS (fE (BC 2000 (yJ month 12)) 4) 0) (some (BC (BC y1 x2) 1)) (some (BC y1 x2))) (some (BC y1 x2))))
def SL{month:Int}{yR:Int}(h:Ii  month=some yR):Pure P (G mx) 213 [.zi month] (.zi yR):=by
 unfold Ii at h;refine C5 Hd.mixed Hd.Aa (Ay Tryz.func213 aIF ?_) (A1 rfl rfl) rfl;revert h;refine Ag (λA0=>?_) λA0=>?_;rintro⟨⟩;exact rT [pb A0];refine Ag (λhb2=>?_) λhb2=>?_;rintro⟨⟩;exact rT [pb A0,pb hb2];refine Aq λy1 Ci=>?_;refine Aq λx2 yZ=>?_;let o1:List (PC P (G mx)):=[pb A0,pb hb2,pk,pk,AM (PM Ci),pk,IN (oJ yZ),pk,pk];refine Ag (λhb3=>?_) λhb3=>?_;refine Ag (λFa=>?_) λFa=>?_;rintro⟨⟩;exact rT (o1++[pb hb3,pk,pb Fa,pk]);rintro⟨⟩;exact rT (o1++[pb hb3,pk,pb Fa]);rintro⟨⟩;exact rT (o1++[pb hb3])
def aGH:Code:=A3 Tryz.f195
def aIC:Tryz.f195.body=some aGH:=by kernel_rfl
def JH(year:Int)(month:Int)(day:Int):Option (Int×Int):=cond (DM year 2000) (some (0,21)) (cond (DM 2099 year) (some (0,21)) (cond (DM month 1) (some (0,21)) (cond (DM 12 month) (some (0,21)) (cond (DM day 1) (some (0,21)) ((Gg year (LR month 1)).bind λy1=>cond (DM y1 day) (some (0,21)) ((Ii (LR (BC (BU (LR year 2000) 12) month) 1)).bind λy2=>some ((LR (BC y2 day) 1),0)))))))
def Uq{year:Int}{month:Int}{day:Int}{yR:(Int×Int)}(h:JH  year month day=some yR):Pure P (G mx) 195 [.zi year,.zi month,.zi day] (.CZ [.zi yR.1,.zi yR.2]):=by
 unfold JH at h;refine C5 Hd.mixed Hd.Aa (Ay Tryz.func195 aIC ?_) (A1 rfl (A1 rfl (A1 rfl rfl))) (A1 rfl (A1 rfl rfl));revert h;refine Ag (λA0=>?_) λA0=>?_;rintro⟨⟩;exact Az _ _ (Ac 300 [pb A0]) (by kernel_rfl) .body (.plain (A1 rfl (A1 rfl rfl)));refine Ag (λhb2=>?_) λhb2=>?_;rintro⟨⟩;exact Az _ _ (Ac 300 [pb A0,pb hb2]) (by kernel_rfl) .body (.plain (A1 rfl (A1 rfl rfl)));refine Ag (λhb3=>?_) λhb3=>?_;rintro⟨⟩;exact Az _ _ (Ac 300 [pb A0,pb hb2,pb hb3]) (by kernel_rfl) .body (.plain (A1 rfl (A1 rfl rfl)));refine Ag (λFa=>?_) λFa=>?_;rintro⟨⟩;exact Az _ _ (Ac 300 [pb A0,pb hb2,pb hb3,pb Fa]) (by kernel_rfl) .body (.plain (A1 rfl (A1 rfl rfl)));refine Ag (λHH=>?_) λHH=>?_;rintro⟨⟩;exact Az _ _ (Ac 300 [pb A0,pb hb2,pb hb3,pb Fa,pb HH]) (by kernel_rfl) .body (.plain (A1 rfl (A1 rfl rfl)));refine Aq λy1 Ci=>?_;let o1:List (PC P (G mx)):=[pb A0,pb hb2,pb hb3,pb Fa,pb HH,pk,AM (Qt Ci)];refine Ag (λIH=>?_) λIH=>?_;rintro⟨⟩;exact Az _ _ (Ac 300 (o1++[pb IH])) (by kernel_rfl) .body (.plain (A1 rfl (A1 rfl rfl)));refine Aq λy2 D3=>?_;rintro⟨⟩;exact Az _ _ (Ac 300 (o1++[pb IH,pk,pk,pk,pk,AM (SL D3),pk,pk])) (by kernel_rfl) .body (.plain (A1 rfl (A1 rfl rfl)))
def auF:Code:=A3 Tryz.f175
def aHZ:Tryz.f175.body=some auF:=by kernel_rfl
def Cc(i0:Nat)(e0:UInt8)(K8:Int)(E8:Int)(BD:Int)(U5:Int):Option (Lp (Int×Int×Int×Int) (Int×Int×Int) (Int×Int)):=cond (CS ((i0:Nat):Int) 4) (cond (CS ((e0.toNat:Nat):Int) 45) (some (.nx ((BC K8 1),E8,BD,U5))) (some (.rt (0,12)))) (cond (CS ((i0:Nat):Int) 7) (cond (CS ((e0.toNat:Nat):Int) 45) (some (.nx ((BC K8 1),E8,BD,U5))) (some (.rt (0,12)))) (cond (DM ((e0.toNat:Nat):Int) 48) (some (.rt (0,12))) (cond (DM 57 ((e0.toNat:Nat):Int)) (some (.rt (0,12))) (cond (CS K8 0) (some (.nx (K8,(BC (BU E8 10) (w64 (Nh .u8 (eU ((e0.toNat:Nat):Int) 48)))),BD,U5))) (cond (CS K8 1) (some (.nx (K8,E8,(BC (BU BD 10) (w64 (Nh .u8 (eU ((e0.toNat:Nat):Int) 48)))),U5))) (cond (CS K8 2) (some (.nx (K8,E8,BD,(BC (BU U5 10) (w64 (Nh .u8 (eU ((e0.toNat:Nat):Int) 48))))))) (none)))))))
def Fs(text:ByteArray):Option (Int×Int):=cond (CS ((text.data.toList.length:Nat):Int) 10) ((Tc text.data.toList.length (C4 (λi y x=>Cc   i y x.1 x.2.1 x.2.2.1 x.2.2.2) (λx=>(x.2.1,x.2.2.1,x.2.2.2)) (text.data.toList.drop 0) 0 (0,0,0,0))).bind (MC (λ((aiL,aiM,aiO):(Int×Int×Int))=>(JH aiL aiM aiO).bind λ(Ia,EL)=>some (Ia,EL)) (λv=>some v))) (some (0,12))
def SM{text:ByteArray}{yR:(Int×Int)}(h:Fs  text=some yR):Pure P (G mx) 175 [.zs text] (.CZ [.zi yR.1,.zi yR.2]):=by
 unfold Fs at h;refine C5 Hd.mixed Hd.Aa (Ay Tryz.func175 aHZ ?_) (A1 rfl rfl) (A1 rfl (A1 rfl rfl));revert h;refine Ag (λA0=>?_) λA0=>?_;refine RL (λQ v=>KM P Tryz.f175 0 Q (.CZ [.zi v.1,.zi v.2])) (λi0 ((K8,E8,BD,U5):(Int×Int×Int×Int)) (j0:List Value)=>fr 58 [(0,.zs text),(4,.ptr 0 0),(5,.zi K8),(13,.zi ((text.data.toList.length:Nat):Int)),(14,.zi ((i0:Nat):Int))] [10,15,30,32,33,35,36,38,41,43,44,46,47] j0) (λ((K8,E8,BD,U5):(Int×Int×Int×Int))=>⟨[(0,.cells [.zi E8,.zi BD,.zi U5])],1,[],0⟩) (λ((E8,BD,U5):(Int×Int×Int)) (jx:List Value)=>fr 58 [(4,.ptr 0 0)] [10,15,30,32,33,35,36,38,41,43,44,46,47] jx) (λ((E8,BD,U5):(Int×Int×Int))=>⟨[(0,.cells [.zi E8,.zi BD,.zi U5])],1,[],0⟩) [bF] (G6 [] 0 (sb auF 500) [.code (sb auF 63)] (Ac 300 [pn A0]) (by kernel_rfl)) ?_ ?_ ?_ (λv h=>by cases h;exact .outer .body);rintro i0 ⟨K8,E8,BD,U5⟩ j0 hge hq;exact DU (Ac 300 [pb (iW hge)]) (by kernel_rfl) (hq (js 13 j0 [(1,bF)]));rintro i0 e0 ⟨K8,E8,BD,U5⟩ j0 r Qz PR OK k;show Cc   i0 e0 K8 E8 BD U5=some r->_;unfold Cc;let o1:List (PC P (G mx)):=[pb (Zp PR),R8 (Ww Qz)];refine Ag (λhb2=>?_) λhb2=>?_;refine Ag (λhb3=>?_) λhb3=>?_;rintro⟨⟩;exact Hg (Ac 300 (o1++[pb hb2,pn hb3,pk,pi OK])) (by kernel_rfl) (k (js 13 j0 [(1,bT),(2,bT),(3,bT),(4,bT),(5,undef),(6,bT),(7,bF)]));rintro⟨⟩;exact Az _ _ (Ac 300 (o1++[pb hb2,pn hb3])) (by kernel_rfl) (.Gb k) (.plain (A1 rfl (A1 rfl rfl)));refine Ag (λFa=>?_) λFa=>?_;refine Ag (λHH=>?_) λHH=>?_;rintro⟨⟩;exact Hg (Ac 300 (o1++[pb hb2,pb Fa,pn HH,pk,pi OK])) (by kernel_rfl) (k (js 13 j0 [(1,bT),(2,bT),(3,bF),(4,bF),(5,bT),(6,bT),(7,bF)]));rintro⟨⟩;exact Az _ _ (Ac 300 (o1++[pb hb2,pb Fa,pn HH])) (by kernel_rfl) (.Gb k) (.plain (A1 rfl (A1 rfl rfl)));refine Ag (λIH=>?_) λIH=>?_;rintro⟨⟩;exact Az _ _ (Ac 300 (o1++[pb hb2,pb Fa,pb IH])) (by kernel_rfl) (.Gb k) (.plain (A1 rfl (A1 rfl rfl)));refine Ag (λI6=>?_) λI6=>?_;rintro⟨⟩;exact Az _ _ (Ac 300 (o1++[pb hb2,pb Fa,pb IH,pb I6])) (by kernel_rfl) (.Gb k) (.plain (A1 rfl (A1 rfl rfl)));refine Ag (λKP=>?_) λKP=>?_;rintro⟨⟩;exact Hg (Ac 300 (o1++[pb hb2,pb Fa,pb IH,pb I6,IN (t:=173) (a:=.ptr 0 0) (b:=.zi K8) (v:=.ptr 0 0) (by rw[FJ KP];kernel_rfl),pk,pk,pk,IN (t:=173) (a:=.ptr 0 0) (b:=.zi K8) (v:=.ptr 0 0) (by rw[FJ KP];kernel_rfl),pi OK])) (by kernel_rfl) (k [(jv j0 0),bT,bF,bF,bF,bF,bF,(jv j0 7),bF,bF,bF,bF,bF]);refine Ag (λKi=>?_) λKi=>?_;rintro⟨⟩;exact Hg (Ac 300 (o1++[pb hb2,pb Fa,pb IH,pb I6,IN (t:=173) (a:=.ptr 0 0) (b:=.zi K8) (v:=.ptr 0 1) (by rw[FJ Ki];kernel_rfl),pk,pk,pk,IN (t:=173) (a:=.ptr 0 0) (b:=.zi K8) (v:=.ptr 0 1) (by rw[FJ Ki];kernel_rfl),pi OK])) (by kernel_rfl) (k [(jv j0 0),bT,bF,bF,bF,bF,bF,(jv j0 7),bF,bF,bF,bF,bF]);refine Ag (λGG=>?_) λGG=>?_;rintro⟨⟩;exact Hg (Ac 300 (o1++[pb hb2,pb Fa,pb IH,pb I6,IN (t:=173) (a:=.ptr 0 0) (b:=.zi K8) (v:=.ptr 0 2) (by rw[FJ GG];kernel_rfl),pk,pk,pk,IN (t:=173) (a:=.ptr 0 0) (b:=.zi K8) (v:=.ptr 0 2) (by rw[FJ GG];kernel_rfl),pi OK])) (by kernel_rfl) (k [(jv j0 0),bT,bF,bF,bF,bF,bF,(jv j0 7),bF,bF,bF,bF,bF]);exact dS;rintro⟨aiL,aiM,aiO⟩ aLK;dsimp only;refine Aq ?_;rintro⟨Ia,EL⟩ D3;dsimp only;rintro⟨⟩;exact Az _ _ (Ht 300 [pk,pk,pk,AM (Uq D3)]) (by kernel_rfl) .body (.plain (A1 rfl (A1 rfl rfl)));rintro⟨⟩;exact Az _ _ (Ac 300 [pn A0]) (by kernel_rfl) .body (.plain (A1 rfl (A1 rfl rfl)))
def G7(p:Pr):Option ((Tk⊕Dg)×Int):=(AF p).bind λy1=>Sum.elim (λ(CJ:Tk)=>(EU CJ).bind λy2=>cond y2 (some ((Sum.inl CJ:(Tk⊕Dg)),(BC p.J3 1))) (some ((Sum.inr (⟨71,CJ.AH⟩:Dg):(Tk⊕Dg)),p.J3))) (λ(LY:Dg)=>some ((Sum.inr LY:(Tk⊕Dg)),p.J3)) y1
def IU{p:Pr}{yR:(Tk⊕Dg)}{Ai:Int}(h:G7  p=some (yR,Ai)):pR mx 118 [.ptr 0 0,.fn (.func 174) [] []] p (IX eT eD yR) Ai:=by
 unfold G7 at h;refine B0 Hd.mixed (Ay Tryz.func118 cC ?_);revert h;refine Aq λy1 Ci=>?_;refine SW (λCJ L4=>?_) λLY L4=>?_;subst L4;refine Aq λy2 D3=>?_;let o1:List (PC P (G mx)):=[Af (AA (Ao Ci) 0),AM (OO D3)];refine Ag (λhv=>?_) λhv=>?_;subst hv;rintro⟨⟩;exact Aw Hd.Aa _ _ [⟨.agg (Gr CJ),.agg (Gr CJ),(.plain (BK.Cu CJ))⟩] [pW p (BC p.J3 1)] (Ac 300 (o1++[pk])) (by kernel_rfl) .body;subst hv;rintro⟨⟩;exact BR Hd.Aa _ [⟨.ifc 45 (.agg [.zi 71,.zi CJ.AH]),.ifc 45 (.agg [.zi 71,.zi CJ.AH]),(.plain (B7.Cu (⟨71,CJ.AH⟩:Dg)))⟩] [bp (CM.pl p)] (Ac 300 (o1++[An (Au (Am (p:=p) (err:=71) (at_:=CJ.AH) rfl) 0)])) (by kernel_rfl) .body;subst L4;rintro⟨⟩;exact BR Hd.Aa _ [gD LY] [bp (CM.pl p)] (Ac 300 [An (AA (Ao Ci) 0)]) (by kernel_rfl) .body
def aFZ:Code:=A3 Tryz.f156
def aHS:Tryz.f156.body=some aFZ:=by kernel_rfl
def DY(p:Pr)(least:Int):Option ((Int⊕Dg)×Int):=(G7 p).bind λ(Eu,Bm)=>Sum.elim (λ(AB:Tk)=>(Fs AB.text).bind λ(Ia,EL)=>cond (CS EL 0) (cond (DM Ia least) (some ((Sum.inr (⟨21,AB.AH⟩:Dg):(Int⊕Dg)),Bm)) (some ((Sum.inl Ia:(Int⊕Dg)),Bm))) (some ((Sum.inr (⟨21,AB.AH⟩:Dg):(Int⊕Dg)),Bm))) (λ(CQ:Dg)=>some ((Sum.inr CQ:(Int⊕Dg)),Bm)) Eu
def CH{p:Pr}{least:Int}{yR:(Int⊕Dg)}{Ai:Int}(h:DY  p least=some (yR,Ai)):pR mx 156 [.ptr 0 0,.zi least] p (IX eI eD yR) Ai:=by
 unfold DY at h;refine B0 Hd.mixed (Ay Tryz.func156 aHS ?_);revert h;refine BW (λAB Bm Ci=>?_) λCQ Bm Ci=>?_;refine Aq ?_;rintro⟨Ia,EL⟩ D3;dsimp only;let o1:List (PC P (G mx)):=[Af (Ih (IU Ci) 0),AM (SM D3)];refine Ag (λA0=>?_) λA0=>?_;refine Ag (λhb2=>?_) λhb2=>?_;refine Ew ?_;rintro rfl rfl;exact BR Hd.Aa _ [⟨.ifc 45 (.agg [.zi 21,.zi AB.AH]),.ifc 45 (.agg [.zi 21,.zi AB.AH]),(.plain (B7.Cu (⟨21,AB.AH⟩:Dg)))⟩] [pW p Bm] (Ac 300 (o1++[pn A0,pb hb2,An (Au (Am (p:=(⟨p.Bj,Bm,p.DK⟩:Pr)) (err:=21) (at_:=AB.AH) rfl) 0)])) (by kernel_rfl) .body;refine Ew ?_;rintro rfl rfl;exact Aw Hd.Aa _ _ [] [pW p Bm] (Ac 300 (o1++[pn A0,pb hb2])) (by kernel_rfl) .body;refine Ew ?_;rintro rfl rfl;exact BR Hd.Aa _ [⟨.ifc 45 (.agg [.zi 21,.zi AB.AH]),.ifc 45 (.agg [.zi 21,.zi AB.AH]),(.plain (B7.Cu (⟨21,AB.AH⟩:Dg)))⟩] [pW p Bm] (Ac 300 (o1++[pn A0,An (Au (Am (p:=(⟨p.Bj,Bm,p.DK⟩:Pr)) (err:=21) (at_:=AB.AH) rfl) 0)])) (by kernel_rfl) .body;refine Ew ?_;rintro rfl rfl;exact Ib CQ p Bm [An (Ih (IU Ci) 0)] .body
def aFO:Code:=A3 Tryz.f125
def aHD:Tryz.f125.body=some aFO:=by kernel_rfl
def Ho(p:Pr):Option ((Nd⊕Dg)×Int):=(Ak p tB).bind λ(Eu,Bm)=>Sum.elim (λ(AB:Tk)=>(AL (⟨p.Bj,Bm,p.DK⟩:Pr) 0).bind λ(Ia,EL)=>Sum.elim (λ(C7:(Int×Int))=>(Ak (⟨p.Bj,EL,p.DK⟩:Pr) rG).bind λ(IP,EN)=>Sum.elim (λ(CK:Tk)=>(DY (⟨p.Bj,EN,p.DK⟩:Pr) 0).bind λ(VV,JD)=>Sum.elim (λ(Dl:Int)=>(As (⟨p.Bj,JD,p.DK⟩:Pr) toS).bind λy5=>cond y5 ((DY (⟨p.Bj,(BC JD 1),p.DK⟩:Pr) (BC Dl 1)).bind λ(lZ,OG)=>Sum.elim (λ(Jh:Int)=>(Ak (⟨p.Bj,OG,p.DK⟩:Pr) Vr).bind λ(qI,RB)=>Sum.elim (λ(Vc:Tk)=>(DY (⟨p.Bj,RB,p.DK⟩:Pr) 0).bind λ(Zl,LU)=>Sum.elim (λ(GZ:Int)=>some ((Sum.inl (⟨5,ByteArray.empty,ByteArray.empty,C7.1,Dl,Jh,GZ,(⟨0,[]⟩:Fn),[],AB.AH⟩:Nd):(Nd⊕Dg)),LU)) (λ(LS:Dg)=>some ((Sum.inr LS:(Nd⊕Dg)),LU)) Zl) (λ(PD:Dg)=>some ((Sum.inr PD:(Nd⊕Dg)),RB)) qI) (λ(M7:Dg)=>some ((Sum.inr M7:(Nd⊕Dg)),OG)) lZ) ((Ak (⟨p.Bj,JD,p.DK⟩:Pr) Vr).bind λ(fL,Ro)=>Sum.elim (λ(WN:Tk)=>(DY (⟨p.Bj,Ro,p.DK⟩:Pr) 0).bind λ(Zh,KW)=>Sum.elim (λ(JZ:Int)=>some ((Sum.inl (⟨5,ByteArray.empty,ByteArray.empty,C7.1,Dl,36525,JZ,(⟨0,[]⟩:Fn),[],AB.AH⟩:Nd):(Nd⊕Dg)),KW)) (λ(Zi:Dg)=>some ((Sum.inr Zi:(Nd⊕Dg)),KW)) Zh) (λ(Zm:Dg)=>some ((Sum.inr Zm:(Nd⊕Dg)),Ro)) fL)) (λ(Iw:Dg)=>some ((Sum.inr Iw:(Nd⊕Dg)),JD)) VV) (λ(Ez:Dg)=>some ((Sum.inr Ez:(Nd⊕Dg)),EN)) IP) (λ(Ha:Dg)=>some ((Sum.inr Ha:(Nd⊕Dg)),EL)) Ia) (λ(CQ:Dg)=>some ((Sum.inr CQ:(Nd⊕Dg)),Bm)) Eu
def K6{p:Pr}{yR:(Nd⊕Dg)}{Ai:Int}(h:Ho  p=some (yR,Ai)):pR mx 125 [.ptr 0 0] p (IX eN eD yR) Ai:=by
 unfold Ho at h;refine B0 Hd.mixed (Ay Tryz.func125 aHD ?_);revert h;refine BW (λAB Bm Ci=>?_) λCQ Bm Ci=>?_;let o1:List (PC P (G mx)):=[Af (Ih (Ab Ci) 0)];refine BW (λC7 EL D3=>?_) λHa EL D3=>?_;let o2:List (PC P (G mx)):=o1++[Af (Nf (Al D3) 0)];refine BW (λCK EN Fc=>?_) λEz EN Fc=>?_;let o3:List (PC P (G mx)):=o2++[Af (Ih (Ab Fc) 0)];refine BW (λDl JD J5=>?_) λIw JD J5=>?_;refine Aq λy5 Ko=>?_;let o4:List (PC P (G mx)):=o3++[Af (aH (CH J5) 0),Af (Oj (Ah Ko) 0)];refine Ag (λhv=>?_) λhv=>?_;subst hv;refine BW (λJh OG L6=>?_) λM7 OG L6=>?_;let o5:List (PC P (G mx)):=o4++[pk,pk,Af (aH (CH L6) 0)];refine BW (λVc RB Sz=>?_) λPD RB Sz=>?_;refine BW (λGZ LU OF=>?_) λLS LU OF=>?_;refine Ew ?_;rintro rfl rfl;exact Aw Hd.Aa _ _ [⟨.agg [.zi 5,.zs ByteArray.empty,.zs ByteArray.empty,.zi C7.1,.zi Dl,.zi Jh,.zi GZ,.zi 0,.sl .full 0 [],.sl .full 0 [],.zi AB.AH],.agg [.zi 5,.zs ByteArray.empty,.zs ByteArray.empty,.zi C7.1,.zi Dl,.zi Jh,.zi GZ,.zi 0,.sl .lost ([].length) (rows Jb []),.sl .lost ([].length) (BF []),.zi AB.AH],(.wn (.g (.r (.r (.r (.r (.r (.r (.r (.r (.z (.z (.r .nil))))))))))) .nil) (AD.Cu (⟨5,ByteArray.empty,ByteArray.empty,C7.1,Dl,Jh,GZ,(⟨0,[]⟩:Fn),[],AB.AH⟩:Nd)))⟩] [pW p LU] (Ac 300 (o5++[Af (Ih (Ab Sz) 0),Af (aH (CH OF) 0)])) (by kernel_rfl) .body;refine Ew ?_;rintro rfl rfl;exact Ib LS p LU (o5++[Af (Ih (Ab Sz) 0),An (aH (CH OF) 0)]) .body;refine Ew ?_;rintro rfl rfl;exact Ib PD p RB (o5++[An (Ih (Ab Sz) 0)]) .body;refine Ew ?_;rintro rfl rfl;exact Ib M7 p OG (o4++[pk,pk,An (aH (CH L6) 0)]) .body;subst hv;refine BW (λWN Ro UD=>?_) λZm Ro UD=>?_;refine BW (λJZ KW PU=>?_) λZi KW PU=>?_;refine Ew ?_;rintro rfl rfl;exact Aw Hd.Aa _ _ [⟨.agg [.zi 5,.zs ByteArray.empty,.zs ByteArray.empty,.zi C7.1,.zi Dl,.zi 36525,.zi JZ,.zi 0,.sl .full 0 [],.sl .full 0 [],.zi AB.AH],.agg [.zi 5,.zs ByteArray.empty,.zs ByteArray.empty,.zi C7.1,.zi Dl,.zi 36525,.zi JZ,.zi 0,.sl .lost ([].length) (rows Jb []),.sl .lost ([].length) (BF []),.zi AB.AH],(.wn (.g (.r (.r (.r (.r (.r (.r (.r (.r (.z (.z (.r .nil))))))))))) .nil) (AD.Cu (⟨5,ByteArray.empty,ByteArray.empty,C7.1,Dl,36525,JZ,(⟨0,[]⟩:Fn),[],AB.AH⟩:Nd)))⟩] [pW p KW] (Ac 300 (o4++[Af (Ih (Ab UD) 0),Af (aH (CH PU) 0)])) (by kernel_rfl) .body;refine Ew ?_;rintro rfl rfl;exact Ib Zi p KW (o4++[Af (Ih (Ab UD) 0),An (aH (CH PU) 0)]) .body;refine Ew ?_;rintro rfl rfl;exact Ib Zm p Ro (o4++[An (Ih (Ab UD) 0)]) .body;refine Ew ?_;rintro rfl rfl;exact Ib Iw p JD (o3++[An (aH (CH J5) 0)]) .body;refine Ew ?_;rintro rfl rfl;exact Ib Ez p EN (o2++[An (Ih (Ab Fc) 0)]) .body;refine Ew ?_;rintro rfl rfl;exact Ib Ha p EL (o1++[An (Nf (Al D3) 0)]) .body;refine Ew ?_;rintro rfl rfl;exact Ib CQ p Bm [An (Ih (Ab Ci) 0)] .body
def aGB:Code:=A3 Tryz.f160
def aHU:Tryz.f160.body=some aGB:=by kernel_rfl
def ET(token:Tk):Option Bool:=cond (CS token.kind 4) (some true) (some false)
def ON{token:Tk}{yR:Bool}(h:ET  token=some yR):Pure P (G mx) 160 [.agg (Gr token)] (.zb yR):=by
 unfold ET at h;refine C5 Hd.mixed Hd.Aa (Ay Tryz.func160 aHU ?_) (A1 (BK.Cu token) rfl) rfl;revert h;refine Ag (λA0=>?_) λA0=>?_;rintro⟨⟩;exact rT [pb A0];rintro⟨⟩;exact rT [pb A0]
def aGC:Code:=A3 Tryz.f161
def aHV:Tryz.f161.body=some aGC:=by kernel_rfl
def Cz(token:Tk):Option Int:=(KV token.text ayO ByteArray.empty 1).bind λy1=>(RM y1).bind λ(Ia,EL)=>some Ia
def OZ{token:Tk}{yR:Int}(h:Cz  token=some yR):Pure P (G mx) 161 [.agg (Gr token)] (.zi yR):=by
 unfold Cz at h;refine C5 Hd.mixed Hd.Aa (Ay Tryz.func161 aHV ?_) (A1 (BK.Cu token) rfl) rfl;revert h;refine Aq λy1 Ci=>?_;refine Aq ?_;rintro⟨Ia,EL⟩ D3;dsimp only;rintro⟨⟩;exact rT [AM (eF Ci),AM (qO D3)]
def aGO:Code:=A3 Tryz.f228
def aIK:Tryz.f228.body=some aGO:=by kernel_rfl
def Dk(token:Tk):Option Bool:=cond (CS token.kind 4) (some true) (cond (CS token.kind 3) (some true) (some false))
def Og{token:Tk}{yR:Bool}(h:Dk  token=some yR):Pure P (G mx) 228 [.agg (Gr token)] (.zb yR):=by
 unfold Dk at h;refine C5 Hd.mixed Hd.Aa (Ay Tryz.func228 aIK ?_) (A1 (BK.Cu token) rfl) rfl;revert h;refine Ag (λA0=>?_) λA0=>?_;rintro⟨⟩;exact rT [pb A0];refine Ag (λhb2=>?_) λhb2=>?_;rintro⟨⟩;exact rT [pb A0,pb hb2];rintro⟨⟩;exact rT [pb A0,pb hb2]
def GN(p:Pr):Option ((Tk⊕Dg)×Int):=(AF p).bind λy1=>Sum.elim (λ(CJ:Tk)=>(Dk CJ).bind λy2=>cond y2 (some ((Sum.inl CJ:(Tk⊕Dg)),(BC p.J3 1))) (some ((Sum.inr (⟨71,CJ.AH⟩:Dg):(Tk⊕Dg)),p.J3))) (λ(LY:Dg)=>some ((Sum.inr LY:(Tk⊕Dg)),p.J3)) y1
def IF{p:Pr}{yR:(Tk⊕Dg)}{Ai:Int}(h:GN  p=some (yR,Ai)):pR mx 118 [.ptr 0 0,.fn (.func 228) [] []] p (IX eT eD yR) Ai:=by
 unfold GN at h;refine B0 Hd.mixed (Ay Tryz.func118 cC ?_);revert h;refine Aq λy1 Ci=>?_;refine SW (λCJ L4=>?_) λLY L4=>?_;subst L4;refine Aq λy2 D3=>?_;let o1:List (PC P (G mx)):=[Af (AA (Ao Ci) 0),AM (Og D3)];refine Ag (λhv=>?_) λhv=>?_;subst hv;rintro⟨⟩;exact Aw Hd.Aa _ _ [⟨.agg (Gr CJ),.agg (Gr CJ),(.plain (BK.Cu CJ))⟩] [pW p (BC p.J3 1)] (Ac 300 (o1++[pk])) (by kernel_rfl) .body;subst hv;rintro⟨⟩;exact BR Hd.Aa _ [⟨.ifc 45 (.agg [.zi 71,.zi CJ.AH]),.ifc 45 (.agg [.zi 71,.zi CJ.AH]),(.plain (B7.Cu (⟨71,CJ.AH⟩:Dg)))⟩] [bp (CM.pl p)] (Ac 300 (o1++[An (Au (Am (p:=p) (err:=71) (at_:=CJ.AH) rfl) 0)])) (by kernel_rfl) .body;subst L4;rintro⟨⟩;exact BR Hd.Aa _ [gD LY] [bp (CM.pl p)] (Ac 300 [An (AA (Ao Ci) 0)]) (by kernel_rfl) .body
def aGL:Code:=A3 Tryz.f214
def aIG:Tryz.f214.body=some aGL:=by kernel_rfl
def BV(p:Pr):Option (((Int×Int)⊕Dg)×Int):=(GN p).bind λ(Eu,Bm)=>Sum.elim (λ(AB:Tk)=>(Cz AB).bind λy2=>cond (CS AB.kind 3) (cond (CS y2 0) (some ((Sum.inl (y2,AB.AH):((Int×Int)⊕Dg)),Bm)) (some ((Sum.inr (⟨3,AB.AH⟩:Dg):((Int×Int)⊕Dg)),Bm))) (some ((Sum.inl (y2,AB.AH):((Int×Int)⊕Dg)),Bm))) (λ(CQ:Dg)=>some ((Sum.inr CQ:((Int×Int)⊕Dg)),Bm)) Eu
def Bq{p:Pr}{yR:((Int×Int)⊕Dg)}{Ai:Int}(h:BV  p=some (yR,Ai)):pR mx 214 [.ptr 0 0] p (IX eJ eD yR) Ai:=by
 unfold BV at h;refine B0 Hd.mixed (Ay Tryz.func214 aIG ?_);revert h;refine BW (λAB Bm Ci=>?_) λCQ Bm Ci=>?_;refine Aq λy2 D3=>?_;let o1:List (PC P (G mx)):=[Af (Ih (IF Ci) 0),AM (OZ D3)];refine Ag (λA0=>?_) λA0=>?_;refine Ag (λhb2=>?_) λhb2=>?_;refine Ew ?_;rintro rfl rfl;exact Aw Hd.Aa _ _ [⟨.CZ [.zi y2,.zi AB.AH],.CZ [.zi y2,.zi AB.AH],(.plain (A1 rfl (A1 rfl rfl)))⟩] [pW p Bm] (Ac 300 (o1++[pb A0,pn hb2])) (by kernel_rfl) .body;refine Ew ?_;rintro rfl rfl;exact BR Hd.Aa _ [⟨.ifc 45 (.agg [.zi 3,.zi AB.AH]),.ifc 45 (.agg [.zi 3,.zi AB.AH]),(.plain (B7.Cu (⟨3,AB.AH⟩:Dg)))⟩] [pW p Bm] (Ac 300 (o1++[pb A0,pn hb2,An (Au (Am (p:=(⟨p.Bj,Bm,p.DK⟩:Pr)) (err:=3) (at_:=AB.AH) rfl) 0)])) (by kernel_rfl) .body;refine Ew ?_;rintro rfl rfl;exact Aw Hd.Aa _ _ [⟨.CZ [.zi y2,.zi AB.AH],.CZ [.zi y2,.zi AB.AH],(.plain (A1 rfl (A1 rfl rfl)))⟩] [pW p Bm] (Ac 300 (o1++[pb A0])) (by kernel_rfl) .body;refine Ew ?_;rintro rfl rfl;exact Ib CQ p Bm [An (Ih (IF Ci) 0)] .body
def aGP:Code:=A3 Tryz.f229
def aIL:Tryz.f229.body=some aGP:=by kernel_rfl
def EY(token:Tk):Option Bool:=cond (B2 token.text.data.toList Oi.data.toList) (some true) (cond (B2 token.text.data.toList Lh.data.toList) (some true) (some false))
def OP{token:Tk}{yR:Bool}(h:EY  token=some yR):Pure P (G mx) 229 [.agg (Gr token)] (.zb yR):=by
 unfold EY at h;refine C5 Hd.mixed Hd.Aa (Ay Tryz.func229 aIL ?_) (A1 (BK.Cu token) rfl) rfl;revert h;refine Ag (λA0=>?_) λA0=>?_;rintro⟨⟩;exact rT [pb A0];refine Ag (λhb2=>?_) λhb2=>?_;rintro⟨⟩;exact rT [pb A0,pb hb2];rintro⟨⟩;exact rT [pb A0,pb hb2]
end Mo
end Go.Proofs.YtpbkhogolfegfaaGreatDoor
