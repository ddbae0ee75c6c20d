/- Part of a proof: see the last text. -/
import Derived.Test.YtpbkhogolfegfaaGreatDoorPin
import Derived.Test.YtpbkhogolfegfaaGreatDoorCards
import Derived.Test.YtpbkhogolfegfaaGreatDoorTie
import Derived.Lib.LaidTab
import Derived.Lib.LaidIn
import Derived.Shelf.Vars
set_option linter.unusedVariables false
set_option linter.unusedSimpArgs false
set_option linter.defProp false
noncomputable section
namespace Go.Proofs.YtpbkhogolfegfaaGreatDoor
open AI Go Go.RowKit LexS
def chunks{α:Type}{V:α->List Value}{k:Nat}:∀{l:List α} {cs:List Value},cs.length=l.length*k->(∀y,(V y).length=k)->(∀(i:Nat) y,l[i]?=some y->(cs.drop (i*k)).take k=V y)->cs=l.flatMap V
 | [],cs,h,_,_=>by
   simp only[List.length_nil,Nat.zero_mul] at h;rw[List.eq_nil_of_length_eq_zero h];rfl
 | a::l,cs,h,hV,hc=>by
   have h0:=hc 0 a rfl;rw[Nat.zero_mul,List.drop_zero] at h0
   have ih:=chunks (V:=V) (k:=k) (l:=l) (cs:=cs.drop k) (by rw[List.length_drop,h,List.length_cons,Nat.succ_mul];omega) hV λi y hy=>by
     rw[List.drop_drop];have:=hc (i+1) y (by simpa using hy)
     rwa[Nat.succ_mul,Nat.add_comm] at this
   rw[List.flatMap_cons,<- h0,<- ih,List.take_append_drop]
def N2{α H:Type}{enc:TypeId×Value->H}{P:Program}{w:World}{base:Nat}{sp:Nat->Bool}{held:Bool}{Lr:Nat}{t e:TypeId}{n k:Nat}{cs:List Value}{l:List α}{p:List MemPlace}(D:α->DataW H)(V:α->List Value)(hV:∀y,(V y).length=k)
   (Og:∀f c y q,DataW.trod enc P w base sp held f e c=some (D y,q)->c=V y)
   (ht:P.underlying t=some (.array n e)) (hce:P.cellsOf e=k) (hct:P.cellsOf t=n*k) (h:DataW.trod enc P w base sp held Lr t cs=some (.agg (l.map D),p)):cs=l.flatMap V:=by
 obtain⟨xs,m,_,hx,hl,hxl,T9⟩:=DataW.trod_array ht h
 have hd:l.map D=xs.map (·.1):=by
   have:=congrArg Prod.fst hx;simpa using this
 have wX:l.length=n:=by
   have:=congrArg List.length hd;simp at this;omega
 rw[hct] at hl;rw[hce] at T9;refine chunks (by rw[hl,wX]) hV λi y hy=>?_;have hi:i < n:=by have:=(List.getElem?_eq_some_iff.1 hy).1;omega
 have h2:=T9 i hi;have hxi:xs[i]?=some xs[i]:=List.getElem?_eq_getElem (by omega);rw[hxi] at h2;have h3:(l.map D)[i]?=(xs.map (·.1))[i]?:=by rw[hd]
 rw[List.getElem?_map,List.getElem?_map,hy,hxi] at h3;simp only[Option.map_some,Option.some.injEq] at h3;refine Og m _ y xs[i].2 ?_;rw[h2,h3]
def Zp{H:Type}{enc:TypeId×Value->H}{w:World}{base:Nat}{sp:Nat->Bool}{held:Bool}(f:Nat)(c:List Value)(y:List UInt8)(q:List MemPlace)(hh:DataW.trod enc Tryz.prog w base sp held f 9 c=some (.lit (.string y),q)):c=[.string ⟨y.toArray⟩]:=by
 obtain⟨z,hc,hz,_⟩:=DataW.trod_string Tryz.underlying9 hh;simp only[Prod.mk.injEq,DataW.lit.injEq,Lit.string.injEq] at hz;rw[hc,hz.1]
def QS{W:World}{n:String}{g:Nat}{cs:Array Value}(hg:Tryz.prog.globalNamed n=some g)(h:W.var? Tryz.prog n=some cs):∃t fr,W.heap[g]?=some (.cells cs t fr):=by
 unfold World.var? at h;rw[hg] at h;simp only[Option.bind_some] at h;split at h;rename_i c t fr hh;injection h with h
 subst h;exact⟨t,fr,hh⟩;cases h
def gB:Tryz.prog.globalNamed "wageoffice/calendar.before"=some 12:=by kernel_rfl
def gC:Tryz.prog.globalNamed "wageoffice/lexer.classes"=some 3:=by kernel_rfl
def gS:Tryz.prog.globalNamed "wageoffice/lexer.symbols"=some 0:=by kernel_rfl
def gO:Tryz.prog.globalNamed "wageoffice/parser.operators"=some 2:=by kernel_rfl
def gR:Tryz.prog.globalNamed "wageoffice/parser.roles"=some 1:=by kernel_rfl
def gP:Tryz.prog.globalNamed "internal/strconv.uint64pow10"=some 4:=by kernel_rfl
def gPT:(Tryz.prog.globals[(4:Nat)]?).map (·.type)=some 167:=by kernel_rfl
def zW:Tryz.prog.cellsOf 146=1:=by kernel_rfl
def zP:Tryz.prog.cellsOf 167=20*1:=by kernel_rfl
def gBT:(Tryz.prog.globals[(12:Nat)]?).map (·.type)=some 203:=by kernel_rfl
def gCT:(Tryz.prog.globals[(3:Nat)]?).map (·.type)=some 151:=by kernel_rfl
def gST:(Tryz.prog.globals[(0:Nat)]?).map (·.type)=some 134:=by kernel_rfl
def gOT:(Tryz.prog.globals[(2:Nat)]?).map (·.type)=some 143:=by kernel_rfl
def gRT:(Tryz.prog.globals[(1:Nat)]?).map (·.type)=some 135:=by kernel_rfl
def zI:Tryz.prog.cellsOf 3=1:=by kernel_rfl
def zU:Tryz.prog.cellsOf 5=1:=by kernel_rfl
def zS:Tryz.prog.cellsOf 9=1:=by kernel_rfl
def zB:Tryz.prog.cellsOf 203=13*1:=by kernel_rfl
def zC:Tryz.prog.cellsOf 151=128*1:=by kernel_rfl
def zY:Tryz.prog.cellsOf 134=17*1:=by kernel_rfl
def z6:Tryz.prog.cellsOf 142=6*1:=by kernel_rfl
def zO:Tryz.prog.cellsOf 143=6*6:=by kernel_rfl
def zR:Tryz.prog.cellsOf 135=5*1:=by kernel_rfl
def alM:List Int:=[0,31,59,90,120,151,181,212,243,273,304,334,365]
def ane:List (List UInt8):=[[],[101,97,114,110],[100,101,100,117,99,116],[102,108,111,111,114],[105,110,102,111]]
def opsL:List (List (List UInt8)):=[[[111,114],[],[],[],[],[]],[[97,110,100],[],[],[],[],[]],[[],[],[],[],[],[]],[[61,61],[33,61],[60],[60,61],[62],[62,61]],[[43],[45],[],[],[],[]],[[42],[47],[97,116],[],[],[]]]
abbrev fV(y:List UInt8):DataW Unit:=.lit (.string y)
def apl:(Rows.laid_wageoffice_calendar_before:DataW Unit)=.agg (alM.map λz=>.lit (.int .i64 z)):=by rfl
def apo:(Rows.laid_internal_strconv_uint64pow10:DataW Unit)=.agg (Lib.pow10Tab.map λz=>.lit (.int .u64 z)):=by kernel_rfl
def apm:(Rows.laid_wageoffice_lexer_classes:DataW Unit)=.agg ((List.range 128).map λi=>.lit (.int .u8 (L9 i:Nat))):=by rfl
def apr:(Rows.laid_wageoffice_lexer_symbols:DataW Unit)=.agg (Gj.map fV):=by rfl
def apn:(Rows.laid_wageoffice_parser_operators:DataW Unit)=.agg (opsL.map λl=>.agg (l.map fV)):=by rfl
def apq:(Rows.laid_wageoffice_parser_roles:DataW Unit)=.agg (ane.map fV):=by rfl
def aqL:((begin Tryz.prog (λ_ _=>0) default).world.heap[(5:Nat)]?).bind Obj.row?=some (#[.int .i64 0],3):=by kernel_rfl
def akA{W:World}(h:W.ShapedOpen Tryz.prog):∃m,W.cell? ⟨5,0,none⟩=some (.int .i64 m):=by
 obtain⟨m,hm⟩:=cell_of_shapedOpen_int h (g:=5) (by decide +kernel) aqL rfl (by kernel_rfl) (by kernel_rfl) Tryz.underlying3;exact⟨m,hm⟩
def XV(c:Cx)(w:World):∀l:List (List UInt8),CY c w (l.map GO) (l.flatMap λy=>[.string ⟨y.toArray⟩])
 | []=>.nil
 | _::l=>.cons (.sc rfl) (XV c w l)
def uJ(c:Cx)(w:World):∀l:List Int,CY c w (l.map Hd.int) (l.flatMap λy=>[.int .i64 y])
 | []=>.nil
 | _::l=>.cons (.sc rfl) (uJ c w l)
def acT(c:Cx)(w:World):∀l:List Int,CY c w (l.map Hd.ahf) (l.flatMap λy=>[.int .u64 y])
 | []=>.nil
 | _::l=>.cons (.sc rfl) (acT c w l)
def acN(c:Cx)(w:World):∀l:List Nat,CY c w (l.map λi=>.sc (.int .u8 (L9 i:Nat))) (l.flatMap λi=>[.int .u8 (L9 i:Nat)])
 | []=>.nil
 | _::l=>.cons (.sc rfl) (acN c w l)
def lZ(c:Cx)(w:World):∀l:List (List (List UInt8)),CY c w (l.flatMap λy=>y.map GO) (l.flatMap λy=>y.flatMap λz=>[.string ⟨z.toArray⟩])
 | []=>.nil
 | a::l=>(XV c w a).append (lZ c w l)
def V1{W:World}{g:Nat}{l:List AV}{cs:Array Value}(h:∃t fr,W.heap[g]?=some (.cells cs t fr))(hr:CY (Mo.Yv W) W l cs.toList):Bk (Mo.Yv W) W g 0 l:=by
 obtain⟨t,fr,h⟩:=h;refine Bk.Rj hr λi v hi=>Mo.alw ?_;rw[Nat.zero_add,cell_of_row W g i cs t fr h];rwa[Array.getElem?_toList] at hi
def rC{W:World}(h:laidMetH Tryz.prog Rows.parserTreesRow.laid W)(Kr:W.ShapedOpen Tryz.prog):∃mx,St (Hd.G mx) (Mo.Yv W) W s0:=by
 have h:laidMet Tryz.prog [("math/bits.deBruijn32tab",Rows.laid_math_bits_deBruijn32tab),("math/bits.deBruijn64tab",Rows.laid_math_bits_deBruijn64tab),("internal/strconv.uint64pow10",Rows.laid_internal_strconv_uint64pow10),("unicode/utf8.acceptRanges",Rows.laid_unicode_utf8_acceptRanges),("strconv.ErrRange",Rows.laid_strconv_ErrRange),("strconv.ErrSyntax",Rows.laid_strconv_ErrSyntax),("wageoffice/calendar.before",Rows.laid_wageoffice_calendar_before),("wageoffice/lexer.classes",Rows.laid_wageoffice_lexer_classes),("wageoffice/lexer.symbols",Rows.laid_wageoffice_lexer_symbols),("wageoffice/parser.operators",Rows.laid_wageoffice_parser_operators),("wageoffice/parser.roles",Rows.laid_wageoffice_parser_roles),("unicode/utf8.first",Rows.laid_unicode_utf8_first)] W:=h
 obtain⟨ps,⟨_,_,_,_,_,_,_,_,_,_,⟨_,_,_,_,_,_,_,_,_,_,⟨g3,t3,cs3,f3,p3,q3,hg3,ht3,hv3,hd3,⟨_,_,_,_,_,_,_,_,_,_,⟨_,_,_,_,_,_,_,_,_,_,⟨_,_,_,_,_,_,_,_,_,_,⟨g7,t7,cs7,f7,p7,q7,hg7,ht7,hv7,hd7,⟨g8,t8,cs8,f8,p8,q8,hg8,ht8,hv8,hd8,⟨g9,t9,cs9,f9,p9,q9,hg9,ht9,hv9,hd9,⟨g10,t10,alT,f10,p10,q10,apS,aqc,aqe,afv,⟨g11,t11,arj,f11,p11,q11,apT,aqd,aqf,amh,_⟩,_⟩,_⟩,_⟩,_⟩,_⟩,_⟩,_⟩,_⟩,_⟩,_⟩,_⟩:=h;obtain rfl:=Option.some.inj (gP.symm.trans hg3);obtain rfl:=Option.some.inj (gPT.symm.trans ht3);rw[apo] at hd3;obtain rfl:=Option.some.inj (gB.symm.trans hg7);obtain rfl:=Option.some.inj (gC.symm.trans hg8);obtain rfl:=Option.some.inj (gS.symm.trans hg9);obtain rfl:=Option.some.inj (gO.symm.trans apS);obtain rfl:=Option.some.inj (gR.symm.trans apT);obtain rfl:=Option.some.inj (gBT.symm.trans ht7);obtain rfl:=Option.some.inj (gCT.symm.trans ht8);obtain rfl:=Option.some.inj (gST.symm.trans ht9);obtain rfl:=Option.some.inj (gOT.symm.trans aqc);obtain rfl:=Option.some.inj (gRT.symm.trans aqd);rw[apl] at hd7;rw[apm] at hd8;rw[apr] at hd9;rw[apn] at afv;rw[apq] at amh
 have e3:=N2 (k:=1) (λz:Int=>(DataW.lit (.int .u64 z):DataW Unit)) (λz=>[.int .u64 z]) (λ_=>rfl)
   (λf c y q hh=>by obtain⟨z,hc,hz,_⟩:=DataW.trod_int Tryz.underlying146 hh;simp only[Prod.mk.injEq,DataW.lit.injEq,Lit.int.injEq,true_and] at hz;rw[hc,hz.1]) Tryz.underlying167 zW zP hd3
 have e7:=N2 (k:=1) (λz:Int=>(DataW.lit (.int .i64 z):DataW Unit)) (λz=>[.int .i64 z]) (λ_=>rfl)
   (λf c y q hh=>by obtain⟨z,hc,hz,_⟩:=DataW.trod_int Tryz.underlying3 hh;simp only[Prod.mk.injEq,DataW.lit.injEq,Lit.int.injEq,true_and] at hz;rw[hc,hz.1]) Tryz.underlying203 zI zB hd7
 have e8:=N2 (k:=1) (λi:Nat=>(DataW.lit (.int .u8 (L9 i:Nat)):DataW Unit)) (λi=>[.int .u8 (L9 i:Nat)]) (λ_=>rfl)
   (λf c y q hh=>by obtain⟨z,hc,hz,_⟩:=DataW.trod_int Tryz.underlying5 hh;simp only[Prod.mk.injEq,DataW.lit.injEq,Lit.int.injEq,true_and] at hz;rw[hc,hz.1]) Tryz.underlying151 zU zC hd8
 have e9:=N2 (k:=1) fV (λy=>[.string ⟨y.toArray⟩]) (λ_=>rfl) Zp Tryz.underlying134 zS zY hd9;have e11:=N2 (k:=1) fV (λy=>[.string ⟨y.toArray⟩]) (λ_=>rfl) Zp Tryz.underlying135 zS zR amh
 have e10:alT.toList=opsL.flatMap λy=>y.flatMap λz=>[.string ⟨z.toArray⟩]:=by
   obtain⟨xs,m,_,hx,hl,hxl,T9⟩:=DataW.trod_array Tryz.underlying143 afv
   have hd:(opsL.map λl=>(DataW.agg (l.map fV):DataW Unit))=xs.map (·.1):=by
     have:=congrArg Prod.fst hx;simpa using this
   rw[zO] at hl;rw[z6] at T9;have aqB:∀y∈opsL,(y.flatMap λz=>[(Value.string ⟨z.toArray⟩:Value)]).length=6:=by decide
   have fE:∀(i:Nat) y,opsL[i]?=some y->(alT.toList.drop (i*6)).take 6=y.flatMap λz=>[.string ⟨z.toArray⟩]:=by
     intro i y hy;have hi:i < 6:=(List.getElem?_eq_some_iff.1 hy).1;have h2:=T9 i hi;have hxi:xs[i]?=some xs[i]:=List.getElem?_eq_getElem (by omega);rw[hxi] at h2;have h3:(opsL.map λl=>(DataW.agg (l.map fV):DataW Unit))[i]?=(xs.map (·.1))[i]?:=by rw[hd]
     rw[List.getElem?_map,List.getElem?_map,hy,hxi] at h3;simp only[Option.map_some,Option.some.injEq] at h3;have h4:xs[i]=(.agg (y.map fV),xs[i].2):=Prod.ext h3.symm rfl;rw[h4] at h2;exact N2 (k:=1) fV (λy=>[.string ⟨y.toArray⟩]) (λ_=>rfl) Zp Tryz.underlying142 zS z6 h2
   have l6:∀{l:List (List (List UInt8))} {cs:List Value},(∀y∈l,(y.flatMap λz=>[(Value.string ⟨z.toArray⟩:Value)]).length=6)->cs.length=l.length*6->(∀(i:Nat) y,l[i]?=some y->(cs.drop (i*6)).take 6=y.flatMap λz=>[.string ⟨z.toArray⟩])->cs=l.flatMap λy=>y.flatMap λz=>[.string ⟨z.toArray⟩]:=by
     intro l
     induction l with
     | nil=>intro cs _ h _;exact List.eq_nil_of_length_eq_zero (by simpa using h)
     | cons a l ih =>
       intro cs hq h hc;have h0:=hc 0 a rfl;rw[Nat.zero_mul,List.drop_zero] at h0
       have:=ih (cs:=cs.drop 6) (λy hy=>hq y (by simp[hy])) (by rw[List.length_drop,h,List.length_cons,Nat.succ_mul];omega) λi y hy=>by
         rw[List.drop_drop];have:=hc (i+1) y (by simpa using hy)
         rwa[Nat.succ_mul,Nat.add_comm] at this
       rw[List.flatMap_cons,<- h0,<- this,List.take_append_drop]
   exact l6 aqB (by rw[hl];rfl) fE
 obtain⟨mx,hm⟩:=akA Kr;have Gz:=Mo.stW W;refine⟨mx,Gz.len,Gz.desc,Gz.nodup,Gz.low,Gz.box,Gz.J6,Gz.row,Gz.Kw,Gz.O2,Gz.OW,Gz.J2,λg cs h=>?_,Gz.Su⟩;unfold Hd.G at h;split at h;rename_i hg;cases h;rw[beq_true hg];exact V1 (QS gO aqe) (by rw[e10];exact lZ _ _ opsL);split at h;rename_i hg;cases h;rw[beq_true hg];exact V1 (QS gR aqf) (by rw[e11];exact XV _ _ ane);split at h;rename_i hg;cases h;rw[beq_true hg];exact V1 (QS gB hv7) (by rw[e7];exact uJ _ _ alM);split at h;rename_i hg;cases h;rw[beq_true hg];exact V1 (QS gC hv8) (by rw[e8];exact acN _ _ _);split at h;rename_i hg;cases h;rw[beq_true hg];exact V1 (QS gS hv9) (by rw[e9];exact XV _ _ _);split at h;rename_i hg;cases h;rw[beq_true hg];exact .cons (Mo.alw hm) (.sc rfl) .nil;split at h;rename_i hg;cases h;rw[beq_true hg];exact V1 (QS gP hv3) (by rw[e3];exact acT _ _ _);cases h
def p4{mx:Int}{f:FuncId}{args:List AV}{vs:List Value}{W:World}(Gz:St (Hd.G mx) (Mo.Yv W) W s0)(h:Pure Tryz.prog (Hd.G mx) f args (.sc (.bool true)))(ha:CY (Mo.Yv W) W args vs):Calls Tryz.prog f vs.toArray W λe W'=>e=.returned (.bool true)/\Below W.heap.size W W':=by
 refine(h s0 (Mo.Yv W) W vs Gz ha).mono ?_;rintro e w' ⟨c',hx,_,u,rfl,hu⟩;cases hu;exact⟨rfl,hx.below⟩
def akv:DataW Unit->List Value
 | .lit l=>[l.value]
 | _=>[]
def al1:DataW Unit->List Value
 | .agg l=>l.flatMap akv
 | d=>akv d
def TJ:DataW Unit->Array Value
 | .agg l=>(l.flatMap al1).toArray
 | d=>(akv d).toArray
def putCells(cs:Array Value):Obj->Obj
 | .cells _ t frozen=>.cells cs t frozen
 | o=>o
def low:Nat:=(World.holding Tryz.prog default ⟨#[],#[],[]⟩).heap.size
abbrev anr:ByteArray:={ data:=#[118,97,108,117,101,32,111,117,116,32,111,102,32,114,97,110,103,101] }
abbrev ans:ByteArray:={ data:=#[105,110,118,97,108,105,100,32,115,121,110,116,97,120] }
def Wa(os:Os):World :=
 let w0:=World.holding Tryz.prog os ⟨#[.cells #[.string anr] 210,.cells #[.string ans] 210],#[],[]⟩
 { w0 with heap:=((((((((((((w0.heap.modify 8 (putCells (TJ Rows.laid_math_bits_deBruijn32tab))).modify
     9 (putCells (TJ Rows.laid_math_bits_deBruijn64tab))).modify
     4 (putCells (TJ Rows.laid_internal_strconv_uint64pow10))).modify
     7 (putCells (TJ Rows.laid_unicode_utf8_acceptRanges))).modify
     11 (putCells #[.iface 208 (.pointer (some ⟨low,0,none⟩))])).modify
     10 (putCells #[.iface 208 (.pointer (some ⟨low+1,0,none⟩))])).modify
     12 (putCells (TJ Rows.laid_wageoffice_calendar_before))).modify
     3 (putCells (TJ Rows.laid_wageoffice_lexer_classes))).modify
     0 (putCells (TJ Rows.laid_wageoffice_lexer_symbols))).modify
     2 (putCells (TJ Rows.laid_wageoffice_parser_operators))).modify
     1 (putCells (TJ Rows.laid_wageoffice_parser_roles))).modify
     6 (putCells (TJ Rows.laid_unicode_utf8_first))) }
def ab0(os:Os)(args:Array Value):laidMet Tryz.prog Rows.parserTreesRow.laid ((Wa os).forCall (λ_ _=>0) ⟨#[],args,[]⟩).memory :=
 laidMet_of_run3 8 (by kernel_rfl) (by kernel_rfl) (by kernel_rfl)
end Go.Proofs.YtpbkhogolfegfaaGreatDoor
namespace Go.Proofs.YtpbkhogolfegfaaGreatDoor
open AI Go
namespace Mo
set_option maxRecDepth 100000
set_option maxHeartbeats 4000000
variable {mx:Int}
end Mo
end Go.Proofs.YtpbkhogolfegfaaGreatDoor
namespace Go.Proofs.YtpbkhogolfegfaaGreatDoor
open AI Go
namespace Mo
set_option maxRecDepth 100000
set_option maxHeartbeats 4000000
variable {mx:Int}
def zN(n:Nd):Nd:=⟨n.kind,n.name,n.unit,n.n,n.fr,n.to,n.known,n.CF,n.kids,0⟩
abbrev FO(g k cap:Nat)(j:List Value):List AV:=fr 72 [(2,.ptr 1 0),(3,.ptr 2 0),(4,.raw (some ⟨g,0,none⟩) k cap)] [13,36,61] j
section
variable {b:Nat} {B:Nat->Nat->Prop} {w0:World} {g cap:Nat} {ps:List (Nat×Nat)} {s:AS} {Q:QE} {j:List Value}
variable {id off nx:Nat} {L:List Nd}
end
abbrev Bx:=List (Nd×Option Nat)
def a1:Bl:=.cells [.sc (.int .i64 0),.sc (.string ByteArray.empty),.sc (.string ByteArray.empty),.sc (.int .i64 0),.sc (.int .i64 0),.sc (.int .i64 0),.sc (.int .i64 0),.sc (.int .i64 0),.sl .full 0 [],.sl .full 0 [],.sc (.int .i64 0)]
mutual
def cN:Nd->Nat
 | ⟨_,_,_,_,_,_,_,_,kids,_⟩=>1+cL kids
def cL:List Nd->Nat
 | []=>0
 | k::ks=>cN k+cL ks
end
mutual
def aO:Nd->Prop
 | ⟨_,_,_,_,_,_,_,CF,kids,_⟩=>CF.ps.length*24<=140737488355328/\psL kids
def psL:List Nd->Prop
 | []=>True
 | k::ks=>aO k/\psL ks
end
def tZ:∀l:List Nd,psL l↔∀k∈l,aO k
 | []=>by simp[psL]
 | a::l=>by rw[psL,tZ l];simp
def Tf(n:Nd):aO n↔n.CF.ps.length*24<=140737488355328/\∀k∈n.kids,aO k:=by cases n;rw[aO,tZ]
mutual
def KY:Nd->Nd
 | ⟨kind,name,unit,n,fr,to,known,CF,kids,_⟩=>⟨kind,name,unit,n,fr,to,known,CF,stL kids,0⟩
def stL:List Nd->List Nd
 | []=>[]
 | k::ks=>KY k::stL ks
end
def uP:∀l:List Nd,stL l=l.map KY
 | []=>by rw[stL];rfl
 | k::l=>by rw[stL,uP l];rfl
def Ms(n:Nd):KY n=⟨n.kind,n.name,n.unit,n.n,n.fr,n.to,n.known,n.CF,n.kids.map KY,0⟩:=by cases n;rw[KY,uP]
structure Inv(n0:Nd)(rk:Option Nat)(M:List Bx)(qs:List ((Nat×Nat)×List Nd)):Prop where
 aqI:∀q∈qs,(q.1=(2,0)/\rk=none/\q.2=[n0])\/∃(i a:Nat) (l:Bx) (m:Nd),q.1=(3+i,0+a*11+9)/\M[i]?=some l/\l[a]?=some (m,none)/\q.2=m.kids/\m.kids≠[]
 ark:(qs.map (·.1)).Nodup
 all:(rk=none->(2,0)∈qs.map (·.1))/\∀(i a:Nat) (l:Bx) (m:Nd),M[i]?=some l->l[a]?=some (m,none)->m.kids≠[]->(3+i,0+a*11+9)∈qs.map (·.1)
 done:∀(i a:Nat) (l:Bx) (m:Nd) (c:Nat),M[i]?=some l->l[a]?=some (m,some c)->∃(i2:Nat) (l2:Bx),c=3+i2/\i < i2/\M[i2]?=some l2/\l2.map (·.1)=m.kids.map zN
 root:∀c,rk=some c->∃(i2:Nat) (l2:Bx),c=3+i2/\M[i2]?=some l2/\l2.map (·.1)=[zN n0]
 small:∀q∈qs,∀x∈q.2,aO x
 zero:∀(i a:Nat) (l:Bx) (m:Nd) (c:Option Nat),M[i]?=some l->l[a]?=some (m,c)->m.AH=0
section
variable {n0:Nd} {rk:Option Nat} {M:List Bx} {qs:List ((Nat×Nat)×List Nd)} {q:(Nat×Nat)×List Nd}
def Inv.low(h:Inv n0 rk M qs):∀q∈qs,q.1.1 < 3+M.length:=λq hq=>by
 rcases h.aqI q hq with ⟨e,_⟩ | ⟨i,a,l,m,e,hi,_⟩
 rw[e];show 2 < _;omega;rw[e];have:=(List.getElem?_eq_some_iff.1 hi).1;show 3+i < _;omega
end
end Mo
end Go.Proofs.YtpbkhogolfegfaaGreatDoor
namespace Go.Proofs.YtpbkhogolfegfaaGreatDoor
open AI Go
namespace Mo
variable {mx:Int}
open Classical in
end Mo
end Go.Proofs.YtpbkhogolfegfaaGreatDoor
namespace Go.Proofs.YtpbkhogolfegfaaGreatDoor
open AI Go Go.RowKit LexS
namespace Mo
variable {mx:Int}
def aqO{cx:Cx}{w:World}{s:AS}(h:St (G mx) cx w s):NB w:=by
 refine⟨λi hi=>?_,λj v hj=>?_⟩;have hc:=h.PH 3 Hd.ae1 rfl;have he:Hd.ae1[i]?=some (.sc (.int .u8 (L9 i:Nat))):=by simp[Hd.ae1,hi]
 obtain⟨v,hv,hr⟩:=hc.get he;cases hr;have:=hv.2.2;rwa[Nat.zero_add] at this;have hc:=h.PH 0 Hd.agW rfl;have hj':(Gj.map λy=>Value.string ⟨y.toArray⟩)[j]?=some v:=by simpa[IC] using hj
 rw[List.getElem?_map] at hj';obtain⟨y,hy,rfl⟩:=Option.map_eq_some_iff.1 hj';have he:Hd.agW[j]?=some (GO y):=by simp[Hd.agW,hy]
 obtain⟨u,hu,hr⟩:=hc.get he;unfold GO at hr;cases hr;have:=hu.2.2;rwa[Nat.zero_add] at this
def V2{w w':World}(h:Below w.heap.size w w'):S2 w w' (λ_=>False):=⟨h.os,h.tape,h.output,h.size,λk hk _=>h.block k hk⟩
def wF(w:World)(e:TypeId)(s:ByteArray):S2 w (Lib.bytesWorld w e s) (λ_=>False) :=
 V2 (Lib.below_freeze ((Below.drew (Below.refl _ w)).alloc (Nat.le_refl _) _) (p:=⟨w.heap.size,_,Option.none⟩) (Nat.le_refl _) 1)
def IP(x:Tok):Tk:=⟨x.1,⟨x.2.1.toArray⟩,x.2.2⟩
def ag9(l:List Tok):(rows GG (l.map IP)).length=(KP l).length:=by
 unfold KP
 induction l with
 | nil=>rfl
 | cons x l ih=>rw[List.map_cons,I9,List.flatMap_cons,List.length_append,List.length_append,ih];rfl
def alm(cx:Cx)(w:World)(l:List Tok):CY cx w (rows GG (l.map IP)) (KP l):=by
 unfold KP
 induction l with
 | nil=>exact .nil
 | cons x l ih =>
   rw[List.map_cons,I9,List.flatMap_cons];exact CY.append (.cons (.sc rfl) (.cons (.sc rfl) (.cons (.sc rfl) .nil))) ih
def IK(s:ByteArray):Option (List Tk×Int×Int):=some ((Lt s.data.toList).1.map IP,(((Lt s.data.toList).2.1:Nat):Int),(((Lt s.data.toList).2.2:Nat):Int))
def NJ{s:ByteArray}{yR:List Tk×Int×Int}(h:IK s=some yR):Pure P (G mx) 34 [.sc (.string s)] (.C6 [.sl .lost yR.1.length (rows GG yR.1),.sc (.int .i64 yR.2.1),.sc (.int .i64 yR.2.2)]):=by
 cases h;intro s0 cx w vs hs ha;cases ha with
 | cons h1 tl =>
 cases tl;cases h1;refine(afP s w (aqO hs)).mono ?_;rintro e w' ⟨u,rfl,Q8,hb⟩;obtain⟨x,st⟩:=hs.same (V2 hb);refine⟨cx,x,st,_,rfl,?_⟩;show Rp cx w' (.C6 [.sl .lost ((Lt (L s)).1.map IP).length (rows GG ((Lt (L s)).1.map IP)),.sc (.int .i64 (Lt (L s)).2.1),.sc (.int .i64 (Lt (L s)).2.2)]) _;refine .C6 (vs:=[u,.int .i64 (Lt (L s)).2.1,.int .i64 (Lt (L s)).2.2]) (.cons ?_ (.cons (.sc rfl) (.cons (.sc rfl) .nil)));have hl:=ag9 (Lt (L s)).1;have hc:=alm cx w' (Lt (L s)).1;rw[List.length_map];obtain⟨h1,⟨rfl,h2⟩ | ⟨g,cap,oL,rfl,hg,hw,hn,_,Qi,htk⟩⟩:=Q8;have:(Lt (L s)).1=[]:=List.eq_nil_of_length_eq_zero h2;rw[this];exact .KA trivial;refine .No hn (Bk.Rj hc (λi v hi=>⟨(Array.getElem?_eq_some_iff.1 hw).1,λKr=>?_,?_⟩)) trivial;have:g < w.heap.size:=hs.hH Kr;omega;rw[Nat.zero_add,cell_of_row w' g i oL _ _ hw];rw[<- htk,List.getElem?_take] at hi;split at hi;rwa[Array.getElem?_toList] at hi;cases hi
def Sn(s:ByteArray):Option (Int×Unit):=if s.data.toList.length<=18 then (Lib.atoi s.data.toList).map λn=>(n,()) else none
def rX{s:ByteArray}{yR:Int×Unit}(h:Sn s=some yR):Pure P (G mx) 173 [.sc (.string s)] (.C6 [.sc (.int .i64 yR.1),.sc .nilIface]):=by
 unfold Sn at h;split at h
 . rename_i hl
   cases hn:Lib.atoi s.data.toList with
   | none=>rw[hn] at h;cases h
   | some n =>
     rw[hn] at h;cases h;intro s0 cx w vs hs ha;cases ha with
     | cons h1 tl =>
     cases tl;cases h1;refine(Tryz.strconv_Atoi s n (by show s.data.size<=18;rw[<- Array.length_toList];exact hl) hn w).mono ?_;rintro e w' ⟨rfl,tt,rfl⟩;obtain⟨x,st⟩:=hs.same (wF w _ tt);exact⟨cx,x,st,_,rfl,.C6 (vs:=[.int .i64 n,.nilIface]) (.cons (.sc rfl) (.cons (.sc rfl) .nil))⟩
 cases h
def J5(t o n:ByteArray)(k:Int):Option ByteArray:=if 1<=o.size/\t.size+Lib.countB t o*n.size<=4000 then some ⟨(Lib.replace t.data.toList o.data.toList n.data.toList k).toArray⟩ else none
def gN{t o n:ByteArray}{k:Int}{yR:ByteArray}(h:J5 t o n k=some yR):Pure P (G mx) 163 [.sc (.string t),.sc (.string o),.sc (.string n),.sc (.int .i64 k)] (.sc (.string yR)):=by
 unfold J5 at h;split at h
 . rename_i hl
   cases h;intro s0 cx w vs hs ha;cases ha with
   | cons a1 tl =>
   cases tl with
   | cons a2 tl =>
   cases tl with
   | cons a3 tl =>
   cases tl with
   | cons a4 tl =>
   cases tl;cases a1;cases a2;cases a3;cases a4
   have hm:w.cell? ⟨5,0,none⟩=some (.int .i64 mx):=by
     have hg:=hs.PH 5 [Hd.int mx] rfl;obtain⟨v,hv,hr⟩:=hg.get (i:=0) rfl;unfold Hd.int at hr;cases hr;exact hv.2.2
   refine(Tryz.strings_Replace t o n k mx w (by omega) hm hl.1 (by omega)).mono ?_;rintro e w' ⟨rfl,hb⟩;obtain⟨x,st⟩:=hs.same (V2 hb);exact⟨cx,x,st,_,rfl,.sc rfl⟩
 cases h
def adK:Nd⊕Dg->Nd×Dg×Bool
 | .inl n=>(n,⟨0,0⟩,true)
 | .inr d=>(⟨0,ByteArray.empty,ByteArray.empty,0,0,0,0,⟨0,[]⟩,[],0⟩,d,false)
end Mo
end Go.Proofs.YtpbkhogolfegfaaGreatDoor

namespace AI
open Go
abbrev AV.zi(x:Int):AV:=.sc (.int .i64 x)
abbrev AV.zs(x:ByteArray):AV:=.sc (.string x)
abbrev AV.zb(x:Bool):AV:=.sc (.bool x)
abbrev bT:Value:=.bool true
abbrev bF:Value:=.bool false
def EC{α β:Type}{a b:α}{c d:β}{Q:Prop}(k:a=b->c=d->Q):some (a,c)=some (b,d)->Q:=λh=>by cases h;exact k rfl rfl
def rT{P:Program}{G:Bc}{c:Code}{fr:List AV}{s:AS}{x:Value}{fn:Func}{m:Nat}(l:List (PC P G))(h:agn P fn (T8 P G 300 c [] (pHs l) fr s)=some (n6 l,.sc x):=by kernel_rfl):W P G (XS P G) H0 c fr s (U1 P fn m (λr _=>∃a,r=.ret a/\Fits 0 0 a (.sc x))):=rS (Ac 300 l) h
end AI
namespace Go.Proofs.YtpbkhogolfegfaaGreatDoor
open AI Go
namespace Mo
variable {mx:Int}
abbrev ndL(x:Nd)(r:List AV):List AV:=.zi x.kind::.zs x.name::.zs x.unit::.zi x.n::.zi x.fr::.zi x.to::.zi x.known::.zi x.CF.den::.sl .lost x.CF.ps.length (rows IR x.CF.ps)::.sl .lost x.kids.length (BH x.kids)::.zi x.AH::r
end Mo
end Go.Proofs.YtpbkhogolfegfaaGreatDoor
namespace AI
open Go
def BS{α β γ δ:Type}{m:Option ((α⊕β)×γ)}{k:(α⊕β)×γ->Option δ}{r:δ}{X:Prop}(h1:∀a c,m=some (.inl a,c)->k (.inl a,c)=some r->X)(h2:∀b c,m=some (.inr b,c)->k (.inr b,c)=some r->X):m.bind k=some r->X:=λh=>by
 cases m with
 | none=>cases h
 | some p =>
   obtain⟨a | b,c⟩:=p;exact h1 a c rfl h;exact h2 b c rfl h
end AI
namespace Go.Proofs.YtpbkhogolfegfaaGreatDoor
open AI Go
namespace Mo
variable {mx:Int}
abbrev pC(p:Pr)(x:Int):List AV:=[.sl .lost p.Bs.length (rows GG p.Bs),.zi x,.zi p.DN]
abbrev pZ(p:Pr):AS:=⟨[(0,.cells (RW p))],1,[],0⟩
abbrev pS(p:Pr)(x:Int):AS:=⟨[(0,.cells (pC p x))],1,[],0⟩
def pW{n m:Nat}(p:Pr)(x:Int):FO n m:=bw (.cells (pC p x)) (.cells (pC p x)) (.cells (.plain (A1 (BM.KJ p.Bs) (A1 rfl (A1 rfl rfl)))))
abbrev S1:List AV:=[.zi 0,.zs ByteArray.empty,.zs ByteArray.empty,.zi 0,.zi 0,.zi 0,.zi 0,.zi 0,.sl .full 0 [],.sl .full 0 [],.zi 0]
def lN{n m:Nat}:FO n m:=bw (.cells S1) (.cells S1) (.cells (.plain (A1 rfl (A1 rfl (A1 rfl (A1 rfl (A1 rfl (A1 rfl (A1 rfl (A1 rfl (A1 (W8 rfl) (A1 (W8 rfl) (A1 rfl rfl)))))))))))))
abbrev eD:Dg->AV:=λdV=>.Fv 45 (.agg (Qc dV))
def gD{n m:Nat}(d:Dg):FP n m:=⟨eD d,eD d,.plain (Cn.Cs d)⟩
abbrev eN:Nd->AV:=λyV=>.agg (CT yV)
abbrev eT:Tk->AV:=λyV=>.agg (GG yV)
abbrev eI:Int->AV:=λyV=>.zi yV
abbrev eJ:Int×Int->AV:=λyV=>.C6 [.zi yV.1,.zi yV.2]
abbrev eL:List Nd->AV:=λyV=>.sl .lost yV.length (BH yV)
abbrev eP:Pt->AV:=λyV=>.agg (XT yV)
abbrev pR(mx:Int)(f:Nat)(al:List AV)(p:Pr)(r:CR)(x:Int):Prop:=Sound P (G mx) (.call f al (pZ p) r (pS p x))
section
variable {c:Code} {fr0:List AV} {s s0 s2:AS} {Q:AX->List AV->AS->Prop} {m:Nat} {v:AV} {ks:List KI}
def Ih(d:Dg)(p:Pr)(x:Int)(l:List (PC P (G mx)))(k:TW (G mx) m s0 Q v s2)(h:af7 s0.nx s0.nr m [v] (nW (n:=s0.nx) (m:=s0.nr) [gD d]) (oX (n:=s0.nx) (m:=s0.nr) [pW p x]) (T8 P (G mx) 300 c [] (pHs l) fr0 s)=some (n6 l,[v],s2,sI (n:=s0.nx) (m:=s0.nr) [gD d],z8 (n:=s0.nx) (m:=s0.nr) [pW p x]):=by kernel_rfl):W P (G mx) (XS P (G mx)) H0 c fr0 s Q:=BL Hd.Aa m [gD d] [pW p x] (Ac 300 l) h k
def qgB(d:Dg)(p:Pr)(x:Int)(l:List (PC P (G mx)))(k:TW (G mx) m s0 Q v s2)(h:af7 s0.nx s0.nr m [v] (nW (n:=s0.nx) (m:=s0.nr) [gD d]) (oX (n:=s0.nx) (m:=s0.nr) [pW p x]) (R5 (T8 P (G mx) 300) ks .normal (pHs l) fr0 s)=some (n6 l,[v],s2,sI (n:=s0.nx) (m:=s0.nr) [gD d],z8 (n:=s0.nx) (m:=s0.nr) [pW p x]):=by kernel_rfl):Ej P (G mx) ks Q .normal fr0 s:=BL Hd.Aa m [gD d] [pW p x] (IV 300 l) h k
end
section
variable {f:Nat} {al:List AV} {p:Pr} {x:Int}
def quG{r:CR}(hr:∀ρ σ,RnR 1 0 ρ σ r r)(hS:pR mx f (.ptr 0 0::al) p r x)(u0:Nat)(ha:BN al=true):Cd.ok P (G mx) (.Fc f (.ptr u0 0::al) r [(u0,.cells (RW p))] [] [(u0,.cells (pC p x))] []) :=
 HH (M:=[.cells (RW p)]) (M2:=[.cells (pC p x)]) (T:=[]) (T2:=[]) (k:=1) (j:=0) Hd.Aa _ _ _ _ hS rfl rfl rfl rfl rfl (List.nodup_cons.2 ⟨by simp,List.nodup_nil⟩) List.nodup_nil rfl rfl (.cons (.cells (.pl (CP.pl p))) .nil) (.cons (.cells (.pl (A1 (BM.KJ p.Bs) (A1 rfl (A1 rfl rfl))))) .nil) (.cons (.ptr (by decide)) (.pl ha)) (hr _ _) (λe he=>by simp only[List.mem_singleton] at he;subst he;exact(.arg (.here .ptr)))
def Hx{y:Nd⊕Dg}(hS:pR mx f (.ptr 0 0::al) p (I5 eN eD y) x)(u0:Nat)(ha:BN al=true:=by kernel_rfl):Cd.ok P (G mx) (.Fc f (.ptr u0 0::al) (I5 eN eD y) [(u0,.cells (RW p))] [] [(u0,.cells (pC p x))] []):=quG (λ_ _=>MF (enc:=eN) (encd:=eD) (λyV=>AE.Cs yV) (λdV=>Cn.Cs dV) y) hS u0 ha
def Im{y:Tk⊕Dg}(hS:pR mx f (.ptr 0 0::al) p (I5 eT eD y) x)(u0:Nat)(ha:BN al=true:=by kernel_rfl):Cd.ok P (G mx) (.Fc f (.ptr u0 0::al) (I5 eT eD y) [(u0,.cells (RW p))] [] [(u0,.cells (pC p x))] []):=quG (λ_ _=>MF (enc:=eT) (encd:=eD) (λyV=>BM.Cs yV) (λdV=>Cn.Cs dV) y) hS u0 ha
def cG{y:Int⊕Dg}(hS:pR mx f (.ptr 0 0::al) p (I5 eI eD y) x)(u0:Nat)(ha:BN al=true:=by kernel_rfl):Cd.ok P (G mx) (.Fc f (.ptr u0 0::al) (I5 eI eD y) [(u0,.cells (RW p))] [] [(u0,.cells (pC p x))] []):=quG (λ_ _=>MF (enc:=eI) (encd:=eD) (λyV=>rfl) (λdV=>Cn.Cs dV) y) hS u0 ha
def Nw{y:(Int×Int)⊕Dg}(hS:pR mx f (.ptr 0 0::al) p (I5 eJ eD y) x)(u0:Nat)(ha:BN al=true:=by kernel_rfl):Cd.ok P (G mx) (.Fc f (.ptr u0 0::al) (I5 eJ eD y) [(u0,.cells (RW p))] [] [(u0,.cells (pC p x))] []):=quG (λ_ _=>MF (enc:=eJ) (encd:=eD) (λyV=>rfl) (λdV=>Cn.Cs dV) y) hS u0 ha
def OH{a:AV}(hS:Sound P (G mx) (.call f (.ptr 0 0::al) (pZ p) (.ret a) (pZ p)))(u0:Nat)(ha:BN al=true:=by kernel_rfl)(hp:plain a=true:=by kernel_rfl):Cd.ok P (G mx) (.Fc f (.ptr u0 0::al) (.ret a) [(u0,.cells (RW p))] [] [(u0,.cells (RW p))] []):=quG (x:=p.Kc) (r:=.ret a) (λ_ _=>.pl hp) hS u0 ha
end
end Mo
end Go.Proofs.YtpbkhogolfegfaaGreatDoor
namespace Go.Proofs.YtpbkhogolfegfaaGreatDoor
open AI Go
namespace Mo
set_option maxRecDepth 100000
set_option maxHeartbeats 4000000
variable {mx:Int}
def B49:Code:=A0 Tryz.f49
def b49:Tryz.f49.body=some B49:=by kernel_rfl
def MY(p:Pr)(err:Int)(at_:Int):Option (Unit⊕Dg):=some (Sum.inr (⟨err,at_⟩:Dg):(Unit⊕Dg))
def At{p:Pr}{err:Int}{at_:Int}{yR:(Unit⊕Dg)}(hS:Sound P (G mx) (.call 49 [.ptr 0 0,.zi err,.zi at_] (pZ p) (I5 (λyV=>.C6 []) eD yR) (pZ p)))(u0:Nat)(Qg:([u0]:List Nat).Nodup:=by decide)(Qh:([]:List Nat).Nodup:=by decide):Cd.ok P (G mx) (.Fc 49 [.ptr u0 0,.zi err,.zi at_] (I5 (λyV=>.C6 []) eD yR) [(u0,.cells (RW p))] [] [(u0,.cells (RW p))] []) :=
 HH (M:=[.cells (RW p)]) (M2:=[.cells (RW p)]) (T:=[]) (T2:=[]) (k:=1) (j:=0) Hd.Aa _ _ _ _ hS rfl rfl rfl rfl rfl Qg Qh rfl rfl (.cons (.cells (.pl (CP.pl p))) .nil) (.cons (.cells (.pl (CP.pl p))) .nil) (.cons (.ptr (by decide)) (.cons (.pl rfl) (.cons (.pl rfl) .nil))) (MF (enc:=λyV=>.C6 []) (encd:=λdV=>.Fv 45 (.agg (Qc dV))) (λyV=>rfl) (λdV=>(Cn.Cs dV)) yR) (λe he=>by simp only[List.mem_singleton] at he;subst he;exact(.arg (.here .ptr)))
def Am{p:Pr}{err:Int}{at_:Int}{yR:(Unit⊕Dg)}(h:MY  p err at_=some yR):Sound P (G mx) (.call 49 [.ptr 0 0,.zi err,.zi at_] (pZ p) (I5 (λyV=>.C6 []) eD yR) (pZ p)):=by
 unfold MY at h;refine BW Hd.mixed (Au Tryz.func49 b49 ?_);revert h;rintro⟨⟩;exact BL Hd.Aa _ [⟨.Fv 45 (.agg [.zi err,.zi at_]),.Fv 45 (.agg [.zi err,.zi at_]),(.plain (Cn.Cs (⟨err,at_⟩:Dg)))⟩] [bp (CP.pl p)] (Ac 300 [ppn]) (by kernel_rfl) .body
def B69:Code:=A0 Tryz.f69
def b69:Tryz.f69.body=some B69:=by kernel_rfl
def AD(p:Pr):Option (Tk⊕Dg):=cond (NI ((p.Bs.length:Nat):Int) p.Kc) (some (Sum.inr (⟨72,p.DN⟩:Dg):(Tk⊕Dg))) ((HU p.Bs p.Kc).bind λx1=>some (Sum.inl x1:(Tk⊕Dg)))
def Ax{p:Pr}{yR:(Tk⊕Dg)}(hS:Sound P (G mx) (.call 69 [.ptr 0 0] (pZ p) (I5 eT eD yR) (pZ p)))(u0:Nat)(Qg:([u0]:List Nat).Nodup:=by decide)(Qh:([]:List Nat).Nodup:=by decide):Cd.ok P (G mx) (.Fc 69 [.ptr u0 0] (I5 eT eD yR) [(u0,.cells (RW p))] [] [(u0,.cells (RW p))] []) :=
 HH (M:=[.cells (RW p)]) (M2:=[.cells (RW p)]) (T:=[]) (T2:=[]) (k:=1) (j:=0) Hd.Aa _ _ _ _ hS rfl rfl rfl rfl rfl Qg Qh rfl rfl (.cons (.cells (.pl (CP.pl p))) .nil) (.cons (.cells (.pl (CP.pl p))) .nil) (.cons (.ptr (by decide)) .nil) (MF (enc:=λyV=>.agg (GG yV)) (encd:=λdV=>.Fv 45 (.agg (Qc dV))) (λyV=>(BM.Cs yV)) (λdV=>(Cn.Cs dV)) yR) (λe he=>by simp only[List.mem_singleton] at he;subst he;exact(.arg (.here .ptr)))
def Ao{p:Pr}{yR:(Tk⊕Dg)}(h:AD  p=some yR):Sound P (G mx) (.call 69 [.ptr 0 0] (pZ p) (I5 eT eD yR) (pZ p)):=by
 unfold AD at h;refine BW Hd.mixed (Au Tryz.func69 b69 ?_);revert h;refine Ag (λAW=>?_) λAW=>?_;rintro⟨⟩;exact BL Hd.Aa _ [⟨.Fv 45 (.agg [.zi 72,.zi p.DN]),.Fv 45 (.agg [.zi 72,.zi p.DN]),(.plain (Cn.Cs (⟨72,p.DN⟩:Dg)))⟩] [bp (CP.pl p)] (Ac 300 [pb AW,An (At (Am (p:=p) (err:=72) (at_:=p.DN) rfl) 0)]) (by kernel_rfl) .body;refine Aq λx1 w7=>?_;rintro⟨⟩;exact Aw Hd.Aa _ _ [⟨.agg (GG x1),.agg (GG x1),(.plain (BM.Cs x1))⟩] [bp (CP.pl p)] (Ac 300 [pb AW,lL,Jw (abV .lost w7)]) (by kernel_rfl) .body
def an7:Code:=A0 Tryz.f143
def aoR:Tryz.f143.body=some an7:=by kernel_rfl
def Iu(word:ByteArray):Option Bool:=cond (BY word.data.toList TI.data.toList) (some true) (cond (BY word.data.toList Pe.data.toList) (some true) (cond (BY word.data.toList Io.data.toList) (some true) (cond (BY word.data.toList aa5.data.toList) (some true) (cond (BY word.data.toList uC.data.toList) (some true) (cond (BY word.data.toList sL.data.toList) (some true) (cond (BY word.data.toList toS.data.toList) (some true) (cond (BY word.data.toList V9.data.toList) (some true) (cond (BY word.data.toList dM.data.toList) (some true) (cond (BY word.data.toList Tl.data.toList) (some true) (cond (BY word.data.toList QZ.data.toList) (some true) (cond (BY word.data.toList Hi.data.toList) (some true) (cond (BY word.data.toList EK.data.toList) (some true) (cond (BY word.data.toList JY.data.toList) (some true) (cond (BY word.data.toList afT.data.toList) (some true) (cond (BY word.data.toList TH.data.toList) (some true) (cond (BY word.data.toList Mx.data.toList) (some true) (cond (BY word.data.toList PG.data.toList) (some true) (cond (BY word.data.toList TN.data.toList) (some true) (cond (BY word.data.toList kZ.data.toList) (some true) (cond (BY word.data.toList P8.data.toList) (some true) (cond (BY word.data.toList Vq.data.toList) (some true) (cond (BY word.data.toList jI.data.toList) (some true) (cond (BY word.data.toList ZK.data.toList) (some true) (cond (BY word.data.toList T6.data.toList) (some true) (cond (BY word.data.toList eA.data.toList) (some true) (cond (BY word.data.toList LY.data.toList) (some true) (cond (BY word.data.toList eO.data.toList) (some true) (cond (BY word.data.toList Rf.data.toList) (some true) (cond (BY word.data.toList VT.data.toList) (some true) (cond (BY word.data.toList K3.data.toList) (some true) (cond (BY word.data.toList FY.data.toList) (some true) (cond (BY word.data.toList Rz.data.toList) (some true) (some false)))))))))))))))))))))))))))))))))
def Ju{word:ByteArray}{yR:Bool}(h:Iu  word=some yR):Pure P (G mx) 143 [.zs word] (.zb yR):=by
 unfold Iu at h;refine CQ Hd.mixed Hd.Aa (Au Tryz.func143 aoR ?_) (A1 rfl rfl) rfl;revert h;refine Ag (λAW=>?_) λAW=>?_;rintro⟨⟩;exact rT [pb AW];let o1:List (PC P (G mx)):=[pb AW];refine Ag (λBZ=>?_) λBZ=>?_;rintro⟨⟩;exact rT (o1++[pb BZ]);let o2:List (PC P (G mx)):=o1++[pb BZ];refine Ag (λDz=>?_) λDz=>?_;rintro⟨⟩;exact rT (o2++[pb Dz]);let o3:List (PC P (G mx)):=o2++[pb Dz];refine Ag (λFk=>?_) λFk=>?_;rintro⟨⟩;exact rT (o3++[pb Fk]);let o4:List (PC P (G mx)):=o3++[pb Fk];refine Ag (λHY=>?_) λHY=>?_;rintro⟨⟩;exact rT (o4++[pb HY]);let o5:List (PC P (G mx)):=o4++[pb HY];refine Ag (λIN=>?_) λIN=>?_;rintro⟨⟩;exact rT (o5++[pb IN]);let o6:List (PC P (G mx)):=o5++[pb IN];refine Ag (λJb=>?_) λJb=>?_;rintro⟨⟩;exact rT (o6++[pb Jb]);let o7:List (PC P (G mx)):=o6++[pb Jb];refine Ag (λKx=>?_) λKx=>?_;rintro⟨⟩;exact rT (o7++[pb Kx]);let o8:List (PC P (G mx)):=o7++[pb Kx];refine Ag (λKq=>?_) λKq=>?_;rintro⟨⟩;exact rT (o8++[pb Kq]);let o9:List (PC P (G mx)):=o8++[pb Kq];refine Ag (λGP=>?_) λGP=>?_;rintro⟨⟩;exact rT (o9++[pb GP]);let iU:List (PC P (G mx)):=o9++[pb GP];refine Ag (λIZ=>?_) λIZ=>?_;rintro⟨⟩;exact rT (iU++[pb IZ]);let qF:List (PC P (G mx)):=iU++[pb IZ];refine Ag (λJG=>?_) λJG=>?_;rintro⟨⟩;exact rT (qF++[pb JG]);let o12:List (PC P (G mx)):=qF++[pb JG];refine Ag (λJH=>?_) λJH=>?_;rintro⟨⟩;exact rT (o12++[pb JH]);let qG:List (PC P (G mx)):=o12++[pb JH];refine Ag (λK1=>?_) λK1=>?_;rintro⟨⟩;exact rT (qG++[pb K1]);let o14:List (PC P (G mx)):=qG++[pb K1];refine Ag (λLs=>?_) λLs=>?_;rintro⟨⟩;exact rT (o14++[pb Ls]);let o15:List (PC P (G mx)):=o14++[pb Ls];refine Ag (λOf=>?_) λOf=>?_;rintro⟨⟩;exact rT (o15++[pb Of]);let xK:List (PC P (G mx)):=o15++[pb Of];refine Ag (λVc=>?_) λVc=>?_;rintro⟨⟩;exact rT (xK++[pb Vc]);let o17:List (PC P (G mx)):=xK++[pb Vc];refine Ag (λXk=>?_) λXk=>?_;rintro⟨⟩;exact rT (o17++[pb Xk]);let o18:List (PC P (G mx)):=o17++[pb Xk];refine Ag (λpA=>?_) λpA=>?_;rintro⟨⟩;exact rT (o18++[pb pA]);let o19:List (PC P (G mx)):=o18++[pb pA];refine Ag (λpB=>?_) λpB=>?_;rintro⟨⟩;exact rT (o19++[pb pB]);let o20:List (PC P (G mx)):=o19++[pb pB];refine Ag (λpD=>?_) λpD=>?_;rintro⟨⟩;exact rT (o20++[pb pD]);let o21:List (PC P (G mx)):=o20++[pb pD];refine Ag (λpE=>?_) λpE=>?_;rintro⟨⟩;exact rT (o21++[pb pE]);let o22:List (PC P (G mx)):=o21++[pb pE];refine Ag (λpF=>?_) λpF=>?_;rintro⟨⟩;exact rT (o22++[pb pF]);let o23:List (PC P (G mx)):=o22++[pb pF];refine Ag (λajH=>?_) λajH=>?_;rintro⟨⟩;exact rT (o23++[pb ajH]);let o24:List (PC P (G mx)):=o23++[pb ajH];refine Ag (λafr=>?_) λafr=>?_;rintro⟨⟩;exact rT (o24++[pb afr]);refine Ag (λajI=>?_) λajI=>?_;rintro⟨⟩;exact rT (o24++[pb afr,pb ajI]);let o25:List (PC P (G mx)):=o24++[pb afr,pb ajI];refine Ag (λafs=>?_) λafs=>?_;rintro⟨⟩;exact rT (o25++[pb afs]);refine Ag (λajJ=>?_) λajJ=>?_;rintro⟨⟩;exact rT (o25++[pb afs,pb ajJ]);let o26:List (PC P (G mx)):=o25++[pb afs,pb ajJ];refine Ag (λpG=>?_) λpG=>?_;rintro⟨⟩;exact rT (o26++[pb pG]);refine Ag (λwT=>?_) λwT=>?_;rintro⟨⟩;exact rT (o26++[pb pG,pb wT]);refine Ag (λabt=>?_) λabt=>?_;rintro⟨⟩;exact rT (o26++[pb pG,pb wT,pb abt]);refine Ag (λaft=>?_) λaft=>?_;rintro⟨⟩;exact rT (o26++[pb pG,pb wT,pb abt,pb aft]);refine Ag (λajK=>?_) λajK=>?_;rintro⟨⟩;exact rT (o26++[pb pG,pb wT,pb abt,pb aft,pb ajK]);rintro⟨⟩;exact rT (o26++[pb pG,pb wT,pb abt,pb aft,pb ajK])
def anW:Code:=A0 Tryz.f119
def aoB:Tryz.f119.body=some anW:=by kernel_rfl
def Cz(token:Tk):Option Bool:=cond (CZ token.kind 1) ((Iu token.text).bind λy1=>cond y1 (some false) (some true)) (some false)
def Ox{token:Tk}{yR:Bool}(h:Cz  token=some yR):Pure P (G mx) 119 [.agg (GG token)] (.zb yR):=by
 unfold Cz at h;refine CQ Hd.mixed Hd.Aa (Au Tryz.func119 aoB ?_) (A1 (BM.Cs token) rfl) rfl;revert h;refine Ag (λAW=>?_) λAW=>?_;refine Aq λy1 B8=>?_;refine Ag (λhv=>?_) λhv=>?_;subst hv;rintro⟨⟩;exact rT [pb AW,AG (Ju B8)];subst hv;rintro⟨⟩;exact rT [pb AW,AG (Ju B8)];rintro⟨⟩;exact rT [pb AW]
def aoa:Code:=A0 Tryz.f154
def aoU:Tryz.f154.body=some aoa:=by kernel_rfl
def Dw(token:Tk)(a1:ByteArray):Option Bool:=cond (BY token.text.data.toList a1.data.toList) (some true) (some false)
def PU{token:Tk}{a1:ByteArray}{yR:Bool}(hS:Sound P (G mx) (.call 154 [.agg (GG token),.ptr 0 0] ⟨[(0,.cells [.zs a1])],1,[],0⟩ (.ret (.zb yR)) ⟨[(0,.cells [.zs a1])],1,[],0⟩))(u0:Nat)(Qg:([u0]:List Nat).Nodup:=by decide)(Qh:([]:List Nat).Nodup:=by decide):Cd.ok P (G mx) (.Fc 154 [.agg (GG token),.ptr u0 0] (.ret (.zb yR)) [(u0,.cells [.zs a1])] [] [(u0,.cells [.zs a1])] []) :=
 HH (M:=[.cells [.zs a1]]) (M2:=[.cells [.zs a1]]) (T:=[]) (T2:=[]) (k:=1) (j:=0) Hd.Aa _ _ _ _ hS rfl rfl rfl rfl rfl Qg Qh rfl rfl (.cons (.cells (.pl (A1 rfl rfl))) .nil) (.cons (.cells (.pl (A1 rfl rfl))) .nil) (.cons (.pl (BM.Cs token)) (.cons (.ptr (by decide)) .nil)) (.pl rfl) (λe he=>by simp only[List.mem_singleton] at he;subst he;exact(.arg (.there (.here .ptr))))
def NO{token:Tk}{a1:ByteArray}{yR:Bool}(h:Dw  token a1=some yR):Sound P (G mx) (.call 154 [.agg (GG token),.ptr 0 0] ⟨[(0,.cells [.zs a1])],1,[],0⟩ (.ret (.zb yR)) ⟨[(0,.cells [.zs a1])],1,[],0⟩):=by
 unfold Dw at h;refine BW Hd.mixed (Au Tryz.func154 aoU ?_);revert h;refine Ag (λAW=>?_) λAW=>?_;rintro⟨⟩;exact Aw Hd.Aa _ _ [] [none] (Ac 300 [pb AW]) (by kernel_rfl) .body;rintro⟨⟩;exact Aw Hd.Aa _ _ [] [none] (Ac 300 [pb AW]) (by kernel_rfl) .body
def anV:Code:=A0 Tryz.f118
def eB:Tryz.f118.body=some anV:=by kernel_rfl
def Gt(p:Pr)(fits:ByteArray):Option ((Tk⊕Dg)×Int):=(AD p).bind λy1=>Sum.elim (λ(CL:Tk)=>(Dw CL fits).bind λy2=>cond y2 (some ((Sum.inl CL:(Tk⊕Dg)),(Bt p.Kc 1))) (some ((Sum.inr (⟨71,CL.AH⟩:Dg):(Tk⊕Dg)),p.Kc))) (λ(L7:Dg)=>some ((Sum.inr L7:(Tk⊕Dg)),p.Kc)) y1
def LM{p:Pr}{fits:ByteArray}{yR:(Tk⊕Dg)}{Ai:Int}(hS:Sound P (G mx) (.call 118 [.ptr 0 0,.fn (.func 154) [] [.ptr 1 0]] ⟨[(1,.cells [.zs fits]),(0,.cells (RW p))],2,[],0⟩ (I5 eT eD yR) ⟨[(1,.cells [.zs fits]),(0,.cells (pC p Ai))],2,[],0⟩))(u0 u1:Nat)(Qg:([u0,u1]:List Nat).Nodup:=by decide)(Qh:([]:List Nat).Nodup:=by decide):Cd.ok P (G mx) (.Fc 118 [.ptr u0 0,.fn (.func 154) [] [.ptr u1 0]] (I5 eT eD yR) [(u0,.cells (RW p)),(u1,.cells [.zs fits])] [] [(u0,.cells (pC p Ai)),(u1,.cells [.zs fits])] []) :=
 HH (M:=[.cells (RW p),.cells [.zs fits]]) (M2:=[.cells (pC p Ai),.cells [.zs fits]]) (T:=[]) (T2:=[]) (k:=2) (j:=0) Hd.Aa _ _ _ _ hS rfl rfl rfl rfl rfl Qg Qh rfl rfl (.cons (.cells (.pl (CP.pl p))) (.cons (.cells (.pl (A1 rfl rfl))) .nil)) (.cons (.cells (.pl (A1 (BM.KJ p.Bs) (A1 rfl (A1 rfl rfl))))) (.cons (.cells (.pl (A1 rfl rfl))) .nil)) (.cons (.ptr (by decide)) (.cons (.fn (.pl rfl) (.cons (.ptr (by decide)) .nil)) .nil)) (MF (enc:=λyV=>.agg (GG yV)) (encd:=λdV=>.Fv 45 (.agg (Qc dV))) (λyV=>(BM.Cs yV)) (λdV=>(Cn.Cs dV)) yR) (by
   intro e he;simp only[List.mem_cons,List.not_mem_nil,or_false] at he;rcases he with rfl | rfl
   exact(.arg (.here .ptr));exact(.arg (.there (.here (.fn2 (.here .ptr)))))
   )
def Ku{p:Pr}{fits:ByteArray}{yR:(Tk⊕Dg)}{Ai:Int}(h:Gt  p fits=some (yR,Ai)):Sound P (G mx) (.call 118 [.ptr 0 0,.fn (.func 154) [] [.ptr 1 0]] ⟨[(1,.cells [.zs fits]),(0,.cells (RW p))],2,[],0⟩ (I5 eT eD yR) ⟨[(1,.cells [.zs fits]),(0,.cells (pC p Ai))],2,[],0⟩):=by
 unfold Gt at h;refine BW Hd.mixed (Au Tryz.func118 eB ?_);revert h;refine Aq λy1 B8=>?_;refine TA (λCL Mg=>?_) λL7 Mg=>?_;subst Mg;refine Aq λy2 D6=>?_;let o1:List (PC P (G mx)):=[Af (Ax (Ao B8) 0),Af (PU (NO D6) 1)];refine Ag (λhv=>?_) λhv=>?_;subst hv;rintro⟨⟩;exact Aw Hd.Aa _ _ [⟨.agg (GG CL),.agg (GG CL),(.plain (BM.Cs CL))⟩] [none,pW p (Bt p.Kc 1)] (Ac 300 (o1++[pk])) (by kernel_rfl) .body;subst hv;rintro⟨⟩;exact BL Hd.Aa _ [⟨.Fv 45 (.agg [.zi 71,.zi CL.AH]),.Fv 45 (.agg [.zi 71,.zi CL.AH]),(.plain (Cn.Cs (⟨71,CL.AH⟩:Dg)))⟩] [none,bp (CP.pl p)] (Ac 300 (o1++[An (At (Am (p:=p) (err:=71) (at_:=CL.AH) rfl) 0)])) (by kernel_rfl) .body;subst Mg;rintro⟨⟩;exact BL Hd.Aa _ [gD L7] [none,bp (CP.pl p)] (Ac 300 [An (Ax (Ao B8) 0)]) (by kernel_rfl) .body
def anX:Code:=A0 Tryz.f120
def aoC:Tryz.f120.body=some anX:=by kernel_rfl
def Ak(p:Pr)(text:ByteArray):Option ((Tk⊕Dg)×Int):=(Gt p text).bind λ(Ep,Bj)=>Sum.elim (λ(Ay:Tk)=>some ((Sum.inl Ay:(Tk⊕Dg)),Bj)) (λ(CW:Dg)=>some ((Sum.inr CW:(Tk⊕Dg)),Bj)) Ep
def Ab{p:Pr}{text:ByteArray}{yR:(Tk⊕Dg)}{Ai:Int}(h:Ak  p text=some (yR,Ai)):pR mx 120 [.ptr 0 0,.zs text] p (I5 eT eD yR) Ai:=by
 unfold Ak at h;refine BW Hd.mixed (Au Tryz.func120 aoC ?_);revert h;refine BS (λAy Bj B8=>?_) λCW Bj B8=>?_;refine EC ?_;rintro rfl rfl;exact Aw Hd.Aa _ _ [⟨.agg (GG Ay),.agg (GG Ay),(.plain (BM.Cs Ay))⟩] [pW p Bj] (Ac 300 [Af (LM (Ku B8) 0 1)]) (by kernel_rfl) .body;refine EC ?_;rintro rfl rfl;exact Ih CW p Bj [An (LM (Ku B8) 0 1)] .body
def anY:Code:=A0 Tryz.f121
def aoD:Tryz.f121.body=some anY:=by kernel_rfl
def Fh(token:Tk):Option Bool:=cond (BY token.text.data.toList Hi.data.toList) (some true) (cond (BY token.text.data.toList EK.data.toList) (some true) (cond (BY token.text.data.toList JY.data.toList) (some true) (cond (CZ token.kind 2) (some true) (some false))))
def Uh{token:Tk}{yR:Bool}(h:Fh  token=some yR):Pure P (G mx) 121 [.agg (GG token)] (.zb yR):=by
 unfold Fh at h;refine CQ Hd.mixed Hd.Aa (Au Tryz.func121 aoD ?_) (A1 (BM.Cs token) rfl) rfl;revert h;refine Ag (λAW=>?_) λAW=>?_;rintro⟨⟩;exact rT [pb AW];refine Ag (λBZ=>?_) λBZ=>?_;rintro⟨⟩;exact rT [pb AW,pb BZ];refine Ag (λDz=>?_) λDz=>?_;rintro⟨⟩;exact rT [pb AW,pb BZ,pb Dz];refine Ag (λFk=>?_) λFk=>?_;rintro⟨⟩;exact rT [pb AW,pb BZ,pb Dz,pb Fk];rintro⟨⟩;exact rT [pb AW,pb BZ,pb Dz,pb Fk]
def aiX:Code:=A0 Tryz.f122
def aoE:Tryz.f122.body=some aiX:=by kernel_rfl
def EB(word:ByteArray):Option Int:=cond (BY TH.data.toList word.data.toList) (some 1) (cond (BY Mx.data.toList word.data.toList) (some 2) (cond (BY PG.data.toList word.data.toList) (some 3) (cond (BY TN.data.toList word.data.toList) (some 4) (some 0))))
def K5{word:ByteArray}{yR:Int}(h:EB  word=some yR):Pure P (G mx) 122 [.zs word] (.zi yR):=by
 unfold EB at h;refine CQ Hd.mixed Hd.Aa (Au Tryz.func122 aoE ?_) (A1 rfl rfl) rfl;revert h;refine Dy (Hb (fr2:=fr 19 [(0,.zs word),(5,.agg [.zs ByteArray.empty,.zs TH,.zs Mx,.zs PG,.zs TN]),(6,.zi 0)] [] []) (s2:=⟨[],0,[],0⟩) [] 0 (sb aiX 52) [.code (sb aiX 7)] (Ac 300 []) (by kernel_rfl)) ?_;refine Dy (Er (fr2:=fr 19 [(0,.zs word),(5,.agg [.zs ByteArray.empty,.zs TH,.zs Mx,.zs PG,.zs TN]),(6,.zi 1),(7,.zb true),(11,.zb false),(12,.zb false),(16,.zb false)] [] []) (s2:=⟨[],0,[],0⟩) [] (Ac 300 [pk,pk,pk,pk]) (by kernel_rfl)) ?_;refine Ag (λAW=>?_) λAW=>?_;rintro⟨⟩;exact AA _ _ (Ac 300 [pk,pk,pk,pb AW]) (by kernel_rfl) (.Gi (.outer .body)) .sc;refine Dy (Er (fr2:=fr 19 [(0,.zs word),(5,.agg [.zs ByteArray.empty,.zs TH,.zs Mx,.zs PG,.zs TN]),(6,.zi 2),(7,.zb true),(11,.zb true),(12,.zb true),(15,.zb false),(16,.zb false)] [] []) (s2:=⟨[],0,[],0⟩) [] (Ac 300 [pk,pk,pk,pb AW,pk]) (by kernel_rfl)) ?_;refine Ag (λBZ=>?_) λBZ=>?_;rintro⟨⟩;exact AA _ _ (Ac 300 [pk,pk,pk,pb BZ]) (by kernel_rfl) (.Gi (.outer .body)) .sc;refine Dy (Er (fr2:=fr 19 [(0,.zs word),(5,.agg [.zs ByteArray.empty,.zs TH,.zs Mx,.zs PG,.zs TN]),(6,.zi 3),(7,.zb true),(11,.zb true),(12,.zb true),(15,.zb false),(16,.zb false)] [] []) (s2:=⟨[],0,[],0⟩) [] (Ac 300 [pk,pk,pk,pb BZ,pk]) (by kernel_rfl)) ?_;refine Ag (λDz=>?_) λDz=>?_;rintro⟨⟩;exact AA _ _ (Ac 300 [pk,pk,pk,pb Dz]) (by kernel_rfl) (.Gi (.outer .body)) .sc;refine Dy (Er (fr2:=fr 19 [(0,.zs word),(5,.agg [.zs ByteArray.empty,.zs TH,.zs Mx,.zs PG,.zs TN]),(6,.zi 4),(7,.zb true),(11,.zb true),(12,.zb true),(15,.zb false),(16,.zb false)] [] []) (s2:=⟨[],0,[],0⟩) [] (Ac 300 [pk,pk,pk,pb Dz,pk]) (by kernel_rfl)) ?_;refine Ag (λFk=>?_) λFk=>?_;rintro⟨⟩;exact AA _ _ (Ac 300 [pk,pk,pk,pb Fk]) (by kernel_rfl) (.Gi (.outer .body)) .sc;refine Dy (Er (fr2:=fr 19 [(0,.zs word),(5,.agg [.zs ByteArray.empty,.zs TH,.zs Mx,.zs PG,.zs TN]),(6,.zi 5),(7,.zb true),(11,.zb true),(12,.zb true),(15,.zb false),(16,.zb false)] [] []) (s2:=⟨[],0,[],0⟩) [] (Ac 300 [pk,pk,pk,pb Fk,pk]) (by kernel_rfl)) ?_;refine fQ (DC (id:=0) (fr2:=fr 19 [(7,.zb false),(11,.zb true),(12,.zb true),(15,.zb false),(16,.zb false)] [] []) (s2:=⟨[],0,[],0⟩) (Ac 300 [pk]) (by kernel_rfl)) ?_;rintro⟨⟩;exact AA _ _ (gX 300 []) (by kernel_rfl) .body .sc
def anZ:Code:=A0 Tryz.f123
def aoF:Tryz.f123.body=some anZ:=by kernel_rfl
def BT(token:Tk):Option Bool:=(EB token.text).bind λy1=>cond (Ez 0 y1) (some true) (some false)
def LL{token:Tk}{yR:Bool}(h:BT  token=some yR):Pure P (G mx) 123 [.agg (GG token)] (.zb yR):=by
 unfold BT at h;refine CQ Hd.mixed Hd.Aa (Au Tryz.func123 aoF ?_) (A1 (BM.Cs token) rfl) rfl;revert h;refine Aq λy1 B8=>?_;refine Ag (λAW=>?_) λAW=>?_;rintro⟨⟩;exact rT [AG (K5 B8),pb AW];rintro⟨⟩;exact rT [AG (K5 B8),pb AW]
def DF(p:Pr):Option ((Tk⊕Dg)×Int):=(AD p).bind λy1=>Sum.elim (λ(CL:Tk)=>(Cz CL).bind λy2=>cond y2 (some ((Sum.inl CL:(Tk⊕Dg)),(Bt p.Kc 1))) (some ((Sum.inr (⟨71,CL.AH⟩:Dg):(Tk⊕Dg)),p.Kc))) (λ(L7:Dg)=>some ((Sum.inr L7:(Tk⊕Dg)),p.Kc)) y1
def Eb{p:Pr}{yR:(Tk⊕Dg)}{Ai:Int}(h:DF  p=some (yR,Ai)):pR mx 118 [.ptr 0 0,.fn (.func 119) [] []] p (I5 eT eD yR) Ai:=by
 unfold DF at h;refine BW Hd.mixed (Au Tryz.func118 eB ?_);revert h;refine Aq λy1 B8=>?_;refine TA (λCL Mg=>?_) λL7 Mg=>?_;subst Mg;refine Aq λy2 D6=>?_;let o1:List (PC P (G mx)):=[Af (Ax (Ao B8) 0),AG (Ox D6)];refine Ag (λhv=>?_) λhv=>?_;subst hv;rintro⟨⟩;exact Aw Hd.Aa _ _ [⟨.agg (GG CL),.agg (GG CL),(.plain (BM.Cs CL))⟩] [pW p (Bt p.Kc 1)] (Ac 300 (o1++[pk])) (by kernel_rfl) .body;subst hv;rintro⟨⟩;exact BL Hd.Aa _ [⟨.Fv 45 (.agg [.zi 71,.zi CL.AH]),.Fv 45 (.agg [.zi 71,.zi CL.AH]),(.plain (Cn.Cs (⟨71,CL.AH⟩:Dg)))⟩] [bp (CP.pl p)] (Ac 300 (o1++[An (At (Am (p:=p) (err:=71) (at_:=CL.AH) rfl) 0)])) (by kernel_rfl) .body;subst Mg;rintro⟨⟩;exact BL Hd.Aa _ [gD L7] [bp (CP.pl p)] (Ac 300 [An (Ax (Ao B8) 0)]) (by kernel_rfl) .body
def EN(p:Pr):Option ((Tk⊕Dg)×Int):=(AD p).bind λy1=>Sum.elim (λ(CL:Tk)=>(Fh CL).bind λy2=>cond y2 (some ((Sum.inl CL:(Tk⊕Dg)),(Bt p.Kc 1))) (some ((Sum.inr (⟨71,CL.AH⟩:Dg):(Tk⊕Dg)),p.Kc))) (λ(L7:Dg)=>some ((Sum.inr L7:(Tk⊕Dg)),p.Kc)) y1
def Iw{p:Pr}{yR:(Tk⊕Dg)}{Ai:Int}(h:EN  p=some (yR,Ai)):pR mx 118 [.ptr 0 0,.fn (.func 121) [] []] p (I5 eT eD yR) Ai:=by
 unfold EN at h;refine BW Hd.mixed (Au Tryz.func118 eB ?_);revert h;refine Aq λy1 B8=>?_;refine TA (λCL Mg=>?_) λL7 Mg=>?_;subst Mg;refine Aq λy2 D6=>?_;let o1:List (PC P (G mx)):=[Af (Ax (Ao B8) 0),AG (Uh D6)];refine Ag (λhv=>?_) λhv=>?_;subst hv;rintro⟨⟩;exact Aw Hd.Aa _ _ [⟨.agg (GG CL),.agg (GG CL),(.plain (BM.Cs CL))⟩] [pW p (Bt p.Kc 1)] (Ac 300 (o1++[pk])) (by kernel_rfl) .body;subst hv;rintro⟨⟩;exact BL Hd.Aa _ [⟨.Fv 45 (.agg [.zi 71,.zi CL.AH]),.Fv 45 (.agg [.zi 71,.zi CL.AH]),(.plain (Cn.Cs (⟨71,CL.AH⟩:Dg)))⟩] [bp (CP.pl p)] (Ac 300 (o1++[An (At (Am (p:=p) (err:=71) (at_:=CL.AH) rfl) 0)])) (by kernel_rfl) .body;subst Mg;rintro⟨⟩;exact BL Hd.Aa _ [gD L7] [bp (CP.pl p)] (Ac 300 [An (Ax (Ao B8) 0)]) (by kernel_rfl) .body
def F9(p:Pr):Option ((Tk⊕Dg)×Int):=(AD p).bind λy1=>Sum.elim (λ(CL:Tk)=>(BT CL).bind λy2=>cond y2 (some ((Sum.inl CL:(Tk⊕Dg)),(Bt p.Kc 1))) (some ((Sum.inr (⟨71,CL.AH⟩:Dg):(Tk⊕Dg)),p.Kc))) (λ(L7:Dg)=>some ((Sum.inr L7:(Tk⊕Dg)),p.Kc)) y1
def J1{p:Pr}{yR:(Tk⊕Dg)}{Ai:Int}(h:F9  p=some (yR,Ai)):pR mx 118 [.ptr 0 0,.fn (.func 123) [] []] p (I5 eT eD yR) Ai:=by
 unfold F9 at h;refine BW Hd.mixed (Au Tryz.func118 eB ?_);revert h;refine Aq λy1 B8=>?_;refine TA (λCL Mg=>?_) λL7 Mg=>?_;subst Mg;refine Aq λy2 D6=>?_;let o1:List (PC P (G mx)):=[Af (Ax (Ao B8) 0),AG (LL D6)];refine Ag (λhv=>?_) λhv=>?_;subst hv;rintro⟨⟩;exact Aw Hd.Aa _ _ [⟨.agg (GG CL),.agg (GG CL),(.plain (BM.Cs CL))⟩] [pW p (Bt p.Kc 1)] (Ac 300 (o1++[pk])) (by kernel_rfl) .body;subst hv;rintro⟨⟩;exact BL Hd.Aa _ [⟨.Fv 45 (.agg [.zi 71,.zi CL.AH]),.Fv 45 (.agg [.zi 71,.zi CL.AH]),(.plain (Cn.Cs (⟨71,CL.AH⟩:Dg)))⟩] [bp (CP.pl p)] (Ac 300 (o1++[An (At (Am (p:=p) (err:=71) (at_:=CL.AH) rfl) 0)])) (by kernel_rfl) .body;subst Mg;rintro⟨⟩;exact BL Hd.Aa _ [gD L7] [bp (CP.pl p)] (Ac 300 [An (Ax (Ao B8) 0)]) (by kernel_rfl) .body
def B70:Code:=A0 Tryz.f70
def b70:Tryz.f70.body=some B70:=by kernel_rfl
def DE(p:Pr):Option ((Nd⊕Dg)×Int):=(AD p).bind λy1=>Sum.elim (λ(CL:Tk)=>(DF (⟨p.Bs,(Bt p.Kc 1),p.DN⟩:Pr)).bind λ(KB,ES)=>Sum.elim (λ(C9:Tk)=>(Ak (⟨p.Bs,ES,p.DN⟩:Pr) Vy).bind λ(L8,E8)=>Sum.elim (λ(CN:Tk)=>(EN (⟨p.Bs,E8,p.DN⟩:Pr)).bind λ(WH,JM)=>Sum.elim (λ(Dm:Tk)=>cond (BY CL.text.data.toList Pe.data.toList) ((F9 (⟨p.Bs,JM,p.DN⟩:Pr)).bind λ(Nq,Hf)=>Sum.elim (λ(IF:Tk)=>(EB IF.text).bind λy6=>(Ak (⟨p.Bs,Hf,p.DN⟩:Pr) R9).bind λ(rO,Sb)=>Sum.elim (λ(VR:Tk)=>some ((Sum.inl (⟨3,C9.text,Dm.text,y6,0,0,0,(⟨0,[]⟩:Fn),[],CL.AH⟩:Nd):(Nd⊕Dg)),Sb)) (λ(P1:Dg)=>some ((Sum.inr P1:(Nd⊕Dg)),Sb)) rO) (λ(Hk:Dg)=>some ((Sum.inr Hk:(Nd⊕Dg)),Hf)) Nq) ((Ak (⟨p.Bs,JM,p.DN⟩:Pr) R9).bind λ(Z3,L0)=>Sum.elim (λ(Hc:Tk)=>some ((Sum.inl (⟨2,C9.text,Dm.text,0,0,0,0,(⟨0,[]⟩:Fn),[],CL.AH⟩:Nd):(Nd⊕Dg)),L0)) (λ(LZ:Dg)=>some ((Sum.inr LZ:(Nd⊕Dg)),L0)) Z3)) (λ(IE:Dg)=>some ((Sum.inr IE:(Nd⊕Dg)),JM)) WH) (λ(EE:Dg)=>some ((Sum.inr EE:(Nd⊕Dg)),E8)) L8) (λ(Hj:Dg)=>some ((Sum.inr Hj:(Nd⊕Dg)),ES)) KB) (λ(L7:Dg)=>some ((Sum.inr L7:(Nd⊕Dg)),p.Kc)) y1
def Ea{p:Pr}{yR:(Nd⊕Dg)}{Ai:Int}(h:DE  p=some (yR,Ai)):pR mx 70 [.ptr 0 0] p (I5 eN eD yR) Ai:=by
 unfold DE at h;refine BW Hd.mixed (Au Tryz.func70 b70 ?_);revert h;refine Aq λy1 B8=>?_;refine TA (λCL Mg=>?_) λL7 Mg=>?_;subst Mg;let o1:List (PC P (G mx)):=[Af (Ax (Ao B8) 0),pk];refine BS (λC9 ES D6=>?_) λHj ES D6=>?_;let o2:List (PC P (G mx)):=o1++[Af (Im (Eb D6) 0)];refine BS (λCN E8 Fu=>?_) λEE E8 Fu=>?_;let o3:List (PC P (G mx)):=o2++[Af (Im (Ab Fu) 0)];refine BS (λDm JM JU=>?_) λIE JM JU=>?_;let o4:List (PC P (G mx)):=o3++[Af (Im (Iw JU) 0)];refine Ag (λAW=>?_) λAW=>?_;refine BS (λIF Hf Ke=>?_) λHk Hf Ke=>?_;refine Aq λy6 L4=>?_;let o5:List (PC P (G mx)):=o4++[pb AW,Af (Im (J1 Ke) 0),AG (K5 L4)];refine BS (λVR Sb Sf=>?_) λP1 Sb Sf=>?_;refine EC ?_;rintro rfl rfl;exact Aw Hd.Aa _ _ [⟨.agg [.zi 3,.zs C9.text,.zs Dm.text,.zi y6,.zi 0,.zi 0,.zi 0,.zi 0,.sl .full 0 [],.sl .full 0 [],.zi CL.AH],.agg [.zi 3,.zs C9.text,.zs Dm.text,.zi y6,.zi 0,.zi 0,.zi 0,.zi 0,.sl .lost ([].length) (rows IR []),.sl .lost ([].length) (BH []),.zi CL.AH],(.wn (.g (.r (.r (.r (.r (.r (.r (.r (.r (.z (.z (.r .nil))))))))))) .nil) (AE.Cs (⟨3,C9.text,Dm.text,y6,0,0,0,(⟨0,[]⟩:Fn),[],CL.AH⟩:Nd)))⟩] [pW p Sb] (Ac 300 (o5++[Af (Im (Ab Sf) 0)])) (by kernel_rfl) .body;refine EC ?_;rintro rfl rfl;exact Ih P1 p Sb (o5++[An (Im (Ab Sf) 0)]) .body;refine EC ?_;rintro rfl rfl;exact Ih Hk p Hf (o4++[pb AW,An (Im (J1 Ke) 0)]) .body;refine BS (λHc L0 N5=>?_) λLZ L0 N5=>?_;refine EC ?_;rintro rfl rfl;exact Aw Hd.Aa _ _ [⟨.agg [.zi 2,.zs C9.text,.zs Dm.text,.zi 0,.zi 0,.zi 0,.zi 0,.zi 0,.sl .full 0 [],.sl .full 0 [],.zi CL.AH],.agg [.zi 2,.zs C9.text,.zs Dm.text,.zi 0,.zi 0,.zi 0,.zi 0,.zi 0,.sl .lost ([].length) (rows IR []),.sl .lost ([].length) (BH []),.zi CL.AH],(.wn (.g (.r (.r (.r (.r (.r (.r (.r (.r (.z (.z (.r .nil))))))))))) .nil) (AE.Cs (⟨2,C9.text,Dm.text,0,0,0,0,(⟨0,[]⟩:Fn),[],CL.AH⟩:Nd)))⟩] [pW p L0] (Ac 300 (o4++[pb AW,Af (Im (Ab N5) 0)])) (by kernel_rfl) .body;refine EC ?_;rintro rfl rfl;exact Ih LZ p L0 (o4++[pb AW,An (Im (Ab N5) 0)]) .body;refine EC ?_;rintro rfl rfl;exact Ih IE p JM (o3++[An (Im (Iw JU) 0)]) .body;refine EC ?_;rintro rfl rfl;exact Ih EE p E8 (o2++[An (Im (Ab Fu) 0)]) .body;refine EC ?_;rintro rfl rfl;exact Ih Hj p ES (o1++[An (Im (Eb D6) 0)]) .body;subst Mg;refine EC ?_;rintro rfl rfl;exact BL Hd.Aa _ [gD L7] [bp (CP.pl p)] (Ac 300 [An (Ax (Ao B8) 0)]) (by kernel_rfl) .body
def aoh:Code:=A0 Tryz.f172
def ao1:Tryz.f172.body=some aoh:=by kernel_rfl
def Eu(token:Tk):Option Bool:=cond (CZ token.kind 3) (some true) (some false)
def NP{token:Tk}{yR:Bool}(h:Eu  token=some yR):Pure P (G mx) 172 [.agg (GG token)] (.zb yR):=by
 unfold Eu at h;refine CQ Hd.mixed Hd.Aa (Au Tryz.func172 ao1 ?_) (A1 (BM.Cs token) rfl) rfl;revert h;refine Ag (λAW=>?_) λAW=>?_;rintro⟨⟩;exact rT [pb AW];rintro⟨⟩;exact rT [pb AW]
def H5(p:Pr):Option ((Tk⊕Dg)×Int):=(AD p).bind λy1=>Sum.elim (λ(CL:Tk)=>(Eu CL).bind λy2=>cond y2 (some ((Sum.inl CL:(Tk⊕Dg)),(Bt p.Kc 1))) (some ((Sum.inr (⟨71,CL.AH⟩:Dg):(Tk⊕Dg)),p.Kc))) (λ(L7:Dg)=>some ((Sum.inr L7:(Tk⊕Dg)),p.Kc)) y1
def Jv{p:Pr}{yR:(Tk⊕Dg)}{Ai:Int}(h:H5  p=some (yR,Ai)):pR mx 118 [.ptr 0 0,.fn (.func 172) [] []] p (I5 eT eD yR) Ai:=by
 unfold H5 at h;refine BW Hd.mixed (Au Tryz.func118 eB ?_);revert h;refine Aq λy1 B8=>?_;refine TA (λCL Mg=>?_) λL7 Mg=>?_;subst Mg;refine Aq λy2 D6=>?_;let o1:List (PC P (G mx)):=[Af (Ax (Ao B8) 0),AG (NP D6)];refine Ag (λhv=>?_) λhv=>?_;subst hv;rintro⟨⟩;exact Aw Hd.Aa _ _ [⟨.agg (GG CL),.agg (GG CL),(.plain (BM.Cs CL))⟩] [pW p (Bt p.Kc 1)] (Ac 300 (o1++[pk])) (by kernel_rfl) .body;subst hv;rintro⟨⟩;exact BL Hd.Aa _ [⟨.Fv 45 (.agg [.zi 71,.zi CL.AH]),.Fv 45 (.agg [.zi 71,.zi CL.AH]),(.plain (Cn.Cs (⟨71,CL.AH⟩:Dg)))⟩] [bp (CP.pl p)] (Ac 300 (o1++[An (At (Am (p:=p) (err:=71) (at_:=CL.AH) rfl) 0)])) (by kernel_rfl) .body;subst Mg;rintro⟨⟩;exact BL Hd.Aa _ [gD L7] [bp (CP.pl p)] (Ac 300 [An (Ax (Ao B8) 0)]) (by kernel_rfl) .body
def aob:Code:=A0 Tryz.f155
def aoV:Tryz.f155.body=some aob:=by kernel_rfl
def EX(p:Pr):Option (((Int×Int)⊕Dg)×Int):=(H5 p).bind λ(Ep,Bj)=>Sum.elim (λ(Ay:Tk)=>(Sn Ay.text).bind λ(KB,ES)=>some ((Sum.inl (KB,Ay.AH):((Int×Int)⊕Dg)),Bj)) (λ(CW:Dg)=>some ((Sum.inr CW:((Int×Int)⊕Dg)),Bj)) Ep
def Fq{p:Pr}{yR:((Int×Int)⊕Dg)}{Ai:Int}(h:EX  p=some (yR,Ai)):pR mx 155 [.ptr 0 0] p (I5 eJ eD yR) Ai:=by
 unfold EX at h;refine BW Hd.mixed (Au Tryz.func155 aoV ?_);revert h;refine BS (λAy Bj B8=>?_) λCW Bj B8=>?_;refine Aq ?_;rintro⟨KB,ES⟩ D6;dsimp only;refine EC ?_;rintro rfl rfl;exact Aw Hd.Aa _ _ [⟨.C6 [.zi KB,.zi Ay.AH],.C6 [.zi KB,.zi Ay.AH],(.plain (A1 rfl (A1 rfl rfl)))⟩] [pW p Bj] (Ac 300 [Af (Im (Jv B8) 0),AG (rX D6)]) (by kernel_rfl) .body;refine EC ?_;rintro rfl rfl;exact Ih CW p Bj [An (Im (Jv B8) 0)] .body
def an0:Code:=A0 Tryz.f124
def aoG:Tryz.f124.body=some an0:=by kernel_rfl
def AL(p:Pr)(least:Int):Option (((Int×Int)⊕Dg)×Int):=(EX p).bind λ(Ep,Bj)=>Sum.elim (λ(Ay:(Int×Int))=>cond (Ez Ay.1 least) (some ((Sum.inr (⟨3,Ay.2⟩:Dg):((Int×Int)⊕Dg)),Bj)) (cond (Ez 1000000 Ay.1) (some ((Sum.inr (⟨3,Ay.2⟩:Dg):((Int×Int)⊕Dg)),Bj)) (some ((Sum.inl (Ay.1,Ay.2):((Int×Int)⊕Dg)),Bj)))) (λ(CW:Dg)=>some ((Sum.inr CW:((Int×Int)⊕Dg)),Bj)) Ep
def Al{p:Pr}{least:Int}{yR:((Int×Int)⊕Dg)}{Ai:Int}(h:AL  p least=some (yR,Ai)):pR mx 124 [.ptr 0 0,.zi least] p (I5 eJ eD yR) Ai:=by
 unfold AL at h;refine BW Hd.mixed (Au Tryz.func124 aoG ?_);revert h;refine BS (λAy Bj B8=>?_) λCW Bj B8=>?_;let o1:List (PC P (G mx)):=[Af (Nw (Fq B8) 0)];refine Ag (λAW=>?_) λAW=>?_;refine EC ?_;rintro rfl rfl;exact BL Hd.Aa _ [⟨.Fv 45 (.agg [.zi 3,.zi Ay.2]),.Fv 45 (.agg [.zi 3,.zi Ay.2]),(.plain (Cn.Cs (⟨3,Ay.2⟩:Dg)))⟩] [pW p Bj] (Ac 300 (o1++[pb AW,An (At (Am (p:=(⟨p.Bs,Bj,p.DN⟩:Pr)) (err:=3) (at_:=Ay.2) rfl) 0)])) (by kernel_rfl) .body;refine Ag (λBZ=>?_) λBZ=>?_;refine EC ?_;rintro rfl rfl;exact BL Hd.Aa _ [⟨.Fv 45 (.agg [.zi 3,.zi Ay.2]),.Fv 45 (.agg [.zi 3,.zi Ay.2]),(.plain (Cn.Cs (⟨3,Ay.2⟩:Dg)))⟩] [pW p Bj] (Ac 300 (o1++[pb AW,pb BZ,An (At (Am (p:=(⟨p.Bs,Bj,p.DN⟩:Pr)) (err:=3) (at_:=Ay.2) rfl) 0)])) (by kernel_rfl) .body;refine EC ?_;rintro rfl rfl;exact Aw Hd.Aa _ _ [⟨.C6 [.zi Ay.1,.zi Ay.2],.C6 [.zi Ay.1,.zi Ay.2],(.plain (A1 rfl (A1 rfl rfl)))⟩] [pW p Bj] (Ac 300 (o1++[pb AW,pb BZ])) (by kernel_rfl) .body;refine EC ?_;rintro rfl rfl;exact Ih CW p Bj [An (Nw (Fq B8) 0)] .body
def B37:Code:=A0 Tryz.f37
def b37:Tryz.f37.body=some B37:=by kernel_rfl
def As(p:Pr)(text:ByteArray):Option Bool:=cond (Ez p.Kc ((p.Bs.length:Nat):Int)) ((HU p.Bs p.Kc).bind λx1=>(some (BY x1.text.data.toList text.data.toList)).bind λq2=>some q2) (some false)
def Ah{p:Pr}{text:ByteArray}{yR:Bool}(h:As  p text=some yR):Sound P (G mx) (.call 37 [.ptr 0 0,.zs text] (pZ p) (.ret (.zb yR)) (pZ p)):=by
 unfold As at h;refine BW Hd.mixed (Au Tryz.func37 b37 ?_);revert h;refine Ag (λAW=>?_) λAW=>?_;refine Aq λx1 w7=>?_;refine Aq λq2 Z5=>?_;rintro⟨⟩;exact Aw Hd.Aa _ _ [] [bp (CP.pl p)] (Ac 300 [pb AW,Jw (abV .lost w7),NQ (anR Z5 (.tmp 26) (.tmp 27))]) (by kernel_rfl) .body;rintro⟨⟩;exact Aw Hd.Aa _ _ [] [bp (CP.pl p)] (Ac 300 [pb AW]) (by kernel_rfl) .body
def aoi:Code:=A0 Tryz.f174
def ao2:Tryz.f174.body=some aoi:=by kernel_rfl
def EV(token:Tk):Option Bool:=cond (CZ token.kind 5) (some true) (some false)
def O0{token:Tk}{yR:Bool}(h:EV  token=some yR):Pure P (G mx) 174 [.agg (GG token)] (.zb yR):=by
 unfold EV at h;refine CQ Hd.mixed Hd.Aa (Au Tryz.func174 ao2 ?_) (A1 (BM.Cs token) rfl) rfl;revert h;refine Ag (λAW=>?_) λAW=>?_;rintro⟨⟩;exact rT [pb AW];rintro⟨⟩;exact rT [pb AW]
def aom:Code:=A0 Tryz.f212
def ao8:Tryz.f212.body=some aom:=by kernel_rfl
def Gn(year:Int)(month:Int):Option Int:=(HU beforeL (Bt month 1)).bind λx1=>(HU beforeL month).bind λx2=>cond (CZ month 1) (cond (CZ (nB year 4) 0) (some (Bt (L6 x1 x2) 1)) (some (L6 x1 x2))) (some (L6 x1 x2))
def Q3{year:Int}{month:Int}{yR:Int}(h:Gn  year month=some yR):Pure P (G mx) 212 [.zi year,.zi month] (.zi yR):=by
 unfold Gn at h;refine CQ Hd.mixed Hd.Aa (Au Tryz.func212 ao8 ?_) (A1 rfl (A1 rfl rfl)) rfl;revert h;refine Aq λx1 w7=>?_;refine Aq λx2 hx2=>?_;let o1:List (PC P (G mx)):=[pk,Jw (pY w7),Jw (pY hx2),pk];refine Ag (λAW=>?_) λAW=>?_;refine Ag (λBZ=>?_) λBZ=>?_;rintro⟨⟩;exact rT (o1++[pb AW,pk,pb BZ,pk]);rintro⟨⟩;exact rT (o1++[pb AW,pk,pb BZ]);rintro⟨⟩;exact rT (o1++[pb AW])
def aor:Code:=A0 Tryz.f227
def apd:Tryz.f227.body=some aor:=by kernel_rfl
def JQ(year:Int):Option Int:=some (Bt (BQ (L6 year 2000) 365) (zM (Bt (L6 year 2000) 3) 4))
def Qa{year:Int}{yR:Int}(h:JQ  year=some yR):Pure P (G mx) 227 [.zi year] (.zi yR):=by
 unfold JQ at h;refine CQ Hd.mixed Hd.Aa (Au Tryz.func227 apd ?_) (A1 rfl rfl) rfl;revert h;rintro⟨⟩;exact rT [pk,pk,pk,pk,pk]
def aon:Code:=A0 Tryz.f213
def ao9:Tryz.f213.body=some aon:=by kernel_rfl
def Ip(month:Int):Option Int:=cond (Ez month 0) (some (-1)) (cond (Ez 1199 month) (some (-1)) ((JQ (Bt 2000 (zM month 12))).bind λy1=>(HU beforeL (nB month 12)).bind λx2=>cond (Ez 1 (nB month 12)) (cond (CZ (nB (Bt 2000 (zM month 12)) 4) 0) (some (Bt (Bt y1 x2) 1)) (some (Bt y1 x2))) (some (Bt y1 x2))))
def Tp{month:Int}{yR:Int}(h:Ip  month=some yR):Pure P (G mx) 213 [.zi month] (.zi yR):=by
 unfold Ip at h;refine CQ Hd.mixed Hd.Aa (Au Tryz.func213 ao9 ?_) (A1 rfl rfl) rfl;revert h;refine Ag (λAW=>?_) λAW=>?_;rintro⟨⟩;exact rT [pb AW];refine Ag (λBZ=>?_) λBZ=>?_;rintro⟨⟩;exact rT [pb AW,pb BZ];refine Aq λy1 B8=>?_;refine Aq λx2 hx2=>?_;let o1:List (PC P (G mx)):=[pb AW,pb BZ,pk,pk,AG (Qa B8),pk,Jw (pY hx2),pk,pk];refine Ag (λDz=>?_) λDz=>?_;refine Ag (λFk=>?_) λFk=>?_;rintro⟨⟩;exact rT (o1++[pb Dz,pk,pb Fk,pk]);rintro⟨⟩;exact rT (o1++[pb Dz,pk,pb Fk]);rintro⟨⟩;exact rT (o1++[pb Dz])
def aok:Code:=A0 Tryz.f195
def ao6:Tryz.f195.body=some aok:=by kernel_rfl
def JP(year:Int)(month:Int)(day:Int):Option (Int×Int):=cond (Ez year 2000) (some (0,21)) (cond (Ez 2099 year) (some (0,21)) (cond (Ez month 1) (some (0,21)) (cond (Ez 12 month) (some (0,21)) (cond (Ez day 1) (some (0,21)) ((Gn year (L6 month 1)).bind λy1=>cond (Ez y1 day) (some (0,21)) ((Ip (L6 (Bt (BQ (L6 year 2000) 12) month) 1)).bind λy2=>some ((L6 (Bt y2 day) 1),0)))))))
def U3{year:Int}{month:Int}{day:Int}{yR:(Int×Int)}(h:JP  year month day=some yR):Pure P (G mx) 195 [.zi year,.zi month,.zi day] (.C6 [.zi yR.1,.zi yR.2]):=by
 unfold JP at h;refine CQ Hd.mixed Hd.Aa (Au Tryz.func195 ao6 ?_) (A1 rfl (A1 rfl (A1 rfl rfl))) (A1 rfl (A1 rfl rfl));revert h;refine Ag (λAW=>?_) λAW=>?_;rintro⟨⟩;exact AA _ _ (Ac 300 [pb AW]) (by kernel_rfl) .body (.plain (A1 rfl (A1 rfl rfl)));refine Ag (λBZ=>?_) λBZ=>?_;rintro⟨⟩;exact AA _ _ (Ac 300 [pb AW,pb BZ]) (by kernel_rfl) .body (.plain (A1 rfl (A1 rfl rfl)));refine Ag (λDz=>?_) λDz=>?_;rintro⟨⟩;exact AA _ _ (Ac 300 [pb AW,pb BZ,pb Dz]) (by kernel_rfl) .body (.plain (A1 rfl (A1 rfl rfl)));refine Ag (λFk=>?_) λFk=>?_;rintro⟨⟩;exact AA _ _ (Ac 300 [pb AW,pb BZ,pb Dz,pb Fk]) (by kernel_rfl) .body (.plain (A1 rfl (A1 rfl rfl)));refine Ag (λHY=>?_) λHY=>?_;rintro⟨⟩;exact AA _ _ (Ac 300 [pb AW,pb BZ,pb Dz,pb Fk,pb HY]) (by kernel_rfl) .body (.plain (A1 rfl (A1 rfl rfl)));refine Aq λy1 B8=>?_;let o1:List (PC P (G mx)):=[pb AW,pb BZ,pb Dz,pb Fk,pb HY,pk,AG (Q3 B8)];refine Ag (λIN=>?_) λIN=>?_;rintro⟨⟩;exact AA _ _ (Ac 300 (o1++[pb IN])) (by kernel_rfl) .body (.plain (A1 rfl (A1 rfl rfl)));refine Aq λy2 D6=>?_;rintro⟨⟩;exact AA _ _ (Ac 300 (o1++[pb IN,pk,pk,pk,pk,AG (Tp D6),pk,pk])) (by kernel_rfl) .body (.plain (A1 rfl (A1 rfl rfl)))
def ai2:Code:=A0 Tryz.f175
def ao3:Tryz.f175.body=some ai2:=by kernel_rfl
def B7(i0:Nat)(e0:UInt8)(Lj:Int)(Fb:Int)(BB:Int)(VL:Int):Option (Lp (Int×Int×Int×Int) (Int×Int×Int) (Int×Int)):=cond (CZ ((i0:Nat):Int) 4) (cond (CZ ((e0.toNat:Nat):Int) 45) (some (.nx ((Bt Lj 1),Fb,BB,VL))) (some (.rt (0,12)))) (cond (CZ ((i0:Nat):Int) 7) (cond (CZ ((e0.toNat:Nat):Int) 45) (some (.nx ((Bt Lj 1),Fb,BB,VL))) (some (.rt (0,12)))) (cond (Ez ((e0.toNat:Nat):Int) 48) (some (.rt (0,12))) (cond (Ez 57 ((e0.toNat:Nat):Int)) (some (.rt (0,12))) (cond (CZ Lj 0) (some (.nx (Lj,(Bt (BQ Fb 10) (w64 (Ny .u8 (hO ((e0.toNat:Nat):Int) 48)))),BB,VL))) (cond (CZ Lj 1) (some (.nx (Lj,Fb,(Bt (BQ BB 10) (w64 (Ny .u8 (hO ((e0.toNat:Nat):Int) 48)))),VL))) (cond (CZ Lj 2) (some (.nx (Lj,Fb,BB,(Bt (BQ VL 10) (w64 (Ny .u8 (hO ((e0.toNat:Nat):Int) 48))))))) (none)))))))
def FA(text:ByteArray):Option (Int×Int):=cond (CZ ((text.data.toList.length:Nat):Int) 10) ((RT text.data.toList.length (CO (λi y x=>B7   i y x.1 x.2.1 x.2.2.1 x.2.2.2) (λx=>(x.2.1,x.2.2.1,x.2.2.2)) (text.data.toList.drop 0) 0 (0,0,0,0))).bind (Ma (λ((ad1,ad2,ad4):(Int×Int×Int))=>(JP ad1 ad2 ad4).bind λ(KB,ES)=>some (KB,ES)) (λv=>some v))) (some (0,12))
def Tq{text:ByteArray}{yR:(Int×Int)}(h:FA  text=some yR):Pure P (G mx) 175 [.zs text] (.C6 [.zi yR.1,.zi yR.2]):=by
 unfold FA at h;refine CQ Hd.mixed Hd.Aa (Au Tryz.func175 ao3 ?_) (A1 rfl rfl) (A1 rfl (A1 rfl rfl));revert h;refine Ag (λAW=>?_) λAW=>?_;refine R3 (λQ v=>KD P Tryz.f175 0 Q (.C6 [.zi v.1,.zi v.2])) (λi0 ((Lj,Fb,BB,VL):(Int×Int×Int×Int)) (j0:List Value)=>fr 58 [(0,.zs text),(4,.ptr 0 0),(5,.zi Lj),(13,.zi ((text.data.toList.length:Nat):Int)),(14,.zi ((i0:Nat):Int))] [10,15,30,32,33,35,36,38,41,43,44,46,47] j0) (λ((Lj,Fb,BB,VL):(Int×Int×Int×Int))=>⟨[(0,.cells [.zi Fb,.zi BB,.zi VL])],1,[],0⟩) (λ((Fb,BB,VL):(Int×Int×Int)) (jx:List Value)=>fr 58 [(4,.ptr 0 0)] [10,15,30,32,33,35,36,38,41,43,44,46,47] jx) (λ((Fb,BB,VL):(Int×Int×Int))=>⟨[(0,.cells [.zi Fb,.zi BB,.zi VL])],1,[],0⟩) [bF] (Hb [] 0 (sb ai2 500) [.code (sb ai2 63)] (Ac 300 [pn AW]) (by kernel_rfl)) ?_ ?_ ?_ (λv h=>by cases h;exact .outer .body);rintro i0 ⟨Lj,Fb,BB,VL⟩ j0 N4 hq;exact DC (Ac 300 [pb (iT N4)]) (by kernel_rfl) (hq (js 13 j0 [(1,bF)]));rintro i0 e0 ⟨Lj,Fb,BB,VL⟩ j0 r Qf Pa P4 k;show B7   i0 e0 Lj Fb BB VL=some r->_;unfold B7;let o1:List (PC P (G mx)):=[pb (XM Pa),SL (Xm Qf)];refine Ag (λBZ=>?_) λBZ=>?_;refine Ag (λDz=>?_) λDz=>?_;rintro⟨⟩;exact He (Ac 300 (o1++[pb BZ,pn Dz,pk,pi P4])) (by kernel_rfl) (k (js 13 j0 [(1,bT),(2,bT),(3,bT),(4,bT),(5,undef),(6,bT),(7,bF)]));rintro⟨⟩;exact AA _ _ (Ac 300 (o1++[pb BZ,pn Dz])) (by kernel_rfl) (.Gi k) (.plain (A1 rfl (A1 rfl rfl)));refine Ag (λFk=>?_) λFk=>?_;refine Ag (λHY=>?_) λHY=>?_;rintro⟨⟩;exact He (Ac 300 (o1++[pb BZ,pb Fk,pn HY,pk,pi P4])) (by kernel_rfl) (k (js 13 j0 [(1,bT),(2,bT),(3,bF),(4,bF),(5,bT),(6,bT),(7,bF)]));rintro⟨⟩;exact AA _ _ (Ac 300 (o1++[pb BZ,pb Fk,pn HY])) (by kernel_rfl) (.Gi k) (.plain (A1 rfl (A1 rfl rfl)));refine Ag (λIN=>?_) λIN=>?_;rintro⟨⟩;exact AA _ _ (Ac 300 (o1++[pb BZ,pb Fk,pb IN])) (by kernel_rfl) (.Gi k) (.plain (A1 rfl (A1 rfl rfl)));refine Ag (λJb=>?_) λJb=>?_;rintro⟨⟩;exact AA _ _ (Ac 300 (o1++[pb BZ,pb Fk,pb IN,pb Jb])) (by kernel_rfl) (.Gi k) (.plain (A1 rfl (A1 rfl rfl)));refine Ag (λKx=>?_) λKx=>?_;rintro⟨⟩;exact He (Ac 300 (o1++[pb BZ,pb Fk,pb IN,pb Jb,Jw (t:=173) (a:=.ptr 0 0) (b:=.zi Lj) (v:=.ptr 0 0) (by rw[Fe Kx];kernel_rfl),pk,pk,pk,Jw (t:=173) (a:=.ptr 0 0) (b:=.zi Lj) (v:=.ptr 0 0) (by rw[Fe Kx];kernel_rfl),pi P4])) (by kernel_rfl) (k [(jv j0 0),bT,bF,bF,bF,bF,bF,(jv j0 7),bF,bF,bF,bF,bF]);refine Ag (λKq=>?_) λKq=>?_;rintro⟨⟩;exact He (Ac 300 (o1++[pb BZ,pb Fk,pb IN,pb Jb,Jw (t:=173) (a:=.ptr 0 0) (b:=.zi Lj) (v:=.ptr 0 1) (by rw[Fe Kq];kernel_rfl),pk,pk,pk,Jw (t:=173) (a:=.ptr 0 0) (b:=.zi Lj) (v:=.ptr 0 1) (by rw[Fe Kq];kernel_rfl),pi P4])) (by kernel_rfl) (k [(jv j0 0),bT,bF,bF,bF,bF,bF,(jv j0 7),bF,bF,bF,bF,bF]);refine Ag (λGP=>?_) λGP=>?_;rintro⟨⟩;exact He (Ac 300 (o1++[pb BZ,pb Fk,pb IN,pb Jb,Jw (t:=173) (a:=.ptr 0 0) (b:=.zi Lj) (v:=.ptr 0 2) (by rw[Fe GP];kernel_rfl),pk,pk,pk,Jw (t:=173) (a:=.ptr 0 0) (b:=.zi Lj) (v:=.ptr 0 2) (by rw[Fe GP];kernel_rfl),pi P4])) (by kernel_rfl) (k [(jv j0 0),bT,bF,bF,bF,bF,bF,(jv j0 7),bF,bF,bF,bF,bF]);exact fY;rintro⟨ad1,ad2,ad4⟩ aqw;dsimp only;refine Aq ?_;rintro⟨KB,ES⟩ D6;dsimp only;rintro⟨⟩;exact AA _ _ (IV 300 [pk,pk,pk,AG (U3 D6)]) (by kernel_rfl) .body (.plain (A1 rfl (A1 rfl rfl)));rintro⟨⟩;exact AA _ _ (Ac 300 [pn AW]) (by kernel_rfl) .body (.plain (A1 rfl (A1 rfl rfl)))
def Hg(p:Pr):Option ((Tk⊕Dg)×Int):=(AD p).bind λy1=>Sum.elim (λ(CL:Tk)=>(EV CL).bind λy2=>cond y2 (some ((Sum.inl CL:(Tk⊕Dg)),(Bt p.Kc 1))) (some ((Sum.inr (⟨71,CL.AH⟩:Dg):(Tk⊕Dg)),p.Kc))) (λ(L7:Dg)=>some ((Sum.inr L7:(Tk⊕Dg)),p.Kc)) y1
def I1{p:Pr}{yR:(Tk⊕Dg)}{Ai:Int}(h:Hg  p=some (yR,Ai)):pR mx 118 [.ptr 0 0,.fn (.func 174) [] []] p (I5 eT eD yR) Ai:=by
 unfold Hg at h;refine BW Hd.mixed (Au Tryz.func118 eB ?_);revert h;refine Aq λy1 B8=>?_;refine TA (λCL Mg=>?_) λL7 Mg=>?_;subst Mg;refine Aq λy2 D6=>?_;let o1:List (PC P (G mx)):=[Af (Ax (Ao B8) 0),AG (O0 D6)];refine Ag (λhv=>?_) λhv=>?_;subst hv;rintro⟨⟩;exact Aw Hd.Aa _ _ [⟨.agg (GG CL),.agg (GG CL),(.plain (BM.Cs CL))⟩] [pW p (Bt p.Kc 1)] (Ac 300 (o1++[pk])) (by kernel_rfl) .body;subst hv;rintro⟨⟩;exact BL Hd.Aa _ [⟨.Fv 45 (.agg [.zi 71,.zi CL.AH]),.Fv 45 (.agg [.zi 71,.zi CL.AH]),(.plain (Cn.Cs (⟨71,CL.AH⟩:Dg)))⟩] [bp (CP.pl p)] (Ac 300 (o1++[An (At (Am (p:=p) (err:=71) (at_:=CL.AH) rfl) 0)])) (by kernel_rfl) .body;subst Mg;rintro⟨⟩;exact BL Hd.Aa _ [gD L7] [bp (CP.pl p)] (Ac 300 [An (Ax (Ao B8) 0)]) (by kernel_rfl) .body
def aoc:Code:=A0 Tryz.f156
def aoW:Tryz.f156.body=some aoc:=by kernel_rfl
def DZ(p:Pr)(least:Int):Option ((Int⊕Dg)×Int):=(Hg p).bind λ(Ep,Bj)=>Sum.elim (λ(Ay:Tk)=>(FA Ay.text).bind λ(KB,ES)=>cond (CZ ES 0) (cond (Ez KB least) (some ((Sum.inr (⟨21,Ay.AH⟩:Dg):(Int⊕Dg)),Bj)) (some ((Sum.inl KB:(Int⊕Dg)),Bj))) (some ((Sum.inr (⟨21,Ay.AH⟩:Dg):(Int⊕Dg)),Bj))) (λ(CW:Dg)=>some ((Sum.inr CW:(Int⊕Dg)),Bj)) Ep
def CK{p:Pr}{least:Int}{yR:(Int⊕Dg)}{Ai:Int}(h:DZ  p least=some (yR,Ai)):pR mx 156 [.ptr 0 0,.zi least] p (I5 eI eD yR) Ai:=by
 unfold DZ at h;refine BW Hd.mixed (Au Tryz.func156 aoW ?_);revert h;refine BS (λAy Bj B8=>?_) λCW Bj B8=>?_;refine Aq ?_;rintro⟨KB,ES⟩ D6;dsimp only;let o1:List (PC P (G mx)):=[Af (Im (I1 B8) 0),AG (Tq D6)];refine Ag (λAW=>?_) λAW=>?_;refine Ag (λBZ=>?_) λBZ=>?_;refine EC ?_;rintro rfl rfl;exact BL Hd.Aa _ [⟨.Fv 45 (.agg [.zi 21,.zi Ay.AH]),.Fv 45 (.agg [.zi 21,.zi Ay.AH]),(.plain (Cn.Cs (⟨21,Ay.AH⟩:Dg)))⟩] [pW p Bj] (Ac 300 (o1++[pn AW,pb BZ,An (At (Am (p:=(⟨p.Bs,Bj,p.DN⟩:Pr)) (err:=21) (at_:=Ay.AH) rfl) 0)])) (by kernel_rfl) .body;refine EC ?_;rintro rfl rfl;exact Aw Hd.Aa _ _ [] [pW p Bj] (Ac 300 (o1++[pn AW,pb BZ])) (by kernel_rfl) .body;refine EC ?_;rintro rfl rfl;exact BL Hd.Aa _ [⟨.Fv 45 (.agg [.zi 21,.zi Ay.AH]),.Fv 45 (.agg [.zi 21,.zi Ay.AH]),(.plain (Cn.Cs (⟨21,Ay.AH⟩:Dg)))⟩] [pW p Bj] (Ac 300 (o1++[pn AW,An (At (Am (p:=(⟨p.Bs,Bj,p.DN⟩:Pr)) (err:=21) (at_:=Ay.AH) rfl) 0)])) (by kernel_rfl) .body;refine EC ?_;rintro rfl rfl;exact Ih CW p Bj [An (Im (I1 B8) 0)] .body
def an1:Code:=A0 Tryz.f125
def aoH:Tryz.f125.body=some an1:=by kernel_rfl
def Hu(p:Pr):Option ((Nd⊕Dg)×Int):=(Ak p uC).bind λ(Ep,Bj)=>Sum.elim (λ(Ay:Tk)=>(AL (⟨p.Bs,Bj,p.DN⟩:Pr) 0).bind λ(KB,ES)=>Sum.elim (λ(C9:(Int×Int))=>(Ak (⟨p.Bs,ES,p.DN⟩:Pr) sL).bind λ(L8,E8)=>Sum.elim (λ(CN:Tk)=>(DZ (⟨p.Bs,E8,p.DN⟩:Pr) 0).bind λ(WH,JM)=>Sum.elim (λ(Dm:Int)=>(As (⟨p.Bs,JM,p.DN⟩:Pr) toS).bind λy5=>cond y5 ((DZ (⟨p.Bs,(Bt JM 1),p.DN⟩:Pr) (Bt Dm 1)).bind λ(Z7,N0)=>Sum.elim (λ(Jl:Int)=>(Ak (⟨p.Bs,N0,p.DN⟩:Pr) V9).bind λ(rO,Sb)=>Sum.elim (λ(VR:Tk)=>(DZ (⟨p.Bs,Sb,p.DN⟩:Pr) 0).bind λ(Z3,L0)=>Sum.elim (λ(Hc:Int)=>some ((Sum.inl (⟨5,ByteArray.empty,ByteArray.empty,C9.1,Dm,Jl,Hc,(⟨0,[]⟩:Fn),[],Ay.AH⟩:Nd):(Nd⊕Dg)),L0)) (λ(LZ:Dg)=>some ((Sum.inr LZ:(Nd⊕Dg)),L0)) Z3) (λ(P1:Dg)=>some ((Sum.inr P1:(Nd⊕Dg)),Sb)) rO) (λ(Nr:Dg)=>some ((Sum.inr Nr:(Nd⊕Dg)),N0)) Z7) ((Ak (⟨p.Bs,JM,p.DN⟩:Pr) V9).bind λ(n8,VS)=>Sum.elim (λ(Xz:Tk)=>(DZ (⟨p.Bs,VS,p.DN⟩:Pr) 0).bind λ(ZZ,K6)=>Sum.elim (λ(Kb:Int)=>some ((Sum.inl (⟨5,ByteArray.empty,ByteArray.empty,C9.1,Dm,36525,Kb,(⟨0,[]⟩:Fn),[],Ay.AH⟩:Nd):(Nd⊕Dg)),K6)) (λ(Z0:Dg)=>some ((Sum.inr Z0:(Nd⊕Dg)),K6)) ZZ) (λ(Z4:Dg)=>some ((Sum.inr Z4:(Nd⊕Dg)),VS)) n8)) (λ(IE:Dg)=>some ((Sum.inr IE:(Nd⊕Dg)),JM)) WH) (λ(EE:Dg)=>some ((Sum.inr EE:(Nd⊕Dg)),E8)) L8) (λ(Hj:Dg)=>some ((Sum.inr Hj:(Nd⊕Dg)),ES)) KB) (λ(CW:Dg)=>some ((Sum.inr CW:(Nd⊕Dg)),Bj)) Ep
def Lh{p:Pr}{yR:(Nd⊕Dg)}{Ai:Int}(h:Hu  p=some (yR,Ai)):pR mx 125 [.ptr 0 0] p (I5 eN eD yR) Ai:=by
 unfold Hu at h;refine BW Hd.mixed (Au Tryz.func125 aoH ?_);revert h;refine BS (λAy Bj B8=>?_) λCW Bj B8=>?_;let o1:List (PC P (G mx)):=[Af (Im (Ab B8) 0)];refine BS (λC9 ES D6=>?_) λHj ES D6=>?_;let o2:List (PC P (G mx)):=o1++[Af (Nw (Al D6) 0)];refine BS (λCN E8 Fu=>?_) λEE E8 Fu=>?_;let o3:List (PC P (G mx)):=o2++[Af (Im (Ab Fu) 0)];refine BS (λDm JM JU=>?_) λIE JM JU=>?_;refine Aq λy5 Ke=>?_;let o4:List (PC P (G mx)):=o3++[Af (cG (CK JU) 0),Af (OH (Ah Ke) 0)];refine Ag (λhv=>?_) λhv=>?_;subst hv;refine BS (λJl N0 L4=>?_) λNr N0 L4=>?_;let o5:List (PC P (G mx)):=o4++[pk,pk,Af (cG (CK L4) 0)];refine BS (λVR Sb Sf=>?_) λP1 Sb Sf=>?_;refine BS (λHc L0 N5=>?_) λLZ L0 N5=>?_;refine EC ?_;rintro rfl rfl;exact Aw Hd.Aa _ _ [⟨.agg [.zi 5,.zs ByteArray.empty,.zs ByteArray.empty,.zi C9.1,.zi Dm,.zi Jl,.zi Hc,.zi 0,.sl .full 0 [],.sl .full 0 [],.zi Ay.AH],.agg [.zi 5,.zs ByteArray.empty,.zs ByteArray.empty,.zi C9.1,.zi Dm,.zi Jl,.zi Hc,.zi 0,.sl .lost ([].length) (rows IR []),.sl .lost ([].length) (BH []),.zi Ay.AH],(.wn (.g (.r (.r (.r (.r (.r (.r (.r (.r (.z (.z (.r .nil))))))))))) .nil) (AE.Cs (⟨5,ByteArray.empty,ByteArray.empty,C9.1,Dm,Jl,Hc,(⟨0,[]⟩:Fn),[],Ay.AH⟩:Nd)))⟩] [pW p L0] (Ac 300 (o5++[Af (Im (Ab Sf) 0),Af (cG (CK N5) 0)])) (by kernel_rfl) .body;refine EC ?_;rintro rfl rfl;exact Ih LZ p L0 (o5++[Af (Im (Ab Sf) 0),An (cG (CK N5) 0)]) .body;refine EC ?_;rintro rfl rfl;exact Ih P1 p Sb (o5++[An (Im (Ab Sf) 0)]) .body;refine EC ?_;rintro rfl rfl;exact Ih Nr p N0 (o4++[pk,pk,An (cG (CK L4) 0)]) .body;subst hv;refine BS (λXz VS Vg=>?_) λZ4 VS Vg=>?_;refine BS (λKb K6 Qj=>?_) λZ0 K6 Qj=>?_;refine EC ?_;rintro rfl rfl;exact Aw Hd.Aa _ _ [⟨.agg [.zi 5,.zs ByteArray.empty,.zs ByteArray.empty,.zi C9.1,.zi Dm,.zi 36525,.zi Kb,.zi 0,.sl .full 0 [],.sl .full 0 [],.zi Ay.AH],.agg [.zi 5,.zs ByteArray.empty,.zs ByteArray.empty,.zi C9.1,.zi Dm,.zi 36525,.zi Kb,.zi 0,.sl .lost ([].length) (rows IR []),.sl .lost ([].length) (BH []),.zi Ay.AH],(.wn (.g (.r (.r (.r (.r (.r (.r (.r (.r (.z (.z (.r .nil))))))))))) .nil) (AE.Cs (⟨5,ByteArray.empty,ByteArray.empty,C9.1,Dm,36525,Kb,(⟨0,[]⟩:Fn),[],Ay.AH⟩:Nd)))⟩] [pW p K6] (Ac 300 (o4++[Af (Im (Ab Vg) 0),Af (cG (CK Qj) 0)])) (by kernel_rfl) .body;refine EC ?_;rintro rfl rfl;exact Ih Z0 p K6 (o4++[Af (Im (Ab Vg) 0),An (cG (CK Qj) 0)]) .body;refine EC ?_;rintro rfl rfl;exact Ih Z4 p VS (o4++[An (Im (Ab Vg) 0)]) .body;refine EC ?_;rintro rfl rfl;exact Ih IE p JM (o3++[An (cG (CK JU) 0)]) .body;refine EC ?_;rintro rfl rfl;exact Ih EE p E8 (o2++[An (Im (Ab Fu) 0)]) .body;refine EC ?_;rintro rfl rfl;exact Ih Hj p ES (o1++[An (Nw (Al D6) 0)]) .body;refine EC ?_;rintro rfl rfl;exact Ih CW p Bj [An (Im (Ab B8) 0)] .body
def aoe:Code:=A0 Tryz.f160
def aoY:Tryz.f160.body=some aoe:=by kernel_rfl
def D9(token:Tk):Option Bool:=cond (CZ token.kind 4) (some true) (some false)
def OZ{token:Tk}{yR:Bool}(h:D9  token=some yR):Pure P (G mx) 160 [.agg (GG token)] (.zb yR):=by
 unfold D9 at h;refine CQ Hd.mixed Hd.Aa (Au Tryz.func160 aoY ?_) (A1 (BM.Cs token) rfl) rfl;revert h;refine Ag (λAW=>?_) λAW=>?_;rintro⟨⟩;exact rT [pb AW];rintro⟨⟩;exact rT [pb AW]
def aof:Code:=A0 Tryz.f161
def aoZ:Tryz.f161.body=some aof:=by kernel_rfl
def Ct(token:Tk):Option Int:=(J5 token.text akW ByteArray.empty 1).bind λy1=>(Sn y1).bind λ(KB,ES)=>some KB
def Pf{token:Tk}{yR:Int}(h:Ct  token=some yR):Pure P (G mx) 161 [.agg (GG token)] (.zi yR):=by
 unfold Ct at h;refine CQ Hd.mixed Hd.Aa (Au Tryz.func161 aoZ ?_) (A1 (BM.Cs token) rfl) rfl;revert h;refine Aq λy1 B8=>?_;refine Aq ?_;rintro⟨KB,ES⟩ D6;dsimp only;rintro⟨⟩;exact rT [AG (gN B8),AG (rX D6)]
def aos:Code:=A0 Tryz.f228
def ape:Tryz.f228.body=some aos:=by kernel_rfl
def Dk(token:Tk):Option Bool:=cond (CZ token.kind 4) (some true) (cond (CZ token.kind 3) (some true) (some false))
def OF{token:Tk}{yR:Bool}(h:Dk  token=some yR):Pure P (G mx) 228 [.agg (GG token)] (.zb yR):=by
 unfold Dk at h;refine CQ Hd.mixed Hd.Aa (Au Tryz.func228 ape ?_) (A1 (BM.Cs token) rfl) rfl;revert h;refine Ag (λAW=>?_) λAW=>?_;rintro⟨⟩;exact rT [pb AW];refine Ag (λBZ=>?_) λBZ=>?_;rintro⟨⟩;exact rT [pb AW,pb BZ];rintro⟨⟩;exact rT [pb AW,pb BZ]
def GV(p:Pr):Option ((Tk⊕Dg)×Int):=(AD p).bind λy1=>Sum.elim (λ(CL:Tk)=>(Dk CL).bind λy2=>cond y2 (some ((Sum.inl CL:(Tk⊕Dg)),(Bt p.Kc 1))) (some ((Sum.inr (⟨71,CL.AH⟩:Dg):(Tk⊕Dg)),p.Kc))) (λ(L7:Dg)=>some ((Sum.inr L7:(Tk⊕Dg)),p.Kc)) y1
def IL{p:Pr}{yR:(Tk⊕Dg)}{Ai:Int}(h:GV  p=some (yR,Ai)):pR mx 118 [.ptr 0 0,.fn (.func 228) [] []] p (I5 eT eD yR) Ai:=by
 unfold GV at h;refine BW Hd.mixed (Au Tryz.func118 eB ?_);revert h;refine Aq λy1 B8=>?_;refine TA (λCL Mg=>?_) λL7 Mg=>?_;subst Mg;refine Aq λy2 D6=>?_;let o1:List (PC P (G mx)):=[Af (Ax (Ao B8) 0),AG (OF D6)];refine Ag (λhv=>?_) λhv=>?_;subst hv;rintro⟨⟩;exact Aw Hd.Aa _ _ [⟨.agg (GG CL),.agg (GG CL),(.plain (BM.Cs CL))⟩] [pW p (Bt p.Kc 1)] (Ac 300 (o1++[pk])) (by kernel_rfl) .body;subst hv;rintro⟨⟩;exact BL Hd.Aa _ [⟨.Fv 45 (.agg [.zi 71,.zi CL.AH]),.Fv 45 (.agg [.zi 71,.zi CL.AH]),(.plain (Cn.Cs (⟨71,CL.AH⟩:Dg)))⟩] [bp (CP.pl p)] (Ac 300 (o1++[An (At (Am (p:=p) (err:=71) (at_:=CL.AH) rfl) 0)])) (by kernel_rfl) .body;subst Mg;rintro⟨⟩;exact BL Hd.Aa _ [gD L7] [bp (CP.pl p)] (Ac 300 [An (Ax (Ao B8) 0)]) (by kernel_rfl) .body
def aoo:Code:=A0 Tryz.f214
def apa:Tryz.f214.body=some aoo:=by kernel_rfl
def BR(p:Pr):Option (((Int×Int)⊕Dg)×Int):=(GV p).bind λ(Ep,Bj)=>Sum.elim (λ(Ay:Tk)=>(Ct Ay).bind λy2=>cond (CZ Ay.kind 3) (cond (CZ y2 0) (some ((Sum.inl (y2,Ay.AH):((Int×Int)⊕Dg)),Bj)) (some ((Sum.inr (⟨3,Ay.AH⟩:Dg):((Int×Int)⊕Dg)),Bj))) (some ((Sum.inl (y2,Ay.AH):((Int×Int)⊕Dg)),Bj))) (λ(CW:Dg)=>some ((Sum.inr CW:((Int×Int)⊕Dg)),Bj)) Ep
def Bo{p:Pr}{yR:((Int×Int)⊕Dg)}{Ai:Int}(h:BR  p=some (yR,Ai)):pR mx 214 [.ptr 0 0] p (I5 eJ eD yR) Ai:=by
 unfold BR at h;refine BW Hd.mixed (Au Tryz.func214 apa ?_);revert h;refine BS (λAy Bj B8=>?_) λCW Bj B8=>?_;refine Aq λy2 D6=>?_;let o1:List (PC P (G mx)):=[Af (Im (IL B8) 0),AG (Pf D6)];refine Ag (λAW=>?_) λAW=>?_;refine Ag (λBZ=>?_) λBZ=>?_;refine EC ?_;rintro rfl rfl;exact Aw Hd.Aa _ _ [⟨.C6 [.zi y2,.zi Ay.AH],.C6 [.zi y2,.zi Ay.AH],(.plain (A1 rfl (A1 rfl rfl)))⟩] [pW p Bj] (Ac 300 (o1++[pb AW,pn BZ])) (by kernel_rfl) .body;refine EC ?_;rintro rfl rfl;exact BL Hd.Aa _ [⟨.Fv 45 (.agg [.zi 3,.zi Ay.AH]),.Fv 45 (.agg [.zi 3,.zi Ay.AH]),(.plain (Cn.Cs (⟨3,Ay.AH⟩:Dg)))⟩] [pW p Bj] (Ac 300 (o1++[pb AW,pn BZ,An (At (Am (p:=(⟨p.Bs,Bj,p.DN⟩:Pr)) (err:=3) (at_:=Ay.AH) rfl) 0)])) (by kernel_rfl) .body;refine EC ?_;rintro rfl rfl;exact Aw Hd.Aa _ _ [⟨.C6 [.zi y2,.zi Ay.AH],.C6 [.zi y2,.zi Ay.AH],(.plain (A1 rfl (A1 rfl rfl)))⟩] [pW p Bj] (Ac 300 (o1++[pb AW])) (by kernel_rfl) .body;refine EC ?_;rintro rfl rfl;exact Ih CW p Bj [An (Im (IL B8) 0)] .body
def aot:Code:=A0 Tryz.f229
def apg:Tryz.f229.body=some aot:=by kernel_rfl
def EZ(token:Tk):Option Bool:=cond (BY token.text.data.toList OG.data.toList) (some true) (cond (BY token.text.data.toList Lu.data.toList) (some true) (some false))
def O1{token:Tk}{yR:Bool}(h:EZ  token=some yR):Pure P (G mx) 229 [.agg (GG token)] (.zb yR):=by
 unfold EZ at h;refine CQ Hd.mixed Hd.Aa (Au Tryz.func229 apg ?_) (A1 (BM.Cs token) rfl) rfl;revert h;refine Ag (λAW=>?_) λAW=>?_;rintro⟨⟩;exact rT [pb AW];refine Ag (λBZ=>?_) λBZ=>?_;rintro⟨⟩;exact rT [pb AW,pb BZ];rintro⟨⟩;exact rT [pb AW,pb BZ]
end Mo
end Go.Proofs.YtpbkhogolfegfaaGreatDoor
