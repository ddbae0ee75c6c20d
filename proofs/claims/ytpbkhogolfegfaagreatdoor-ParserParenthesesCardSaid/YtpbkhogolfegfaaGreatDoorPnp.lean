/- Part of a proof: see the last text. -/
import Derived.Test.YtpbkhogolfegfaaGreatDoorPno
import Derived.Test.YtpbkhogolfegfaaGreatDoorCards
import Derived.Lib.LaidTab
import Derived.Lib.LaidIn
import Derived.Shelf.Vars
set_option linter.unusedVariables false
set_option linter.unusedSimpArgs false
set_option linter.defProp false
noncomputable section
open Go.DataW renaming lit->bsP,trod->brC,trod_array->brN,trod_int->blA
open Go.DataW.lit renaming injEq->boV
open Go.Lit.int renaming injEq->bqV
open Go.Value renaming string->bpA
open Go.World renaming holding->bsM
open List renaming drop_drop->bjD,drop_zero->bjJ,eq_nil_of_length_eq_zero->biP,flatMap_cons->bjZ,getElem?_eq_getElem->abI,getElem?_eq_some_iff->abH,getElem?_map->biU,length_cons->Yy,length_drop->biR,take_append_drop->blX
open Nat renaming add_comm->bmY,succ_mul->bnH,zero_mul->boY
open Option renaming map_some->biQ
open Option.some renaming inj->bjE,injEq->aOE
open Prod.mk renaming injEq->biY
namespace Go.Proofs.YtpbkhogolfegfaaGreatDoor
open AI Go Go.RowKit LexS
def chunks{α:Type}{V:α->List Value}{k:Nat}:∀{l:List α} {cs:List Value},cs.length=l.length*k->(∀y,(V y).length=k)->(∀(i:Nat) y,l[i]?=some y->(cs.drop (i*k)).take k=V y)->cs=l.flatMap V
 | [],cs,h,_,_=>by
   simp only[List.length_nil,boY] at h;rw[biP h];rfl
 | a::l,cs,h,hV,hc=>by
   have h0:=hc 0 a rfl;rw[boY,bjJ] at h0
   have ih:=chunks (V:=V) (k:=k) (l:=l) (cs:=cs.drop k) (by rw[biR,h,Yy,bnH];omega) hV λi y hy=>by
     rw[bjD];have:=hc (i+1) y (by simpa using hy)
     rwa[bnH,bmY] at this
   rw[bjZ,<- h0,<- ih,blX]
def OO{α H:Type}{enc:TypeId×Value->H}{P:Program}{w:World}{base:Nat}{sp:Nat->Bool}{held:Bool}{fuel:Nat}{t e:TypeId}{n k:Nat}{cs:List Value}{l:List α}{p:List MemPlace}(D:α->DataW H)(V:α->List Value)(hV:∀y,(V y).length=k)
   (O7:∀f c y q,brC enc P w base sp held f e c=some (D y,q)->c=V y)
   (ht:P.underlying t=some (.array n e)) (hce:P.cellsOf e=k) (hct:P.cellsOf t=n*k) (h:brC enc P w base sp held fuel t cs=some (.agg (l.map D),p)):cs=l.flatMap V:=by
 obtain⟨xs,m,_,hx,hl,hxl,Xs⟩:=brN ht h
 have hd:l.map D=xs.map (·.1):=by
   have:=congrArg Prod.fst hx;simpa using this
 have hll:l.length=n:=by
   have:=congrArg List.length hd;simp at this;omega
 rw[hct] at hl;rw[hce] at Xs;refine chunks (by rw[hl,hll]) hV λi y hy=>?_;have hi:i < n:=by have:=(abH.1 hy).1;omega
 have h2:=Xs i hi;have hxi:xs[i]?=some xs[i]:=abI (by omega);rw[hxi] at h2;have h3:(l.map D)[i]?=(xs.map (·.1))[i]?:=by rw[hd]
 rw[biU,biU,hy,hxi] at h3;simp only[biQ,aOE] at h3;refine O7 m _ y xs[i].2 ?_;rw[h2,h3]
def gM{H:Type}{enc:TypeId×Value->H}{w:World}{base:Nat}{sp:Nat->Bool}{held:Bool}(f:Nat)(c:List Value)(y:List UInt8)(q:List MemPlace)(hh:brC enc Tryz.prog w base sp held f 9 c=some (.lit (.string y),q)):c=[.string ⟨y.toArray⟩]:=by
 obtain⟨z,hc,hz,_⟩:=DataW.trod_string Tryz.underlying9 hh;simp only[biY,boV,Lit.string.injEq] at hz;rw[hc,hz.1]
def Jm{W:World}{n:String}{g:Nat}{cs:Array Value}(hg:Tryz.prog.globalNamed n=some g)(h:W.var? Tryz.prog n=some cs):∃t fr,W.heap[g]?=some (.cells cs t fr):=by
 unfold World.var? at h;rw[hg] at h;simp only[Option.bind_some] at h;split at h;rename_i c t fr hh;injection h with h
 subst h;exact⟨t,fr,hh⟩;cases h
def gB:Tryz.prog.globalNamed "wageoffice/calendar.before"=some 12:=by kernel_rfl
def gC:Tryz.prog.globalNamed "wageoffice/lexer.classes"=some 3:=by kernel_rfl
def gS:Tryz.prog.globalNamed "wageoffice/lexer.symbols"=some 0:=by kernel_rfl
def gO:Tryz.prog.globalNamed "wageoffice/parser.operators"=some 2:=by kernel_rfl
def gR:Tryz.prog.globalNamed "wageoffice/parser.roles"=some 1:=by kernel_rfl
def gP:Tryz.prog.globalNamed "internal/strconv.uint64pow10"=some 4:=by kernel_rfl
def gPT:(Tryz.prog.globals[(4:Nat)]?).map (·.type)=some 167:=by kernel_rfl
def zW:Tryz.prog.cellsOf 146=1:=by kernel_rfl
def zP:Tryz.prog.cellsOf 167=20*1:=by kernel_rfl
def gBT:(Tryz.prog.globals[(12:Nat)]?).map (·.type)=some 203:=by kernel_rfl
def gCT:(Tryz.prog.globals[(3:Nat)]?).map (·.type)=some 151:=by kernel_rfl
def gST:(Tryz.prog.globals[(0:Nat)]?).map (·.type)=some 134:=by kernel_rfl
def gOT:(Tryz.prog.globals[(2:Nat)]?).map (·.type)=some 143:=by kernel_rfl
def gRT:(Tryz.prog.globals[(1:Nat)]?).map (·.type)=some 135:=by kernel_rfl
def zI:Tryz.prog.cellsOf 3=1:=by kernel_rfl
def zU:Tryz.prog.cellsOf 5=1:=by kernel_rfl
def zS:Tryz.prog.cellsOf 9=1:=by kernel_rfl
def zB:Tryz.prog.cellsOf 203=13*1:=by kernel_rfl
def zC:Tryz.prog.cellsOf 151=128*1:=by kernel_rfl
def zY:Tryz.prog.cellsOf 134=17*1:=by kernel_rfl
def z6:Tryz.prog.cellsOf 142=6*1:=by kernel_rfl
def zO:Tryz.prog.cellsOf 143=6*6:=by kernel_rfl
def zR:Tryz.prog.cellsOf 135=5*1:=by kernel_rfl
def aMI:List Int:=[0,31,59,90,120,151,181,212,243,273,304,334,365]
def aSO:List (List UInt8):=[[],[101,97,114,110],[100,101,100,117,99,116],[102,108,111,111,114],[105,110,102,111]]
def opsL:List (List (List UInt8)):=[[[111,114],[],[],[],[],[]],[[97,110,100],[],[],[],[],[]],[[],[],[],[],[],[]],[[61,61],[33,61],[60],[60,61],[62],[62,61]],[[43],[45],[],[],[],[]],[[42],[47],[97,116],[],[],[]]]
abbrev rE(y:List UInt8):DataW Unit:=.lit (.string y)
def bbJ:(Rows.laid_wageoffice_calendar_before:DataW Unit)=.agg (aMI.map λz=>.lit (.int .i64 z)):=by rfl
def bbM:(Rows.laid_internal_strconv_uint64pow10:DataW Unit)=.agg (Lib.pow10Tab.map λz=>.lit (.int .u64 z)):=by kernel_rfl
def bbK:(Rows.laid_wageoffice_lexer_classes:DataW Unit)=.agg ((List.range 128).map λi=>.lit (.int .u8 (KX i:Nat))):=by rfl
def bbO:(Rows.laid_wageoffice_lexer_symbols:DataW Unit)=.agg (Fw.map rE):=by rfl
def bbL:(Rows.laid_wageoffice_parser_operators:DataW Unit)=.agg (opsL.map λl=>.agg (l.map rE)):=by rfl
def bbN:(Rows.laid_wageoffice_parser_roles:DataW Unit)=.agg (aSO.map rE):=by rfl
def aZN:((begin Tryz.prog (λ_ _=>0) default).world.heap[(5:Nat)]?).bind Obj.row?=some (#[.int .i64 0],3):=by kernel_rfl
def aRC{W:World}(h:W.ShapedOpen Tryz.prog):∃m,W.cell? ⟨5,0,none⟩=some (.int .i64 m):=by
 obtain⟨m,hm⟩:=cell_of_shapedOpen_int h (g:=5) (by decide +kernel) aZN rfl (by kernel_rfl) (by kernel_rfl) Tryz.underlying3;exact⟨m,hm⟩
def US(c:Cx)(w:World):∀l:List (List UInt8),Cv c w (l.map Gz) (l.flatMap λy=>[.string ⟨y.toArray⟩])
 | []=>.nil
 | _::l=>.cons (.sc rfl) (US c w l)
def sD(c:Cx)(w:World):∀l:List Int,Cv c w (l.map Hd.int) (l.flatMap λy=>[.int .i64 y])
 | []=>.nil
 | _::l=>.cons (.sc rfl) (sD c w l)
def adC(c:Cx)(w:World):∀l:List Int,Cv c w (l.map Hd.adS) (l.flatMap λy=>[.int .u64 y])
 | []=>.nil
 | _::l=>.cons (.sc rfl) (adC c w l)
def adB(c:Cx)(w:World):∀l:List Nat,Cv c w (l.map λi=>.sc (.int .u8 (KX i:Nat))) (l.flatMap λi=>[.int .u8 (KX i:Nat)])
 | []=>.nil
 | _::l=>.cons (.sc rfl) (adB c w l)
def iD(c:Cx)(w:World):∀l:List (List (List UInt8)),Cv c w (l.flatMap λy=>y.map Gz) (l.flatMap λy=>y.flatMap λz=>[.string ⟨z.toArray⟩])
 | []=>.nil
 | a::l=>(US c w a).append (iD c w l)
def Yp{W:World}{g:Nat}{l:List AV}{cs:Array Value}(h:∃t fr,W.heap[g]?=some (.cells cs t fr))(hr:Cv (Mo.bF W) W l cs.toList):A1 (Mo.bF W) W g 0 l:=by
 obtain⟨t,fr,h⟩:=h;refine A1.Qw hr λi v hi=>Mo.aTS ?_;rw[Nat.zero_add,cell_of_row W g i cs t fr h];rwa[Array.getElem?_toList] at hi
def atG{W:World}(h:W.ShapedOpen Tryz.prog):∃cs t f,W.heap[(5:Nat)]?=some (.cells cs t f)/\cs.size=1:=by
 obtain⟨cs,hh,hs,_⟩:=h.1 5 _ _ (by decide +kernel) aZN;exact⟨cs,_,_,hh,hs⟩
def mP{W:World}{g:Nat}{l:List AV}{cs:Array Value}(h:∃t fr,W.heap[g]?=some (.cells cs t fr))(hr:Cv (Mo.bF W) W l cs.toList):∃vs T f,W.heap[g]?=some (.cells vs T f)/\vs.size=l.length:=by
 obtain⟨t,fr,h⟩:=h;exact⟨cs,t,fr,h,by have:=hr.len;simpa using this⟩
def adN{W:World}(h:laidMetH Tryz.prog Rows.parserTreesRow.laid W)(Gr:W.ShapedOpen Tryz.prog):∃mx,St (Hd.G mx) (Mo.bF W) W s0:=by
 have h:laidMet Tryz.prog [("math/bits.deBruijn32tab",Rows.laid_math_bits_deBruijn32tab),("math/bits.deBruijn64tab",Rows.laid_math_bits_deBruijn64tab),("internal/strconv.uint64pow10",Rows.laid_internal_strconv_uint64pow10),("unicode/utf8.acceptRanges",Rows.laid_unicode_utf8_acceptRanges),("strconv.ErrRange",Rows.laid_strconv_ErrRange),("strconv.ErrSyntax",Rows.laid_strconv_ErrSyntax),("wageoffice/calendar.before",Rows.laid_wageoffice_calendar_before),("wageoffice/lexer.classes",Rows.laid_wageoffice_lexer_classes),("wageoffice/lexer.symbols",Rows.laid_wageoffice_lexer_symbols),("wageoffice/parser.operators",Rows.laid_wageoffice_parser_operators),("wageoffice/parser.roles",Rows.laid_wageoffice_parser_roles),("unicode/utf8.first",Rows.laid_unicode_utf8_first)] W:=h
 obtain⟨ps,⟨_,_,_,_,_,_,_,_,_,_,⟨_,_,_,_,_,_,_,_,_,_,⟨g3,t3,cs3,f3,p3,q3,hg3,ht3,hv3,hd3,⟨_,_,_,_,_,_,_,_,_,_,⟨_,_,_,_,_,_,_,_,_,_,⟨_,_,_,_,_,_,_,_,_,_,⟨g7,t7,cs7,f7,p7,q7,hg7,ht7,hv7,hd7,⟨g8,t8,cs8,f8,p8,q8,hg8,ht8,hv8,hd8,⟨g9,t9,cs9,f9,p9,q9,hg9,ht9,hv9,hd9,⟨g10,t10,aVN,f10,p10,q10,bcV,beK,aXQ,hd10,⟨g11,t11,biA,f11,p11,q11,bcW,beL,aXR,aWX,_⟩,_⟩,_⟩,_⟩,_⟩,_⟩,_⟩,_⟩,_⟩,_⟩,_⟩,_⟩:=h;obtain rfl:=bjE (gP.symm.trans hg3);obtain rfl:=bjE (gPT.symm.trans ht3);rw[bbM] at hd3;obtain rfl:=bjE (gB.symm.trans hg7);obtain rfl:=bjE (gC.symm.trans hg8);obtain rfl:=bjE (gS.symm.trans hg9);obtain rfl:=bjE (gO.symm.trans bcV);obtain rfl:=bjE (gR.symm.trans bcW);obtain rfl:=bjE (gBT.symm.trans ht7);obtain rfl:=bjE (gCT.symm.trans ht8);obtain rfl:=bjE (gST.symm.trans ht9);obtain rfl:=bjE (gOT.symm.trans beK);obtain rfl:=bjE (gRT.symm.trans beL);rw[bbJ] at hd7;rw[bbK] at hd8;rw[bbO] at hd9;rw[bbL] at hd10;rw[bbN] at aWX
 have e3:=OO (k:=1) (λz:Int=>(bsP (.int .u64 z):DataW Unit)) (λz=>[.int .u64 z]) (λ_=>rfl)
   (λf c y q hh=>by obtain⟨z,hc,hz,_⟩:=blA Tryz.underlying146 hh;simp only[biY,boV,bqV,true_and] at hz;rw[hc,hz.1]) Tryz.underlying167 zW zP hd3
 have e7:=OO (k:=1) (λz:Int=>(bsP (.int .i64 z):DataW Unit)) (λz=>[.int .i64 z]) (λ_=>rfl)
   (λf c y q hh=>by obtain⟨z,hc,hz,_⟩:=blA Tryz.underlying3 hh;simp only[biY,boV,bqV,true_and] at hz;rw[hc,hz.1]) Tryz.underlying203 zI zB hd7
 have e8:=OO (k:=1) (λi:Nat=>(bsP (.int .u8 (KX i:Nat)):DataW Unit)) (λi=>[.int .u8 (KX i:Nat)]) (λ_=>rfl)
   (λf c y q hh=>by obtain⟨z,hc,hz,_⟩:=blA Tryz.underlying5 hh;simp only[biY,boV,bqV,true_and] at hz;rw[hc,hz.1]) Tryz.underlying151 zU zC hd8
 have e9:=OO (k:=1) rE (λy=>[.string ⟨y.toArray⟩]) (λ_=>rfl) gM Tryz.underlying134 zS zY hd9;have e11:=OO (k:=1) rE (λy=>[.string ⟨y.toArray⟩]) (λ_=>rfl) gM Tryz.underlying135 zS zR aWX
 have e10:aVN.toList=opsL.flatMap λy=>y.flatMap λz=>[.string ⟨z.toArray⟩]:=by
   obtain⟨xs,m,_,hx,hl,hxl,Xs⟩:=brN Tryz.underlying143 hd10
   have hd:(opsL.map λl=>(DataW.agg (l.map rE):DataW Unit))=xs.map (·.1):=by
     have:=congrArg Prod.fst hx;simpa using this
   rw[zO] at hl;rw[z6] at Xs;have bfX:∀y∈opsL,(y.flatMap λz=>[(bpA ⟨z.toArray⟩:Value)]).length=6:=by decide
   have QW:∀(i:Nat) y,opsL[i]?=some y->(aVN.toList.drop (i*6)).take 6=y.flatMap λz=>[.string ⟨z.toArray⟩]:=by
     intro i y hy;have hi:i < 6:=(abH.1 hy).1;have h2:=Xs i hi;have hxi:xs[i]?=some xs[i]:=abI (by omega);rw[hxi] at h2;have h3:(opsL.map λl=>(DataW.agg (l.map rE):DataW Unit))[i]?=(xs.map (·.1))[i]?:=by rw[hd]
     rw[biU,biU,hy,hxi] at h3;simp only[biQ,aOE] at h3;have h4:xs[i]=(.agg (y.map rE),xs[i].2):=Prod.ext h3.symm rfl;rw[h4] at h2;exact OO (k:=1) rE (λy=>[.string ⟨y.toArray⟩]) (λ_=>rfl) gM Tryz.underlying142 zS z6 h2
   have l6:∀{l:List (List (List UInt8))} {cs:List Value},(∀y∈l,(y.flatMap λz=>[(bpA ⟨z.toArray⟩:Value)]).length=6)->cs.length=l.length*6->(∀(i:Nat) y,l[i]?=some y->(cs.drop (i*6)).take 6=y.flatMap λz=>[.string ⟨z.toArray⟩])->cs=l.flatMap λy=>y.flatMap λz=>[.string ⟨z.toArray⟩]:=by
     intro l
     induction l with
     | nil=>intro cs _ h _;exact biP (by simpa using h)
     | cons a l ih =>
       intro cs hq h hc;have h0:=hc 0 a rfl;rw[boY,bjJ] at h0
       have:=ih (cs:=cs.drop 6) (λy hy=>hq y (by simp[hy])) (by rw[biR,h,Yy,bnH];omega) λi y hy=>by
         rw[bjD];have:=hc (i+1) y (by simpa using hy)
         rwa[bnH,bmY] at this
       rw[bjZ,<- h0,<- this,blX]
   exact l6 bfX (by rw[hl];rfl) QW
 obtain⟨mx,hm⟩:=aRC Gr;have Fl:=Mo.stW W;refine⟨mx,Fl.len,Fl.desc,Fl.nodup,Fl.low,Fl.box,Fl.I8,Fl.row,Fl.Jl,Fl.Np,Fl.ND,Fl.IU,λg cs h=>?_,Fl.R2,λg cs h=>⟨⟨by simp[Mo.bF],λr n cap sz e=>by simp[Mo.bF] at e⟩,?_⟩⟩;unfold Hd.G at h;split at h;rename_i hg;cases h;rw[beq_true hg];exact Yp (Jm gO aXQ) (by rw[e10];exact iD _ _ opsL);split at h;rename_i hg;cases h;rw[beq_true hg];exact Yp (Jm gR aXR) (by rw[e11];exact US _ _ aSO);split at h;rename_i hg;cases h;rw[beq_true hg];exact Yp (Jm gB hv7) (by rw[e7];exact sD _ _ aMI);split at h;rename_i hg;cases h;rw[beq_true hg];exact Yp (Jm gC hv8) (by rw[e8];exact adB _ _ _);split at h;rename_i hg;cases h;rw[beq_true hg];exact Yp (Jm gS hv9) (by rw[e9];exact US _ _ _);split at h;rename_i hg;cases h;rw[beq_true hg];exact .cons (Mo.aTS hm) (.sc rfl) .nil;split at h;rename_i hg;cases h;rw[beq_true hg];exact Yp (Jm gP hv3) (by rw[e3];exact adC _ _ _);cases h;unfold Hd.G at h;split at h;rename_i hg;cases h;rw[beq_true hg];exact mP (Jm gO aXQ) (by rw[e10];exact iD _ _ opsL);split at h;rename_i hg;cases h;rw[beq_true hg];exact mP (Jm gR aXR) (by rw[e11];exact US _ _ aSO);split at h;rename_i hg;cases h;rw[beq_true hg];exact mP (Jm gB hv7) (by rw[e7];exact sD _ _ aMI);split at h;rename_i hg;cases h;rw[beq_true hg];exact mP (Jm gC hv8) (by rw[e8];exact adB _ _ _);split at h;rename_i hg;cases h;rw[beq_true hg];exact mP (Jm gS hv9) (by rw[e9];exact US _ _ _);split at h;rename_i hg;cases h;rw[beq_true hg];obtain⟨cs,t,f,q1,q2⟩:=atG Gr;exact⟨cs,t,f,q1,q2⟩;split at h;rename_i hg;cases h;rw[beq_true hg];exact mP (Jm gP hv3) (by rw[e3];exact adC _ _ _);cases h
def acA{mx:Int}{f:FuncId}{args:List AV}{vs:List Value}{W:World}(Fl:St (Hd.G mx) (Mo.bF W) W s0)(h:Pure Tryz.prog (Hd.G mx) f args (.sc (.bool true)))(ha:Cv (Mo.bF W) W args vs):Calls Tryz.prog f vs.toArray W λe W'=>e=.returned (.bool true)/\Below W.heap.size W W':=by
 refine(h s0 (Mo.bF W) W vs Fl ha).mono ?_;rintro e w' ⟨c',hx,_,u,rfl,hu⟩;cases hu;exact⟨rfl,hx.below⟩
def aQX:DataW Unit->List Value
 | .lit l=>[l.value]
 | _=>[]
def aWB:DataW Unit->List Value
 | .agg l=>l.flatMap aQX
 | d=>aQX d
def Vz:DataW Unit->Array Value
 | .agg l=>(l.flatMap aWB).toArray
 | d=>(aQX d).toArray
def putCells(cs:Array Value):Obj->Obj
 | .cells _ t frozen=>.cells cs t frozen
 | o=>o
def low:Nat:=(bsM Tryz.prog default ⟨#[],#[],[]⟩).heap.size
abbrev baF:ByteArray:={ data:=#[118,97,108,117,101,32,111,117,116,32,111,102,32,114,97,110,103,101] }
abbrev baG:ByteArray:={ data:=#[105,110,118,97,108,105,100,32,115,121,110,116,97,120] }
def YG(os:Os):World :=
 let w0:=bsM Tryz.prog os ⟨#[.cells #[.string baF] 210,.cells #[.string baG] 210],#[],[]⟩
 { w0 with heap:=((((((((((((w0.heap.modify 8 (putCells (Vz Rows.laid_math_bits_deBruijn32tab))).modify
     9 (putCells (Vz Rows.laid_math_bits_deBruijn64tab))).modify
     4 (putCells (Vz Rows.laid_internal_strconv_uint64pow10))).modify
     7 (putCells (Vz Rows.laid_unicode_utf8_acceptRanges))).modify
     11 (putCells #[.iface 208 (.pointer (some ⟨low,0,none⟩))])).modify
     10 (putCells #[.iface 208 (.pointer (some ⟨low+1,0,none⟩))])).modify
     12 (putCells (Vz Rows.laid_wageoffice_calendar_before))).modify
     3 (putCells (Vz Rows.laid_wageoffice_lexer_classes))).modify
     0 (putCells (Vz Rows.laid_wageoffice_lexer_symbols))).modify
     2 (putCells (Vz Rows.laid_wageoffice_parser_operators))).modify
     1 (putCells (Vz Rows.laid_wageoffice_parser_roles))).modify
     6 (putCells (Vz Rows.laid_unicode_utf8_first))) }
def asN(os:Os)(args:Array Value):laidMet Tryz.prog Rows.parserTreesRow.laid ((YG os).forCall (λ_ _=>0) ⟨#[],args,[]⟩).memory :=
 laidMet_of_run3 8 (by kernel_rfl) (by kernel_rfl) (by kernel_rfl)
end Go.Proofs.YtpbkhogolfegfaaGreatDoor
