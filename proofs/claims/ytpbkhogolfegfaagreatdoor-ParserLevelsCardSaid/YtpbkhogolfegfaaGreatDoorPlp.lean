/- Part of a proof: see the last text. -/
import Derived.Test.YtpbkhogolfegfaaGreatDoorPlo
import Derived.Test.YtpbkhogolfegfaaGreatDoorCards
import Derived.Test.YtpbkhogolfegfaaGreatDoorTie
import Derived.Lib.LaidTab
import Derived.Lib.LaidIn
import Derived.Shelf.Vars
set_option linter.unusedVariables false
set_option linter.unusedSimpArgs false
set_option linter.defProp false
noncomputable section
namespace Go.Proofs.YtpbkhogolfegfaaGreatDoor
open AI Go Go.RowKit LexS
def chunks{α:Type}{V:α->List Value}{k:Nat}:∀{l:List α} {cs:List Value},cs.length=l.length*k->(∀y,(V y).length=k)->(∀(i:Nat) y,l[i]?=some y->(cs.drop (i*k)).take k=V y)->cs=l.flatMap V
 | [],cs,h,_,_=>by
   simp only[List.length_nil,Nat.zero_mul] at h;rw[List.eq_nil_of_length_eq_zero h];rfl
 | a::l,cs,h,hV,hc=>by
   have h0:=hc 0 a rfl;rw[Nat.zero_mul,List.drop_zero] at h0
   have ih:=chunks (V:=V) (k:=k) (l:=l) (cs:=cs.drop k) (by rw[List.length_drop,h,List.length_cons,Nat.succ_mul];omega) hV λi y hy=>by
     rw[List.drop_drop];have:=hc (i+1) y (by simpa using hy)
     rwa[Nat.succ_mul,Nat.add_comm] at this
   rw[List.flatMap_cons,<- h0,<- ih,List.take_append_drop]
def M9{α H:Type}{enc:TypeId×Value->H}{P:Program}{w:World}{base:Nat}{sp:Nat->Bool}{held:Bool}{fuel:Nat}{t e:TypeId}{n k:Nat}{cs:List Value}{l:List α}{p:List MemPlace}(D:α->DataW H)(V:α->List Value)(hV:∀y,(V y).length=k)
   (Nt:∀f c y q,DataW.trod enc P w base sp held f e c=some (D y,q)->c=V y)
   (ht:P.underlying t=some (.array n e)) (hce:P.cellsOf e=k) (hct:P.cellsOf t=n*k) (h:DataW.trod enc P w base sp held fuel t cs=some (.agg (l.map D),p)):cs=l.flatMap V:=by
 obtain⟨xs,m,_,hx,hl,hxl,SE⟩:=DataW.trod_array ht h
 have hd:l.map D=xs.map (·.1):=by
   have:=congrArg Prod.fst hx;simpa using this
 have oH:l.length=n:=by
   have:=congrArg List.length hd;simp at this;omega
 rw[hct] at hl;rw[hce] at SE;refine chunks (by rw[hl,oH]) hV λi y hy=>?_;have hi:i < n:=by have:=(List.getElem?_eq_some_iff.1 hy).1;omega
 have h2:=SE i hi;have hxi:xs[i]?=some xs[i]:=List.getElem?_eq_getElem (by omega);rw[hxi] at h2;have h3:(l.map D)[i]?=(xs.map (·.1))[i]?:=by rw[hd]
 rw[List.getElem?_map,List.getElem?_map,hy,hxi] at h3;simp only[Option.map_some,Option.some.injEq] at h3;refine Nt m _ y xs[i].2 ?_;rw[h2,h3]
def YD{H:Type}{enc:TypeId×Value->H}{w:World}{base:Nat}{sp:Nat->Bool}{held:Bool}(f:Nat)(c:List Value)(y:List UInt8)(q:List MemPlace)(hh:DataW.trod enc Tryz.prog w base sp held f 9 c=some (.lit (.string y),q)):c=[.string ⟨y.toArray⟩]:=by
 obtain⟨z,hc,hz,_⟩:=DataW.trod_string Tryz.underlying9 hh;simp only[Prod.mk.injEq,DataW.lit.injEq,Lit.string.injEq] at hz;rw[hc,hz.1]
def PS{W:World}{n:String}{g:Nat}{cs:Array Value}(hg:Tryz.prog.globalNamed n=some g)(h:W.var? Tryz.prog n=some cs):∃t fr,W.heap[g]?=some (.cells cs t fr):=by
 unfold World.var? at h;rw[hg] at h;simp only[Option.bind_some] at h;split at h;rename_i c t fr hh;injection h with h
 subst h;exact⟨t,fr,hh⟩;cases h
def gB:Tryz.prog.globalNamed "wageoffice/calendar.before"=some 12:=by kernel_rfl
def gC:Tryz.prog.globalNamed "wageoffice/lexer.classes"=some 3:=by kernel_rfl
def gS:Tryz.prog.globalNamed "wageoffice/lexer.symbols"=some 0:=by kernel_rfl
def gO:Tryz.prog.globalNamed "wageoffice/parser.operators"=some 2:=by kernel_rfl
def gR:Tryz.prog.globalNamed "wageoffice/parser.roles"=some 1:=by kernel_rfl
def gP:Tryz.prog.globalNamed "internal/strconv.uint64pow10"=some 4:=by kernel_rfl
def gPT:(Tryz.prog.globals[(4:Nat)]?).map (·.type)=some 167:=by kernel_rfl
def zW:Tryz.prog.cellsOf 146=1:=by kernel_rfl
def zP:Tryz.prog.cellsOf 167=20*1:=by kernel_rfl
def gBT:(Tryz.prog.globals[(12:Nat)]?).map (·.type)=some 203:=by kernel_rfl
def gCT:(Tryz.prog.globals[(3:Nat)]?).map (·.type)=some 151:=by kernel_rfl
def gST:(Tryz.prog.globals[(0:Nat)]?).map (·.type)=some 134:=by kernel_rfl
def gOT:(Tryz.prog.globals[(2:Nat)]?).map (·.type)=some 143:=by kernel_rfl
def gRT:(Tryz.prog.globals[(1:Nat)]?).map (·.type)=some 135:=by kernel_rfl
def zI:Tryz.prog.cellsOf 3=1:=by kernel_rfl
def zU:Tryz.prog.cellsOf 5=1:=by kernel_rfl
def zS:Tryz.prog.cellsOf 9=1:=by kernel_rfl
def zB:Tryz.prog.cellsOf 203=13*1:=by kernel_rfl
def zC:Tryz.prog.cellsOf 151=128*1:=by kernel_rfl
def zY:Tryz.prog.cellsOf 134=17*1:=by kernel_rfl
def z6:Tryz.prog.cellsOf 142=6*1:=by kernel_rfl
def zO:Tryz.prog.cellsOf 143=6*6:=by kernel_rfl
def zR:Tryz.prog.cellsOf 135=5*1:=by kernel_rfl
def aBP:List Int:=[0,31,59,90,120,151,181,212,243,273,304,334,365]
def aEW:List (List UInt8):=[[],[101,97,114,110],[100,101,100,117,99,116],[102,108,111,111,114],[105,110,102,111]]
def opsL:List (List (List UInt8)):=[[[111,114],[],[],[],[],[]],[[97,110,100],[],[],[],[],[]],[[],[],[],[],[],[]],[[61,61],[33,61],[60],[60,61],[62],[62,61]],[[43],[45],[],[],[],[]],[[42],[47],[97,116],[],[],[]]]
abbrev dG(y:List UInt8):DataW Unit:=.lit (.string y)
def aJK:(Rows.laid_wageoffice_calendar_before:DataW Unit)=.agg (aBP.map λz=>.lit (.int .i64 z)):=by rfl
def aJN:(Rows.laid_internal_strconv_uint64pow10:DataW Unit)=.agg (Lib.pow10Tab.map λz=>.lit (.int .u64 z)):=by kernel_rfl
def aJL:(Rows.laid_wageoffice_lexer_classes:DataW Unit)=.agg ((List.range 128).map λi=>.lit (.int .u8 (P5 i:Nat))):=by rfl
def aJP:(Rows.laid_wageoffice_lexer_symbols:DataW Unit)=.agg (Gq.map dG):=by rfl
def aJM:(Rows.laid_wageoffice_parser_operators:DataW Unit)=.agg (opsL.map λl=>.agg (l.map dG)):=by rfl
def aJO:(Rows.laid_wageoffice_parser_roles:DataW Unit)=.agg (aEW.map dG):=by rfl
def aNA:((begin Tryz.prog (λ_ _=>0) default).world.heap[(5:Nat)]?).bind Obj.row?=some (#[.int .i64 0],3):=by kernel_rfl
def ayW{W:World}(h:W.ShapedOpen Tryz.prog):∃m,W.cell? ⟨5,0,none⟩=some (.int .i64 m):=by
 obtain⟨m,hm⟩:=cell_of_shapedOpen_int h (g:=5) (by decide +kernel) aNA rfl (by kernel_rfl) (by kernel_rfl) Tryz.underlying3;exact⟨m,hm⟩
def Xf(c:Cx)(w:World):∀l:List (List UInt8),CH c w (l.map Gz) (l.flatMap λy=>[.string ⟨y.toArray⟩])
 | []=>.nil
 | _::l=>.cons (.sc rfl) (Xf c w l)
def uN(c:Cx)(w:World):∀l:List Int,CH c w (l.map Hd.int) (l.flatMap λy=>[.int .i64 y])
 | []=>.nil
 | _::l=>.cons (.sc rfl) (uN c w l)
def ahF(c:Cx)(w:World):∀l:List Int,CH c w (l.map Hd.arO) (l.flatMap λy=>[.int .u64 y])
 | []=>.nil
 | _::l=>.cons (.sc rfl) (ahF c w l)
def agZ(c:Cx)(w:World):∀l:List Nat,CH c w (l.map λi=>.sc (.int .u8 (P5 i:Nat))) (l.flatMap λi=>[.int .u8 (P5 i:Nat)])
 | []=>.nil
 | _::l=>.cons (.sc rfl) (agZ c w l)
def kS(c:Cx)(w:World):∀l:List (List (List UInt8)),CH c w (l.flatMap λy=>y.map Gz) (l.flatMap λy=>y.flatMap λz=>[.string ⟨z.toArray⟩])
 | []=>.nil
 | a::l=>(Xf c w a).append (kS c w l)
def Vh{W:World}{g:Nat}{l:List AV}{cs:Array Value}(h:∃t fr,W.heap[g]?=some (.cells cs t fr))(hr:CH (Mo.WT W) W l cs.toList):Bc (Mo.WT W) W g 0 l:=by
 obtain⟨t,fr,h⟩:=h;refine Bc.On hr λi v hi=>Mo.aAY ?_;rw[Nat.zero_add,cell_of_row W g i cs t fr h];rwa[Array.getElem?_toList] at hi
def qO{W:World}(h:laidMetH Tryz.prog Rows.parserTreesRow.laid W)(GG:W.ShapedOpen Tryz.prog):∃mx,St (Hd.G mx) (Mo.WT W) W s0:=by
 have h:laidMet Tryz.prog [("math/bits.deBruijn32tab",Rows.laid_math_bits_deBruijn32tab),("math/bits.deBruijn64tab",Rows.laid_math_bits_deBruijn64tab),("internal/strconv.uint64pow10",Rows.laid_internal_strconv_uint64pow10),("unicode/utf8.acceptRanges",Rows.laid_unicode_utf8_acceptRanges),("strconv.ErrRange",Rows.laid_strconv_ErrRange),("strconv.ErrSyntax",Rows.laid_strconv_ErrSyntax),("wageoffice/calendar.before",Rows.laid_wageoffice_calendar_before),("wageoffice/lexer.classes",Rows.laid_wageoffice_lexer_classes),("wageoffice/lexer.symbols",Rows.laid_wageoffice_lexer_symbols),("wageoffice/parser.operators",Rows.laid_wageoffice_parser_operators),("wageoffice/parser.roles",Rows.laid_wageoffice_parser_roles),("unicode/utf8.first",Rows.laid_unicode_utf8_first)] W:=h
 obtain⟨ps,⟨_,_,_,_,_,_,_,_,_,_,⟨_,_,_,_,_,_,_,_,_,_,⟨g3,t3,cs3,f3,p3,q3,hg3,ht3,hv3,hd3,⟨_,_,_,_,_,_,_,_,_,_,⟨_,_,_,_,_,_,_,_,_,_,⟨_,_,_,_,_,_,_,_,_,_,⟨g7,t7,cs7,f7,p7,q7,hg7,ht7,hv7,hd7,⟨g8,t8,cs8,f8,p8,q8,hg8,ht8,hv8,hd8,⟨g9,t9,cs9,f9,p9,q9,hg9,ht9,hv9,hd9,⟨g10,t10,aBY,f10,p10,q10,aKR,aLO,aLQ,hd10,⟨g11,t11,aOF,f11,p11,q11,aKS,aLP,aLR,aCX,_⟩,_⟩,_⟩,_⟩,_⟩,_⟩,_⟩,_⟩,_⟩,_⟩,_⟩,_⟩:=h;obtain rfl:=Option.some.inj (gP.symm.trans hg3);obtain rfl:=Option.some.inj (gPT.symm.trans ht3);rw[aJN] at hd3;obtain rfl:=Option.some.inj (gB.symm.trans hg7);obtain rfl:=Option.some.inj (gC.symm.trans hg8);obtain rfl:=Option.some.inj (gS.symm.trans hg9);obtain rfl:=Option.some.inj (gO.symm.trans aKR);obtain rfl:=Option.some.inj (gR.symm.trans aKS);obtain rfl:=Option.some.inj (gBT.symm.trans ht7);obtain rfl:=Option.some.inj (gCT.symm.trans ht8);obtain rfl:=Option.some.inj (gST.symm.trans ht9);obtain rfl:=Option.some.inj (gOT.symm.trans aLO);obtain rfl:=Option.some.inj (gRT.symm.trans aLP);rw[aJK] at hd7;rw[aJL] at hd8;rw[aJP] at hd9;rw[aJM] at hd10;rw[aJO] at aCX
 have e3:=M9 (k:=1) (λz:Int=>(DataW.lit (.int .u64 z):DataW Unit)) (λz=>[.int .u64 z]) (λ_=>rfl)
   (λf c y q hh=>by obtain⟨z,hc,hz,_⟩:=DataW.trod_int Tryz.underlying146 hh;simp only[Prod.mk.injEq,DataW.lit.injEq,Lit.int.injEq,true_and] at hz;rw[hc,hz.1]) Tryz.underlying167 zW zP hd3
 have e7:=M9 (k:=1) (λz:Int=>(DataW.lit (.int .i64 z):DataW Unit)) (λz=>[.int .i64 z]) (λ_=>rfl)
   (λf c y q hh=>by obtain⟨z,hc,hz,_⟩:=DataW.trod_int Tryz.underlying3 hh;simp only[Prod.mk.injEq,DataW.lit.injEq,Lit.int.injEq,true_and] at hz;rw[hc,hz.1]) Tryz.underlying203 zI zB hd7
 have e8:=M9 (k:=1) (λi:Nat=>(DataW.lit (.int .u8 (P5 i:Nat)):DataW Unit)) (λi=>[.int .u8 (P5 i:Nat)]) (λ_=>rfl)
   (λf c y q hh=>by obtain⟨z,hc,hz,_⟩:=DataW.trod_int Tryz.underlying5 hh;simp only[Prod.mk.injEq,DataW.lit.injEq,Lit.int.injEq,true_and] at hz;rw[hc,hz.1]) Tryz.underlying151 zU zC hd8
 have e9:=M9 (k:=1) dG (λy=>[.string ⟨y.toArray⟩]) (λ_=>rfl) YD Tryz.underlying134 zS zY hd9;have e11:=M9 (k:=1) dG (λy=>[.string ⟨y.toArray⟩]) (λ_=>rfl) YD Tryz.underlying135 zS zR aCX
 have e10:aBY.toList=opsL.flatMap λy=>y.flatMap λz=>[.string ⟨z.toArray⟩]:=by
   obtain⟨xs,m,_,hx,hl,hxl,SE⟩:=DataW.trod_array Tryz.underlying143 hd10
   have hd:(opsL.map λl=>(DataW.agg (l.map dG):DataW Unit))=xs.map (·.1):=by
     have:=congrArg Prod.fst hx;simpa using this
   rw[zO] at hl;rw[z6] at SE;have aMO:∀y∈opsL,(y.flatMap λz=>[(Value.string ⟨z.toArray⟩:Value)]).length=6:=by decide
   have OQ:∀(i:Nat) y,opsL[i]?=some y->(aBY.toList.drop (i*6)).take 6=y.flatMap λz=>[.string ⟨z.toArray⟩]:=by
     intro i y hy;have hi:i < 6:=(List.getElem?_eq_some_iff.1 hy).1;have h2:=SE i hi;have hxi:xs[i]?=some xs[i]:=List.getElem?_eq_getElem (by omega);rw[hxi] at h2;have h3:(opsL.map λl=>(DataW.agg (l.map dG):DataW Unit))[i]?=(xs.map (·.1))[i]?:=by rw[hd]
     rw[List.getElem?_map,List.getElem?_map,hy,hxi] at h3;simp only[Option.map_some,Option.some.injEq] at h3;have h4:xs[i]=(.agg (y.map dG),xs[i].2):=Prod.ext h3.symm rfl;rw[h4] at h2;exact M9 (k:=1) dG (λy=>[.string ⟨y.toArray⟩]) (λ_=>rfl) YD Tryz.underlying142 zS z6 h2
   have l6:∀{l:List (List (List UInt8))} {cs:List Value},(∀y∈l,(y.flatMap λz=>[(Value.string ⟨z.toArray⟩:Value)]).length=6)->cs.length=l.length*6->(∀(i:Nat) y,l[i]?=some y->(cs.drop (i*6)).take 6=y.flatMap λz=>[.string ⟨z.toArray⟩])->cs=l.flatMap λy=>y.flatMap λz=>[.string ⟨z.toArray⟩]:=by
     intro l
     induction l with
     | nil=>intro cs _ h _;exact List.eq_nil_of_length_eq_zero (by simpa using h)
     | cons a l ih =>
       intro cs hq h hc;have h0:=hc 0 a rfl;rw[Nat.zero_mul,List.drop_zero] at h0
       have:=ih (cs:=cs.drop 6) (λy hy=>hq y (by simp[hy])) (by rw[List.length_drop,h,List.length_cons,Nat.succ_mul];omega) λi y hy=>by
         rw[List.drop_drop];have:=hc (i+1) y (by simpa using hy)
         rwa[Nat.succ_mul,Nat.add_comm] at this
       rw[List.flatMap_cons,<- h0,<- this,List.take_append_drop]
   exact l6 aMO (by rw[hl];rfl) OQ
 obtain⟨mx,hm⟩:=ayW GG;have FW:=Mo.stW W;refine⟨mx,FW.len,FW.desc,FW.nodup,FW.low,FW.box,FW.IN,FW.row,FW.IZ,FW.Md,FW.Mn,FW.IH,λg cs h=>?_,FW.PV⟩;unfold Hd.G at h;split at h;rename_i hg;cases h;rw[beq_true hg];exact Vh (PS gO aLQ) (by rw[e10];exact kS _ _ opsL);split at h;rename_i hg;cases h;rw[beq_true hg];exact Vh (PS gR aLR) (by rw[e11];exact Xf _ _ aEW);split at h;rename_i hg;cases h;rw[beq_true hg];exact Vh (PS gB hv7) (by rw[e7];exact uN _ _ aBP);split at h;rename_i hg;cases h;rw[beq_true hg];exact Vh (PS gC hv8) (by rw[e8];exact agZ _ _ _);split at h;rename_i hg;cases h;rw[beq_true hg];exact Vh (PS gS hv9) (by rw[e9];exact Xf _ _ _);split at h;rename_i hg;cases h;rw[beq_true hg];exact .cons (Mo.aAY hm) (.sc rfl) .nil;split at h;rename_i hg;cases h;rw[beq_true hg];exact Vh (PS gP hv3) (by rw[e3];exact ahF _ _ _);cases h
def oX{mx:Int}{f:FuncId}{args:List AV}{vs:List Value}{W:World}(FW:St (Hd.G mx) (Mo.WT W) W s0)(h:Pure Tryz.prog (Hd.G mx) f args (.sc (.bool true)))(ha:CH (Mo.WT W) W args vs):Calls Tryz.prog f vs.toArray W λe W'=>e=.returned (.bool true)/\Below W.heap.size W W':=by
 refine(h s0 (Mo.WT W) W vs FW ha).mono ?_;rintro e w' ⟨c',hx,_,u,rfl,hu⟩;cases hu;exact⟨rfl,hx.below⟩
def ayR:DataW Unit->List Value
 | .lit l=>[l.value]
 | _=>[]
def aCI:DataW Unit->List Value
 | .agg l=>l.flatMap ayR
 | d=>ayR d
def S1:DataW Unit->Array Value
 | .agg l=>(l.flatMap aCI).toArray
 | d=>(ayR d).toArray
def putCells(cs:Array Value):Obj->Obj
 | .cells _ t frozen=>.cells cs t frozen
 | o=>o
def low:Nat:=(World.holding Tryz.prog default ⟨#[],#[],[]⟩).heap.size
abbrev aFI:ByteArray:={ data:=#[118,97,108,117,101,32,111,117,116,32,111,102,32,114,97,110,103,101] }
abbrev aFJ:ByteArray:={ data:=#[105,110,118,97,108,105,100,32,115,121,110,116,97,120] }
def Vu(os:Os):World :=
 let w0:=World.holding Tryz.prog os ⟨#[.cells #[.string aFI] 210,.cells #[.string aFJ] 210],#[],[]⟩
 { w0 with heap:=((((((((((((w0.heap.modify 8 (putCells (S1 Rows.laid_math_bits_deBruijn32tab))).modify
     9 (putCells (S1 Rows.laid_math_bits_deBruijn64tab))).modify
     4 (putCells (S1 Rows.laid_internal_strconv_uint64pow10))).modify
     7 (putCells (S1 Rows.laid_unicode_utf8_acceptRanges))).modify
     11 (putCells #[.iface 208 (.pointer (some ⟨low,0,none⟩))])).modify
     10 (putCells #[.iface 208 (.pointer (some ⟨low+1,0,none⟩))])).modify
     12 (putCells (S1 Rows.laid_wageoffice_calendar_before))).modify
     3 (putCells (S1 Rows.laid_wageoffice_lexer_classes))).modify
     0 (putCells (S1 Rows.laid_wageoffice_lexer_symbols))).modify
     2 (putCells (S1 Rows.laid_wageoffice_parser_operators))).modify
     1 (putCells (S1 Rows.laid_wageoffice_parser_roles))).modify
     6 (putCells (S1 Rows.laid_unicode_utf8_first))) }
def afA(os:Os)(args:Array Value):laidMet Tryz.prog Rows.parserTreesRow.laid ((Vu os).forCall (λ_ _=>0) ⟨#[],args,[]⟩).memory :=
 laidMet_of_run3 8 (by kernel_rfl) (by kernel_rfl) (by kernel_rfl)
end Go.Proofs.YtpbkhogolfegfaaGreatDoor
namespace Go.Proofs.YtpbkhogolfegfaaGreatDoor
open AI Go
namespace Mo
set_option maxRecDepth 100000
set_option maxHeartbeats 4000000
variable {mx:Int}
def B61:Code:=Bk Tryz.f61
def b61:Tryz.f61.body=some B61:=by kernel_rfl
def aoY{s:List Pc}(hl:s.length*24<=140737488355328):Pure P (G mx) 61 [.sl .lost s.length (rows Iq s)] (.sl .lost s.length (rows Iq s)):=by
 refine pure_nil (λhn hc=>?_) ?_;rw[hn,hc];exact D6 Hd.mixed Hd.Ab (AA Tryz.func61 b61 (AJ (v:=.sl .full 0 []) _ _ (Ae 300 [pk]) (by kernel_rfl) .body (.wn (.z .nil) rfl))) rfl rfl;by_cases hm:s.length=0;obtain rfl:=List.eq_nil_of_length_eq_zero hm;exact D6 Hd.mixed Hd.Ab (AA Tryz.func61 b61 (AJ (v:=.sl .full 0 []) _ _ (Ae 300 [pk,pga (aJZ .full ([]:List Pc) ([]:List Pc) (o:=.nn) ⟨[],0,[],0⟩ rfl (by decide))]) (by kernel_rfl) .body (.wn (.z .nil) rfl))) rfl rfl;exact D6 Hd.mixed Hd.Ab (AA Tryz.func61 b61 (AJ (v:=.sl (.row 0 3) s.length (rows Iq s)) _ _ (Ae 300 [pk,PG (KW.aKD u24 u24 i64 (by decide) .full ([]:List Pc) s (o:=.nn) (Wn.refl _) rfl (KW.mZ (λ_=>rfl) s) hm (by rw[List.length_nil,Nat.zero_add];exact hl) (by simp;omega))]) (by kernel_rfl) .body (.wn (.s rfl .nil) (KW.Kx s)))) (Bz (aEO (KW.Bz s)) rfl) (KW.Kx s)
def B60:Code:=Bk Tryz.f60
def b60:Tryz.f60.body=some B60:=by kernel_rfl
def abW{s:List Nd}(hm:¬s.length=0)(hl:s.length<=100000000):Sound P (G mx) (.call 60 [.sl .nn s.length (Bf s)] ⟨[],0,[],0⟩ (.ret (.msl 0 0 s.length)) ⟨[(0,.cells (Bf s))],1,[],0⟩):=by
 refine aAE Hd.mixed (aaP (m:=1) Tryz.func60 b60 ?_);exact amW (n:=1) (m0:=0) Hd.Ab _ _ [0] [1] [⟨.msl 0 0 s.length,.msl 0 0 s.length,(.under rfl)⟩] [fbp (Bf s) (Az.Bz s)] _ _ (Ae 300 [pk,aMY (aBI s (o:=.nn) hm hl)]) (Nat.zero_le _) (Nat.zero_le _) (by kernel_rfl) .body
def nnI{c:Cx}{w:World}{n:Nat}{cs:List AV}{v:Value}(hm:¬n=0)(h:Rp c w (.sl .lost n cs) v):Rp c w (.sl .nn n cs) v:=by
 cases h with
 | sl0 _=>exact absurd rfl hm
 | KM hn hc _=>exact .KM hn hc trivial
def abU{s:List Nd}(hm:¬s.length=0)(hl:s.length<=100000000):Sound P (G mx) (.call 60 [.sl .lost s.length (Bf s)] ⟨[],0,[],0⟩ (.ret (.msl 0 0 s.length)) ⟨[(0,.cells (Bf s))],1,[],0⟩):=by
 intro cx w vs hs ha;refine abW hm hl cx w vs hs ?_;cases ha with
 | cons h1 t=>exact .cons (nnI hm h1) t
def abV{s:List Nd}(hm:¬s.length=0)(hl:s.length<=100000000)(nx nr:Nat):Cd.ok P (G mx) (.ZR 60 [.sl .lost s.length (Bf s)] nx nr (.msl (nx+0) 0 s.length) [((nx+0),.cells (Bf s))] 1 [] 0) :=
 awO Hd.Ab (abU hm hl) (Bz (Az.Kx s) rfl) (.msl (by decide)) (.cons (.cells (.pl (Az.Bz s))) .nil)
end Mo
end Go.Proofs.YtpbkhogolfegfaaGreatDoor
namespace Go.Proofs.YtpbkhogolfegfaaGreatDoor
open AI Go
namespace Mo
set_option maxRecDepth 100000
set_option maxHeartbeats 4000000
variable {mx:Int}
def Hr:Code:=Bk Tryz.f24
def b24:Tryz.f24.body=some Hr:=by kernel_rfl
def uP:P.underlying 88=some (.slice 87):=by kernel_rfl
def sE:(P.info? 87).map (·.size)=some 1:=by kernel_rfl
def dE:(P.underlying 87).map Nv=some false:=by kernel_rfl
def sL:(P.info? 27).map (·.size)=some 1:=by kernel_rfl
def dL:(P.underlying 27).map Nv=some false:=by kernel_rfl
def sQ:(P.info? 24).map (·.size)=some 1:=by kernel_rfl
def dQ:(P.underlying 24).map Nv=some false:=by kernel_rfl
def sI:(P.info? 3).map (·.size)=some 1:=by kernel_rfl
def zN(n:Nd):Nd:=⟨n.kind,n.name,n.unit,n.n,n.fr,n.to,n.known,n.CL,n.kids,0⟩
def Ku(L:List Nd)(i:Nat):List Nd:=(L.take i).map zN++L.drop i
def afT(L:List Nd):Ku L 0=L:=by simp[Ku]
def aoF(L:List Nd):Ku L L.length=L.map zN:=by simp[Ku]
def tM(L:List Nd)(i:Nat)(h:i<=L.length):(Ku L i).length=L.length:=by simp[Ku];omega
def aoG{L:List Nd}{i:Nat}{x:Nd}(h:L[i]?=some x):(Ku L i)[i]?=some x:=by
 have hl:=(List.getElem?_eq_some_iff.1 h).1;unfold Ku;rw[List.getElem?_append_right (by simp;omega),List.getElem?_drop];simp only[List.length_map,List.length_take];rw[show min i L.length=i by omega,Nat.sub_self,Nat.add_zero];exact h
def jN{L:List Nd}{i:Nat}{x:Nd}(h:L[i]?=some x):(Ku L i).set i (zN x)=Ku L (i+1):=by
 obtain⟨hl,hx⟩:=List.getElem?_eq_some_iff.1 h;unfold Ku;have e1:L.drop i=x::L.drop (i+1):=by rw[<- hx];exact List.drop_eq_getElem_cons hl
 have e2:L.take (i+1)=L.take i++[x]:=by rw[<- hx];exact(List.take_append_getElem hl).symm
 rw[e1,e2,List.set_append_right _ _ (by simp;omega),List.map_append,List.append_assoc];simp only[List.length_map,List.length_take];rw[show i - min i L.length=0 by omega];rfl
def kX{α:Type}{l:List α}{i:Nat}{x:α}(h:l[i]?=some x):l.set i x=l:=by
 obtain⟨hl,hx⟩:=List.getElem?_eq_some_iff.1 h;rw[<- hx];exact List.set_getElem_self hl
def pAt(nx:Nat)(L:List Nd)(i:Nat):List (Nat×Nat):=match L[i]? with
 | some k=>(match k.kids with
   | []=>[]
   | _::_=>[(nx,0+i*11+9)])
 | none=>[]
def kP(nx:Nat)(L:List Nd)(i:Nat):List (Nat×Nat):=(List.range i).flatMap (pAt nx L)
def W2(nx:Nat)(L:List Nd)(i:Nat):kP nx L (i+1)=kP nx L i++pAt nx L i:=by unfold kP;rw[List.range_succ,List.flatMap_append];simp
def agL(nx:Nat)(L:List Nd)(i:Nat):(pAt nx L i).length<=1:=by
 unfold pAt;split;split<;>simp
 simp
def auB(nx:Nat)(L:List Nd):∀i:Nat,(kP nx L i).length<=i
 | 0=>by simp[kP]
 | i+1=>by rw[W2,List.length_append];have:=auB nx L i;have:=agL nx L i;omega
abbrev FOs(g k cap:Nat)(j:List Value):List AV:=fr 72 [(2,.ptr 1 0),(3,.ptr 2 0),(4,.raw (some ⟨g,0,none⟩) k cap)] [13,36,61] j
abbrev FT(g k cap id off:Nat)(j:List Value):List AV:=fr 72 [(2,.ptr 1 0),(3,.ptr 2 0),(4,.raw (some ⟨g,0,none⟩) k cap),(5,.ptr id off)] [13,36,61] j
abbrev FI(g k cap id off n i:Nat)(j:List Value):List AV:=fr 72 [(2,.ptr 1 0),(3,.ptr 2 0),(4,.raw (some ⟨g,0,none⟩) k cap),(5,.ptr id off),(34,.sc (.int .i64 n)),(35,.sc (.int .i64 i))] [13,36,61] j
abbrev FL(g k cap id off n i:Nat)(j:List Value):List AV:=fr 72 [(2,.ptr 1 0),(3,.ptr 2 0),(4,.raw (some ⟨g,0,none⟩) k cap),(5,.ptr id off),(6,.sc (.int .i64 i)),(34,.sc (.int .i64 n)),(35,.sc (.int .i64 i))] [13,36,61] j
abbrev FK(g k cap id off n i nx:Nat)(j:List Value):List AV:=fr 72 [(2,.ptr 1 0),(3,.ptr 2 0),(4,.raw (some ⟨g,0,none⟩) k cap),(5,.ptr id off),(7,.ptr nx (0+i*11)),(34,.sc (.int .i64 n)),(35,.sc (.int .i64 i))] [13,36,61] j
section
variable {b:Nat} {B:Nat->Nat->Prop} {w0:World} {g cap:Nat} {ps:List (Nat×Nat)} {s:AS} {Q:QE} {j:List Value}
def aKE{k:Nat}(h:k≠0):E3 0 ((k:Nat):Int)=true:=Ny (by omega)
def aeC(t:Bool)(k:Nat)(hB:E3 0 ((k:Nat):Int)=t)(h:∀f,Ba (G mx) f (.tmp 13)=some (.sc (.bool t))->wkF f (FOs g k cap (js 3 j [(0,.bool t)]))=FOs g k cap (js 3 j [(0,.bool t)])->Q .normal f s (Eo b B w0 g cap ps)):WE P (G mx) (Eo b B w0 g cap ps) (sb Hr 480) (FOs g k cap j) s Q:=by
 have hr:RS (sb Hr 480) 3=true:=by kernel_rfl
 refine .reg hr ?_;show O5 P (G mx) _ _ [0,1,2] _ _ _;refine .q Hd.mixed Eo.G3 hr (by decide) (.raw (some ⟨g,0,none⟩) k cap) (by kernel_rfl) (by kernel_rfl) ?_;refine .len hr (by decide) (x:=.tmp 11) (t:=88) (A:=some ⟨g,0,none⟩) (k:=k) (cap:=cap) (by kernel_rfl) uP (by kernel_rfl) ?_;refine .hb Hd.mixed Eo.G3 hr (by decide) t hB (by kernel_rfl) ?_;exact .nil (h _ (by kernel_rfl) (by kernel_rfl))
def aEP{p:Nat×Nat}(hk:ps.length<=100000000)(h:WE P (G mx) (Eo b B w0 g cap ps) (sb Hr 1931) (FT g ps.length cap p.1 p.2 j) s Q):WE P (G mx) (Eo b B w0 g cap (ps++[p])) (sb Hr 482) (FOs g (ps++[p]).length cap j) s Q:=by
 have hw:SP (((ps++[p]).length:Nat):Int) 1=((ps.length:Nat):Int):=by
   rw[List.length_append,List.length_singleton,QC (by omega)];omega
 refine .SN (x:=sb Hr 964) (y:=sb Hr 965) (by kernel_rfl) ?_;have hr:RS (sb Hr 964) 7=true:=by kernel_rfl
 refine .reg hr ?_;show O5 P (G mx) _ _ [0,1,2,3,4,5,6] _ _ _;refine .q Hd.mixed Eo.G3 hr (by decide) (.raw (some ⟨g,0,none⟩) (ps++[p]).length cap) (by kernel_rfl) (by kernel_rfl) ?_;refine .q Hd.mixed Eo.G3 hr (by decide) (.raw (some ⟨g,0,none⟩) (ps++[p]).length cap) (by kernel_rfl) (by kernel_rfl) ?_;refine .len hr (by decide) (x:=.tmp 15) (t:=88) (A:=some ⟨g,0,none⟩) (k:=(ps++[p]).length) (cap:=cap) (by kernel_rfl) uP (by kernel_rfl) ?_;refine .hi Hd.mixed Eo.G3 hr (by decide) ((ps.length:Nat):Int) hw (by kernel_rfl) ?_;refine .top hr (by decide) (t:=88) (t2:=87) (e:=87) (d:=18) (x:=.tmp 14) (y:=.tmp 17) (by kernel_rfl) (by kernel_rfl) (by kernel_rfl) uP sE dE sE (by kernel_rfl) (by kernel_rfl) (by kernel_rfl) ?_;refine .q Hd.mixed Eo.G3 hr (by decide) (.ptr p.1 p.2) (by kernel_rfl) (by kernel_rfl) ?_;refine .nil ⟨rfl,?_⟩;refine .wk (fr2:=FT g (ps++[p]).length cap p.1 p.2 j) (by kernel_rfl) ?_;refine .SN (x:=sb Hr 1930) (y:=sb Hr 1931) (by kernel_rfl) ?_;have hr:RS (sb Hr 1930) 6=true:=by kernel_rfl
 refine .reg hr ?_;show O5 P (G mx) _ _ [0,1,2,3,4,5] _ _ _;refine .q Hd.mixed Eo.G3 hr (by decide) (.raw (some ⟨g,0,none⟩) (ps++[p]).length cap) (by kernel_rfl) (by kernel_rfl) ?_;refine .q Hd.mixed Eo.G3 hr (by decide) (.raw (some ⟨g,0,none⟩) (ps++[p]).length cap) (by kernel_rfl) (by kernel_rfl) ?_;refine .len hr (by decide) (x:=.tmp 21) (t:=88) (A:=some ⟨g,0,none⟩) (k:=(ps++[p]).length) (cap:=cap) (by kernel_rfl) uP (by kernel_rfl) ?_;refine .hi Hd.mixed Eo.G3 hr (by decide) ((ps.length:Nat):Int) hw (by kernel_rfl) ?_;refine .aMZ hr (by decide) (t:=88) (e:=87) (x:=.tmp 20) (y:=.tmp 23) (by kernel_rfl) uP sE (by kernel_rfl) (by kernel_rfl) ?_;refine .q Hd.mixed Eo.G3 hr (by decide) (.raw (some ⟨g,0,none⟩) ps.length cap) (by kernel_rfl) (by kernel_rfl) ?_;refine .nil ⟨rfl,?_⟩;exact .wk (by kernel_rfl) h
variable {id off nx:Nat} {L:List Nd}
def amC{H:List (Nat×AL)}{cs:List AV}(hid:id < nx)(WX:AI.look id H=some (.cells cs))(Vp:cs[off]?=some (.sl .lost L.length (Bf L)))(hL:¬L.length=0)(hl:L.length<=100000000)
   (h:WE P (G mx) (Eo b B w0 g cap ps) (sb Hr 7727) (FI g ps.length cap id off L.length 0 j) ⟨(nx,.cells (Bf L))::QT id (.cells (cs.set off (.msl nx 0 L.length))) H,nx+1,[],0⟩ Q) :
   WE P (G mx) (Eo b B w0 g cap ps) (sb Hr 1931) (FT g ps.length cap id off j) ⟨H,nx,[],0⟩ Q:=by
 have hne:nx≠id:=by omega
 have hlt:=(List.getElem?_eq_some_iff.1 Vp).1;have aKM:(cs.set off (.msl nx 0 L.length))[off]?=some (.msl nx 0 L.length):=List.getElem?_set_self hlt;refine .SN (x:=sb Hr 3862) (y:=sb Hr 3863) (by kernel_rfl) ?_;refine .run Hd.mixed Eo.G3 [pV (x:=AI.look id H) (ZQ dL sL Vp) WX,azJ (abV hL hl nx 0),apE (x:=AI.look id ((nx,.cells (Bf L))::H)) (v:=.msl nx 0 L.length) (off:=off) (abD (cs2:=cs.set off (.msl nx 0 L.length)) sL hlt rfl) ((dH hne).trans WX)] (e:=.normal) (fr2:=FT g ps.length cap id off j) (s2:=⟨QT id (.cells (cs.set off (.msl nx 0 L.length))) ((nx,.cells (Bf L))::H),nx+1,[],0⟩) (by kernel_rfl) (by intro v h;cases h) ⟨rfl,?_⟩;rw[aAV hne];refine .SN (x:=sb Hr 7726) (y:=sb Hr 7727) (by kernel_rfl) ?_;exact .qH Hd.mixed Eo.G3 [pV (x:=AI.look id ((nx,.cells (Bf L))::QT id (.cells (cs.set off (.msl nx 0 L.length))) H)) (ZQ dL sL aKM) ((dH hne).trans (Ym WX))] (e:=.normal) (fr2:=FI g ps.length cap id off L.length 0 j) (by kernel_rfl) (by intro v h;cases h) ⟨rfl,h⟩
def azO{i n:Nat}{s:AS}(hk:ps.length+1<=100000000):WE P (G mx) (Eo b B w0 g cap ps) (sb Hr 31650622) (FK g ps.length cap id off n i nx j) s (λe f s' E=>∃g' cap',e=.normal/\wkF f (FK g' (ps++[(nx,0+i*11+9)]).length cap' id off n i nx j)=FK g' (ps++[(nx,0+i*11+9)]).length cap' id off n i nx j/\s'=s/\E=Eo b B w0 g' cap' (ps++[(nx,0+i*11+9)])):=by
 have hr:RS (sb Hr 31650622) 7=true:=by kernel_rfl
 refine .reg hr ?_;show O5 P (G mx) _ _ [0,1,2,3,4,5,6] _ _ _;refine .q Hd.mixed Eo.G3 hr (by decide) (.raw (some ⟨g,0,none⟩) ps.length cap) (by kernel_rfl) (by kernel_rfl) ?_;refine .q Hd.mixed Eo.G3 hr (by decide) (.ptr nx (0+i*11)) (by kernel_rfl) (by kernel_rfl) ?_;refine .q Hd.mixed Eo.G3 hr (by decide) (.ptr nx (0+i*11)) (by kernel_rfl) (by kernel_rfl) ?_;refine .q Hd.mixed Eo.G3 hr (by decide) (.ptr nx (0+i*11+9)) (by kernel_rfl) (by kernel_rfl) ?_;refine .q Hd.mixed Eo.G3 hr (by decide) (.sl .full 1 [.ptr nx (0+i*11+9)]) (by kernel_rfl) (by kernel_rfl) ?_;refine .push hr (by decide) (t:=88) (tx:=88) (e:=87) (e2:=87) (id:=nx) (off:=0+i*11+9) (x:=.tmp 62) (y:=.tmp 66) (by kernel_rfl) uP uP (by kernel_rfl) (by kernel_rfl) (by kernel_rfl) hk (λg' cap'=>?_);refine .q Hd.mixed Eo.G3 hr (by decide) (.raw (some ⟨g',0,none⟩) (ps++[(nx,0+i*11+9)]).length cap') (by kernel_rfl) (by kernel_rfl) ?_;exact .nil ⟨g',cap',rfl,by kernel_rfl,rfl,rfl⟩
def agB{T:List (Nat×AL)}{cs:List AV}{i:Nat}{x:Nd}(hid:id < nx)(WX:AI.look id T=some (.cells cs))(Vp:cs[off]?=some (.msl nx 0 L.length))(hx:L[i]?=some x)(hp:x.CL.ps.length*24<=140737488355328)(t:Bool)(hB:E3 0 ((x.kids.length:Nat):Int)=t)
   (h:WE P (G mx) (Eo b B w0 g cap ps) (sb Hr 15825311) (FK g ps.length cap id off L.length i nx (js 3 j [(2,.bool t)])) ⟨(nx,.cells (Bf (Ku L (i+1))))::T,nx+1,[],0⟩ Q) :
   WE P (G mx) (Eo b B w0 g cap ps) (sb Hr 494540) (FI g ps.length cap id off L.length i j) ⟨(nx,.cells (Bf (Ku L i)))::T,nx+1,[],0⟩ Q:=by
 have hi:=(List.getElem?_eq_some_iff.1 hx).1;have hne:nx≠id:=by omega
 have aLE:∀b:AL,AI.look id ((nx,b)::T)=some (.cells cs):=λb=>(dH hne).trans WX;have hm:=aoG hx;have hl:=tM L i (by omega);have hm2:(Ku L (i+1))[i]?=some (zN x):=by rw[<- jN hx];exact List.getElem?_set_self (by omega)
 have hl2:=tM L (i+1) (by omega);have hN:∀y:Nd,(CS y).length=11:=λ_=>rfl;refine .SN (x:=sb Hr 989080) (y:=sb Hr 989081) (by kernel_rfl) ?_;refine .qH Hd.mixed Eo.G3 [] (e:=.normal) (fr2:=FL g ps.length cap id off L.length i j) (by kernel_rfl) (by intro v h;cases h) ⟨rfl,?_⟩;refine .SN (x:=sb Hr 1978162) (y:=sb Hr 1978163) (by kernel_rfl) ?_;refine .qH Hd.mixed Eo.G3 [pV (x:=AI.look id ((nx,.cells (Bf (Ku L i)))::T)) (ZQ dL sL Vp) (aLE _),G5 (atZ (id:=nx) hi)] (e:=.normal) (fr2:=FK g ps.length cap id off L.length i nx j) (by kernel_rfl) (by intro v h;cases h) ⟨rfl,?_⟩;refine .SN (x:=sb Hr 3956326) (y:=sb Hr 3956327) (by kernel_rfl) ?_;refine .run Hd.mixed Eo.G3 [apE (x:=AI.look nx ((nx,.cells (Bf (Ku L i)))::T)) (v:=.sc (.int .i64 0)) (off:=0+i*11+10) (abD (cs2:=Bf ((Ku L i).set i (zN x))) sI (by rw[LL,Is hN,hl];omega) (by rw[LL,LL,kO hN (j:=10) (y:=zN x) (v:=.sc (.int .i64 0)) hm (by decide) rfl,Nat.zero_add])) W4] (e:=.normal) (fr2:=FK g ps.length cap id off L.length i nx j) (s2:=⟨QT nx (.cells (Bf ((Ku L i).set i (zN x)))) ((nx,.cells (Bf (Ku L i)))::T),nx+1,[],0⟩) (by kernel_rfl) (by intro v h;cases h) ⟨rfl,?_⟩;rw[ajI,jN hx]
 have c8:(Bf (Ku L (i+1)))[0+i*11+7+1]?=some (.sl .lost x.CL.ps.length (rows Iq x.CL.ps)):=by
   rw[LL,show 0+i*11+7+1=i*11+8 by omega,eH hN hm2 (by decide)];rfl
 have c9:(Bf (Ku L (i+1)))[0+i*11+9]?=some (.sl .lost x.kids.length (Bf x.kids)):=by
   rw[LL,Nat.zero_add,eH hN hm2 (by decide)];rfl
 refine .SN (x:=sb Hr 7912654) (y:=sb Hr 7912655) (by kernel_rfl) ?_;refine .run Hd.mixed Eo.G3 [pV (x:=AI.look nx ((nx,.cells (Bf (Ku L (i+1))))::T)) (ZQ dQ sQ c8) W4,Bb (aoY hp),apE (x:=AI.look nx ((nx,.cells (Bf (Ku L (i+1))))::T)) (off:=0+i*11+7+1) (abD (cs2:=Bf (Ku L (i+1))) sQ (by rw[LL,Is hN,hl2];omega) (kX c8).symm) W4] (e:=.normal) (fr2:=FK g ps.length cap id off L.length i nx j) (s2:=⟨QT nx (.cells (Bf (Ku L (i+1)))) ((nx,.cells (Bf (Ku L (i+1))))::T),nx+1,[],0⟩) (by kernel_rfl) (by intro v h;cases h) ⟨rfl,?_⟩;rw[ajI];refine .SN (x:=sb Hr 15825310) (y:=sb Hr 15825311) (by kernel_rfl) ?_;exact .qH Hd.mixed Eo.G3 [pV (x:=AI.look nx ((nx,.cells (Bf (Ku L (i+1))))::T)) (ZQ dL sL c9) W4,pb hB] (e:=.normal) (fr2:=FK g ps.length cap id off L.length i nx (js 3 j [(2,.bool t)])) (by kernel_rfl) (by intro v h;cases h) ⟨rfl,h⟩
def aoU{i:Nat}{x:Nd}(hx:L[i]?=some x)(hk:x.kids=[]):pAt nx L i=[]:=by unfold pAt;rw[hx];simp only;rw[hk]
def aoV{i:Nat}{x:Nd}(hx:L[i]?=some x)(hk:x.kids≠[]):pAt nx L i=[(nx,0+i*11+9)]:=by
 unfold pAt;rw[hx];simp only;cases h:x.kids with
 | nil=>exact absurd h hk
 | cons a l=>rfl
def apQ{T:List (Nat×AL)}{cs:List AV}{i:Nat}{x:Nd}(hid:id < nx)(WX:AI.look id T=some (.cells cs))(Vp:cs[off]?=some (.msl nx 0 L.length))(hx:L[i]?=some x)(hp:x.CL.ps.length*24<=140737488355328)(hb:(ps++kP nx L i).length+1<=100000000)(hi6:i < 9223372036854775807)
   (h:∀g' cap' j',Q .normal (FI g' (ps++kP nx L (i+1)).length cap' id off L.length (i+1) j') ⟨(nx,.cells (Bf (Ku L (i+1))))::T,nx+1,[],0⟩ (Eo b B w0 g' cap' (ps++kP nx L (i+1)))) :
   WE P (G mx) (Eo b B w0 g cap (ps++kP nx L i)) (sb Hr 123635) (FI g (ps++kP nx L i).length cap id off L.length i j) ⟨(nx,.cells (Bf (Ku L i)))::T,nx+1,[],0⟩ Q:=by
 have fin:∀g' cap' j',WE P (G mx) (Eo b B w0 g' cap' (ps++kP nx L (i+1))) (sb Hr 247271) (FK g' (ps++kP nx L (i+1)).length cap' id off L.length i nx j') ⟨(nx,.cells (Bf (Ku L (i+1))))::T,nx+1,[],0⟩ Q:=λg' cap' j' =>
   .qH Hd.mixed Eo.G3 [AI.pi hi6] (e:=.normal) (fr2:=FI g' (ps++kP nx L (i+1)).length cap' id off L.length (i+1) j') (by kernel_rfl) (by intro v h;cases h) (h g' cap' j')
 refine .SN (x:=sb Hr 247270) (y:=sb Hr 247271) (by kernel_rfl) ?_;have hc:sb Hr 247270=.block 3 (sb Hr 494540):=by kernel_rfl
 rw[hc];refine .block ?_;by_cases hk:x.kids=[];have hs:kP nx L (i+1)=kP nx L i:=by rw[W2,aoU hx hk,List.append_nil]
 refine agB hid WX Vp hx hp false (KZ (by rw[hk];simp)) ?_;refine .ZV false (x:=sb Hr 31650622) (y:=sb Hr 31650623) (q:=.tmp 61) (by kernel_rfl) (by kernel_rfl) ?_;rw[if_neg (by decide),show sb Hr 31650623=.skip by kernel_rfl];refine .skip ⟨rfl,?_⟩;have:=fin g cap (js 3 j [(2,.bool false)]);rwa[hs] at this;have hs:kP nx L (i+1)=kP nx L i++[(nx,0+i*11+9)]:=by rw[W2,aoV hx hk]
 refine agB hid WX Vp hx hp true (Ny (by have:=List.length_pos_iff.2 hk;omega)) ?_;refine .ZV true (x:=sb Hr 31650622) (y:=sb Hr 31650623) (q:=.tmp 61) (by kernel_rfl) (by kernel_rfl) ?_;rw[if_pos rfl];refine(azO hb).mono ?_;rintro e f s' E ⟨g',cap',rfl,hf,rfl,rfl⟩;refine⟨rfl,.wk hf ?_⟩;have:=fin g' cap' (js 3 j [(2,.bool true)]);rwa[hs,<- List.append_assoc] at this
def ayT{T:List (Nat×AL)}{cs:List AV}(hid:id < nx)(WX:AI.look id T=some (.cells cs))(Vp:cs[off]?=some (.msl nx 0 L.length))(hp:∀x∈L,x.CL.ps.length*24<=140737488355328)(hb:ps.length+L.length<=100000000)
   (h:∀g' cap' j',Q .normal (FOs g' (ps++kP nx L L.length).length cap' j') ⟨(nx,.cells (Bf (L.map zN)))::T,nx+1,[],0⟩ (Eo b B w0 g' cap' (ps++kP nx L L.length))) :
   WE P (G mx) (Eo b B w0 g cap ps) (sb Hr 7727) (FI g ps.length cap id off L.length 0 j) ⟨(nx,.cells (Bf L))::T,nx+1,[],0⟩ Q:=by
 rw[show sb Hr 7727=.block 2 (.loop (sb Hr 30908)) by kernel_rfl];refine .block ?_;refine .loop (λm f s E=>∃i g cap j,i+m=L.length/\f=FI g (ps++kP nx L i).length cap id off L.length i j/\s=⟨(nx,.cells (Bf (Ku L i)))::T,nx+1,[],0⟩/\E=Eo b B w0 g cap (ps++kP nx L i)) ?_ (m:=L.length) ⟨0,g,cap,j,by omega,by simp[kP],by rw[afT],by simp[kP]⟩;rintro m _ _ _ ⟨i,g,cap,j,him,rfl,rfl,rfl⟩;refine .seqB (x:=sb Hr 61816) (y:=sb Hr 61817) (by kernel_rfl) ?_;by_cases hi:i < L.length;refine .qH Hd.mixed Eo.G3 [pb (W6 hi)] (e:=.normal) (fr2:=FI g (ps++kP nx L i).length cap id off L.length i (js 3 j [(1,.bool true)])) (by kernel_rfl) (by intro v h;cases h) (.inl ⟨rfl,?_⟩);refine .SN (x:=sb Hr 123634) (y:=sb Hr 123635) (by kernel_rfl) ?_;refine .ZV true (x:=sb Hr 247268) (y:=sb Hr 247269) (q:=.tmp 36) (by kernel_rfl) (by kernel_rfl) ?_;rw[if_pos rfl,show sb Hr 247268=.skip by kernel_rfl];refine .skip ⟨rfl,?_⟩;have hx:L[i]?=some L[i]:=List.getElem?_eq_getElem hi;refine apQ hid WX Vp hx (hp _ (List.getElem_mem hi)) (by rw[List.length_append];have:=auB nx L i;omega) (by omega) (λg' cap' j'=>.inl ⟨rfl,m - 1,by omega,i+1,g',cap',j',by omega,rfl,rfl,rfl⟩);have he:i=L.length:=by omega
 subst he;refine .qH Hd.mixed Eo.G3 [pb (dJ (i:=L.length) (n:=L.length) (Nat.le_refl _))] (e:=.normal) (fr2:=FI g (ps++kP nx L L.length).length cap id off L.length L.length (js 3 j [(1,.bool false)])) (by kernel_rfl) (by intro v h;cases h) (.inl ⟨rfl,?_⟩);refine .seqB (x:=sb Hr 123634) (y:=sb Hr 123635) (by kernel_rfl) ?_;refine .ZV false (x:=sb Hr 247268) (y:=sb Hr 247269) (q:=.tmp 36) (by kernel_rfl) (by kernel_rfl) ?_;rw[if_neg (by decide),show sb Hr 247269=.exit 2 by kernel_rfl];refine .wk (fr2:=FOs g (ps++kP nx L L.length).length cap (js 3 j [(1,.bool false)])) (by kernel_rfl) (.exit (.inr ⟨(by intro h;cases h),.inr ⟨(by intro h;cases h),?_⟩⟩));rw[aoF];exact h g cap _
end
abbrev Bx:=List (Nd×Option Nat)
def kcC(n:Nd):Option Nat->AV
 | none=>.sl .lost n.kids.length (Bf n.kids)
 | some id=>.msl id 0 n.kids.length
def jP(p:Nd×Option Nat):List AV:=[.sc (.int .i64 p.1.kind),.sc (.string p.1.name),.sc (.string p.1.unit),.sc (.int .i64 p.1.n),.sc (.int .i64 p.1.fr),.sc (.int .i64 p.1.to),.sc (.int .i64 p.1.known),.sc (.int .i64 p.1.CL.den),.sl .lost p.1.CL.ps.length (rows Iq p.1.CL.ps),kcC p.1 p.2,.sc (.int .i64 p.1.AU)]
def bxC(l:Bx):List AV:=rows jP l
def W8(p:Nd×Option Nat):(jP p).length=11:=rfl
def gI(L:List Nd):bxC (L.map λn=>(n,none))=Bf L:=by
 rw[LL];unfold bxC rows;rw[List.flatMap_map];rfl
def a1:AL:=.cells [.sc (.int .i64 0),.sc (.string ByteArray.empty),.sc (.string ByteArray.empty),.sc (.int .i64 0),.sc (.int .i64 0),.sc (.int .i64 0),.sc (.int .i64 0),.sc (.int .i64 0),.sl .full 0 [],.sl .full 0 [],.sc (.int .i64 0)]
def rkC(n0:Nd):Option Nat->AV
 | none=>.sl .lost [n0].length (Bf [n0])
 | some c=>.msl c 0 [n0].length
def aBH(rk:Option Nat)(n0:Nd):List (Nat×AL):=[(2,.cells [rkC n0 rk]),(1,a1),(0,.cells (CS n0))]
def HH(rk:Option Nat)(n0:Nd)(M:List Bx):List (Nat×AL):=IW (M.map λl=>.cells (bxC l)) 3 (aBH rk n0)
def rB{rk:Option Nat}{n0:Nd}{M:List Bx}{id:Nat}(h:id < 3):AI.look id (HH rk n0 M)=AI.look id (aBH rk n0):=S9 h
def aaM{rk:Option Nat}{n0:Nd}{M:List Bx}{i:Nat}{l:Bx}(h:M[i]?=some l):AI.look (3+i) (HH rk n0 M)=some (.cells (bxC l)):=Zu (by rw[List.getElem?_map,h];rfl)
def alH{rk:Option Nat}{n0:Nd}{M:List Bx}(c:Nat):QT 2 (.cells [rkC n0 (some c)]) (HH rk n0 M)=HH (some c) n0 M:=US (by decide)
def avM{rk:Option Nat}{n0:Nd}{M:List Bx}{i:Nat}{l:Bx}(hi:i < M.length):QT (3+i) (.cells (bxC l)) (HH rk n0 M)=HH rk n0 (M.set i l):=by
 unfold HH;rw[eW (by simpa using hi),List.map_set]
def rC{rk:Option Nat}{n0:Nd}{M:List Bx}{l:Bx}:HH rk n0 (M++[l])=(3+M.length,.cells (bxC l))::HH rk n0 M:=by
 unfold HH;rw[List.map_append,List.map_singleton,pF,List.length_map]
mutual
def cN:Nd->Nat
 | ⟨_,_,_,_,_,_,_,_,kids,_⟩=>1+cL kids
def cL:List Nd->Nat
 | []=>0
 | k::ks=>cN k+cL ks
end
def abL(n:Nd):cN n=1+cL n.kids:=by cases n;rw[cN]
def abI:∀l m:List Nd,cL (l++m)=cL l+cL m
 | [],m=>by simp[cL]
 | a::l,m=>by rw[List.cons_append,cL,cL,abI l m];omega
def abJ:∀l:List Nd,l.length<=cL l
 | []=>by simp
 | a::l=>by rw[List.length_cons,cL,abL];have:=abJ l;omega
mutual
def Wh:Nd->Prop
 | ⟨_,_,_,_,_,_,_,CL,kids,_⟩=>CL.ps.length*24<=140737488355328/\psL kids
def psL:List Nd->Prop
 | []=>True
 | k::ks=>Wh k/\psL ks
end
def uC:∀l:List Nd,psL l↔∀k∈l,Wh k
 | []=>by simp[psL]
 | a::l=>by rw[psL,uC l];simp
def Ox(n:Nd):Wh n↔n.CL.ps.length*24<=140737488355328/\∀k∈n.kids,Wh k:=by cases n;rw[Wh,uC]
mutual
def GA:Nd->Nd
 | ⟨kind,name,unit,n,fr,to,known,CL,kids,_⟩=>⟨kind,name,unit,n,fr,to,known,CL,stL kids,0⟩
def stL:List Nd->List Nd
 | []=>[]
 | k::ks=>GA k::stL ks
end
def uT:∀l:List Nd,stL l=l.map GA
 | []=>by rw[stL];rfl
 | k::l=>by rw[stL,uT l];rfl
def J8(n:Nd):GA n=⟨n.kind,n.name,n.unit,n.n,n.fr,n.to,n.known,n.CL,n.kids.map GA,0⟩:=by cases n;rw[GA,uT]
def aiC(n:Nd):GA (zN n)=GA n:=by rw[J8,J8];rfl
structure Inv(n0:Nd)(rk:Option Nat)(M:List Bx)(qs:List ((Nat×Nat)×List Nd)):Prop where
 apC:∀q∈qs,(q.1=(2,0)/\rk=none/\q.2=[n0])\/∃(i a:Nat) (l:Bx) (m:Nd),q.1=(3+i,0+a*11+9)/\M[i]?=some l/\l[a]?=some (m,none)/\q.2=m.kids/\m.kids≠[]
 aBZ:(qs.map (·.1)).Nodup
 all:(rk=none->(2,0)∈qs.map (·.1))/\∀(i a:Nat) (l:Bx) (m:Nd),M[i]?=some l->l[a]?=some (m,none)->m.kids≠[]->(3+i,0+a*11+9)∈qs.map (·.1)
 done:∀(i a:Nat) (l:Bx) (m:Nd) (c:Nat),M[i]?=some l->l[a]?=some (m,some c)->∃(i2:Nat) (l2:Bx),c=3+i2/\i < i2/\M[i2]?=some l2/\l2.map (·.1)=m.kids.map zN
 root:∀c,rk=some c->∃(i2:Nat) (l2:Bx),c=3+i2/\M[i2]?=some l2/\l2.map (·.1)=[zN n0]
 small:∀q∈qs,∀x∈q.2,Wh x
 zero:∀(i a:Nat) (l:Bx) (m:Nd) (c:Option Nat),M[i]?=some l->l[a]?=some (m,c)->m.AU=0
def mu(qs:List ((Nat×Nat)×List Nd)):Nat:=(qs.map λq=>1+cL q.2).sum
def dK(l m:List ((Nat×Nat)×List Nd)):mu (l++m)=mu l+mu m:=by simp[mu]
def afU(qs:List ((Nat×Nat)×List Nd)):qs.length<=mu qs:=by
 induction qs with
 | nil=>simp
 | cons q qs ih =>
   have:mu (q::qs)=1+cL q.2+mu qs:=by simp[mu]
   rw[this,List.length_cons];omega
def qAt(nx:Nat)(L:List Nd)(i:Nat):List ((Nat×Nat)×List Nd):=match L[i]? with
 | some k=>(match k.kids with
   | []=>[]
   | x::y=>[((nx,0+i*11+9),x::y)])
 | none=>[]
def kQ(nx:Nat)(L:List Nd)(i:Nat):List ((Nat×Nat)×List Nd):=(List.range i).flatMap (qAt nx L)
def dD(nx:Nat)(L:List Nd)(i:Nat):kQ nx L (i+1)=kQ nx L i++qAt nx L i:=by unfold kQ;rw[List.range_succ,List.flatMap_append];simp
def eA(nx:Nat)(L:List Nd)(i:Nat):(qAt nx L i).map (·.1)=pAt nx L i:=by
 unfold qAt pAt;cases L[i]? with
 | none=>rfl
 | some k=>simp only;cases k.kids<;>rfl
def oW(nx:Nat)(L:List Nd):∀i:Nat,(kQ nx L i).map (·.1)=kP nx L i
 | 0=>rfl
 | i+1=>by rw[dD,W2,List.map_append,oW nx L i,eA]
def Yh{nx:Nat}{L:List Nd}{i:Nat}{q:(Nat×Nat)×List Nd}:q∈kQ nx L i↔∃a k,a < i/\L[a]?=some k/\k.kids≠[]/\q=((nx,0+a*11+9),k.kids):=by
 unfold kQ;simp only[List.mem_flatMap,List.mem_range];constructor;rintro⟨a,ha,hq⟩;unfold qAt at hq;split at hq;rename_i k hk;split at hq;cases hq;rename_i x y hy;rw[List.mem_singleton] at hq;exact⟨a,k,ha,hk,by rw[hy];simp,by rw[hq,hy]⟩;cases hq;rintro⟨a,k,ha,hk,hne,rfl⟩;refine⟨a,ha,?_⟩;unfold qAt;rw[hk];simp only;cases hy:k.kids with
 | nil=>exact absurd hy hne
 | cons x y=>simp
def auC(nx:Nat)(L:List Nd):∀i:Nat,mu (kQ nx L i)<=cL (L.take i)
 | 0=>by simp[kQ,mu]
 | i+1=>by
   rw[dD,dK];have ih:=auC nx L i;by_cases hi:i < L.length;rw[<- List.take_append_getElem hi,abI]
   have:mu (qAt nx L i)<=cL [L[i]]:=by
     unfold qAt;rw[List.getElem?_eq_getElem hi];simp only[cL,Nat.add_zero];rw[abL];cases hk:L[i].kids with
     | nil=>simp[mu]
     | cons x y=>simp[mu]
   omega;have:qAt nx L i=[]:=by unfold qAt;rw[List.getElem?_eq_none (by omega)]
   rw[this,List.take_of_length_le (by omega)];rw[List.take_of_length_le (by omega)] at ih;simp[mu] at ih ⊢;exact ih
def jD(nx:Nat)(L:List Nd):∀i:Nat,((kQ nx L i).map (·.1)).Nodup
 | 0=>by simp[kQ]
 | i+1=>by
   rw[dD,List.map_append];refine List.nodup_append.2 ⟨jD nx L i,?_,?_⟩;rw[eA];have:=agL nx L i;cases h:pAt nx L i with
   | nil=>simp
   | cons a l=>rw[h] at this;simp at this;subst this;simp
   intro x hx y hy hxy;subst hxy;obtain⟨q,hq,rfl⟩:=List.mem_map.1 hx;obtain⟨a,k,ha,_,_,rfl⟩:=Yh.1 hq;rw[eA] at hy;unfold pAt at hy;split at hy;split at hy;cases hy;rw[List.mem_singleton] at hy;injection hy with _ h2
   omega;cases hy
def nF{L:List Nd}{a:Nat}{p:Nd×Option Nat}(h:(((L.map zN).map λn=>((n,none):Nd×Option Nat)))[a]?=some p):∃k,L[a]?=some k/\p=(zN k,none):=by
 rw[List.getElem?_map,List.getElem?_map] at h;cases hk:L[a]? with
 | none=>rw[hk] at h;cases h
 | some k=>rw[hk] at h;cases h;exact⟨k,rfl,rfl⟩
def amU{l:Bx}{a:Nat}{m:Nd}{c d:Option Nat}(h:l[a]?=some (m,c)):(l.set a (m,d)).map (·.1)=l.map (·.1):=by
 rw[List.map_set];exact kX (by rw[List.getElem?_map,h];rfl)
def Yq{α:Type}{l:List α}{x y:α}(h:x∈l++[y])(hne:x≠y):x∈l:=by
 rcases List.mem_append.1 h with h | h
 exact h;exact absurd (List.mem_singleton.1 h) hne
section
variable {n0:Nd} {rk:Option Nat} {M:List Bx} {qs:List ((Nat×Nat)×List Nd)} {q:(Nat×Nat)×List Nd}
def Inv.low(h:Inv n0 rk M qs):∀q∈qs,q.1.1 < 3+M.length:=λq hq=>by
 rcases h.apC q hq with ⟨e,_⟩ | ⟨i,a,l,m,e,hi,_⟩
 rw[e];show 2 < _;omega;rw[e];have:=(List.getElem?_eq_some_iff.1 hi).1;show 3+i < _;omega
def anW(h:((qs++[q]).map (·.1)).Nodup):∀q2∈qs,q2.1≠q.1:=λq2 h2 e=>by
 rw[List.map_append] at h;exact(List.nodup_append.1 h).2.2 _ (List.mem_map_of_mem h2) _ (by simp) e
def aeV(h:Inv n0 rk M (qs++[q])):∃(rk2:Option Nat) (M2:List Bx),Inv n0 rk2 M2 (qs++kQ (3+M.length) q.2 q.2.length)/\M2.length=M.length+1/\q.1.1 < 3+M.length/\q.2.length≠0 /\
   ∃cs,AI.look q.1.1 (HH rk n0 M)=some (.cells cs)/\cs[q.1.2]?=some (.sl .lost q.2.length (Bf q.2))/\HH rk2 n0 M2=(3+M.length,.cells (Bf (q.2.map zN)))::QT q.1.1 (.cells (cs.set q.1.2 (.msl (3+M.length) 0 q.2.length))) (HH rk n0 M):=by
 have aDE:=h.low q (by simp);have hne:=anW h.aBZ
 have hsm:∀q2∈qs++kQ (3+M.length) q.2 q.2.length,∀x∈q2.2,Wh x:=λq2 h2 x hx=>by
   rcases List.mem_append.1 h2 with h2 | h2
   exact h.small q2 (by simp[h2]) x hx;obtain⟨a,k,ha,hk,_,rfl⟩:=Yh.1 h2;exact((Ox k).1 (h.small q (by simp) k (List.mem_of_getElem? hk))).2 x hx
 have atP:((qs++kQ (3+M.length) q.2 q.2.length).map (·.1)).Nodup:=by
   rw[List.map_append];refine List.nodup_append.2 ⟨?_,jD _ _ _,λx hx y hy e=>?_⟩;have:=h.aBZ;rw[List.map_append] at this;exact(List.nodup_append.1 this).1;subst e;obtain⟨q2,h2,rfl⟩:=List.mem_map.1 hx;obtain⟨q3,h3,e3⟩:=List.mem_map.1 hy;obtain⟨a,k,_,_,_,rfl⟩:=Yh.1 h3;have:=h.low q2 (by simp[h2]);rw[<- e3] at this;simp at this
 have tS:∀(M3:List Bx),M3[M.length]?=some ((q.2.map zN).map λn=>(n,none))->∀q2∈kQ (3+M.length) q.2 q.2.length,∃(i a:Nat) (l:Bx) (m:Nd),q2.1=(3+i,0+a*11+9)/\M3[i]?=some l/\l[a]?=some (m,none)/\q2.2=m.kids/\m.kids≠[]:=λM3 hM q2 h2=>by
   obtain⟨a,k,ha,hk,hkn,rfl⟩:=Yh.1 h2;exact⟨M.length,a,_,zN k,rfl,hM,by rw[List.getElem?_map,List.getElem?_map,hk];rfl,rfl,hkn⟩
 have agA:∀(a:Nat) (m:Nd),(((q.2.map zN).map λn=>((n,none):Nd×Option Nat)))[a]?=some (m,none)->m.kids≠[]->(3+M.length,0+a*11+9)∈(qs++kQ (3+M.length) q.2 q.2.length).map (·.1):=λa m hm hk=>by
   obtain⟨k,hk2,e⟩:=nF hm;injection e with e1 _
   subst e1;rw[List.map_append];refine List.mem_append.2 (.inr (List.mem_map.2 ⟨_,Yh.2 ⟨a,k,(List.getElem?_eq_some_iff.1 hk2).1,hk2,hk,rfl⟩,rfl⟩))
 have tR:∀(a:Nat) (m:Nd) (c:Nat),(((q.2.map zN).map λn=>((n,none):Nd×Option Nat)))[a]?=some (m,some c)->False:=λa m c hm=>by
   obtain⟨k,_,e⟩:=nF hm;injection e with _ e2
   cases e2
 have tT:∀(a:Nat) (m:Nd) (c:Option Nat),(((q.2.map zN).map λn=>((n,none):Nd×Option Nat)))[a]?=some (m,c)->m.AU=0:=λa m c hm=>by
   obtain⟨k,_,e⟩:=nF hm;injection e with e1 _
   rw[e1];rfl
 rcases h.apC q (by simp) with ⟨e1,hrk,e2⟩ | ⟨i,a,l,m,e1,hi,ha,e2,hkn⟩
 · subst hrk
   have OQ:∀{i:Nat} {l:Bx},i≠M.length->(M++[((q.2.map zN).map λn=>((n,none):Nd×Option Nat))])[i]?=some l->M[i]?=some l:=λ{i l} hi hl=>by
     have:=(List.getElem?_eq_some_iff.1 hl).1;rw[List.length_append,List.length_singleton] at this;rwa[List.getElem?_append_left (by omega)] at hl
   have Zp:∀{i:Nat} {l:Bx},M[i]?=some l->(M++[((q.2.map zN).map λn=>((n,none):Nd×Option Nat))])[i]?=some l:=λ{i l} hl=>by
     rw[List.getElem?_append_left (List.getElem?_eq_some_iff.1 hl).1];exact hl
   have Lu:(M++[((q.2.map zN).map λn=>((n,none):Nd×Option Nat))])[M.length]?=some ((q.2.map zN).map λn=>(n,none)):=List.getElem?_concat_length
   have hzero:∀(i a:Nat) (l:Bx) (m:Nd) (c:Option Nat),(M++[((q.2.map zN).map λn=>((n,none):Nd×Option Nat))])[i]?=some l->l[a]?=some (m,c)->m.AU=0:=λi a l m c hi ha=>by
     by_cases iS:i=M.length;subst iS;rw[Lu] at hi;cases hi;exact tT a m c ha;exact h.zero i a l m c (OQ iS hi) ha
   refine⟨some (3+M.length),M++[(q.2.map zN).map λn=>(n,none)],⟨λq2 h2=>?_,atP,⟨(λh=>nomatch h),λi a l m hi ha hk=>?_⟩,λi a l m c hi ha=>?_,λc hc=>?_,hsm,hzero⟩,by simp,aDE,by rw[e2];simp,[rkC n0 none],?_,?_,?_⟩;rcases List.mem_append.1 h2 with h2 | h2
   rcases h.apC q2 (by simp[h2]) with ⟨e3,_,_⟩ | ⟨i,a,l,m,f1,f2,f3,f4,f5⟩
   exact absurd (e3.trans e1.symm) (hne q2 h2);exact .inr ⟨i,a,l,m,f1,Zp f2,f3,f4,f5⟩;exact .inr (tS _ Lu q2 h2);by_cases iS:i=M.length;subst iS;rw[Lu] at hi;cases hi;exact agA a m ha hk;have:=h.all.2 i a l m (OQ iS hi) ha hk;rw[List.map_append] at this ⊢;refine List.mem_append.2 (.inl (Yq this (by show _≠q.1;rw[e1];intro h;injection h with h _;omega)))
   · by_cases iS:i=M.length
     subst iS;rw[Lu] at hi;cases hi;exact(tR a m c ha).elim
     · obtain⟨i2,l2,f1,f2,f3,f4⟩:=h.done i a l m c (OQ iS hi) ha
       exact⟨i2,l2,f1,f2,Zp f3,f4⟩
   cases hc;exact⟨M.length,_,rfl,Lu,by rw[e2];rfl⟩;rw[e1];exact rB (by decide);rw[e1,e2];rfl;rw[rC,gI,e1,e2];congr 1;exact(alH (rk:=none) (3+M.length)).symm
 · have hiL:=(List.getElem?_eq_some_iff.1 hi).1
   have haL:=(List.getElem?_eq_some_iff.1 ha).1;have hlen:(M.set i (l.set a (m,some (3+M.length)))).length=M.length:=List.length_set
   have Lu:(M.set i (l.set a (m,some (3+M.length)))++[((q.2.map zN).map λn=>((n,none):Nd×Option Nat))])[M.length]?=some ((q.2.map zN).map λn=>(n,none)):=by
     have:=List.getElem?_concat_length (l:=M.set i (l.set a (m,some (3+M.length)))) (a:=(q.2.map zN).map λn=>((n,none):Nd×Option Nat));rwa[hlen] at this
   have sW:(M.set i (l.set a (m,some (3+M.length)))++[((q.2.map zN).map λn=>((n,none):Nd×Option Nat))])[i]?=some (l.set a (m,some (3+M.length))):=by
     rw[List.getElem?_append_left (by rw[hlen];exact hiL),List.getElem?_set_self hiL]
   have OQ:∀{i2:Nat} {l2:Bx},i2≠M.length->i2≠i->(M.set i (l.set a (m,some (3+M.length)))++[((q.2.map zN).map λn=>((n,none):Nd×Option Nat))])[i2]?=some l2->M[i2]?=some l2:=λ{i2 l2} h1 h2 hl=>by
     have:=(List.getElem?_eq_some_iff.1 hl).1;rw[List.length_append,List.length_singleton,hlen] at this;rwa[List.getElem?_append_left (by rw[hlen];omega),List.getElem?_set_ne (λe=>h2 e.symm)] at hl
   have Zp:∀{i2:Nat} {l2:Bx},M[i2]?=some l2->∃l3,(M.set i (l.set a (m,some (3+M.length)))++[((q.2.map zN).map λn=>((n,none):Nd×Option Nat))])[i2]?=some l3/\l3.map (·.1)=l2.map (·.1)/\∀b p,(i2,b)≠(i,a)->l2[b]?=some p->l3[b]?=some p:=λ{i2 l2} hl=>by
     have hl2:=(List.getElem?_eq_some_iff.1 hl).1;by_cases h2:i2=i;subst h2;rw[hi] at hl;cases hl;exact⟨_,sW,amU ha,λb p hb hp=>by rw[List.getElem?_set_ne (λe=>hb (by rw[e]))];exact hp⟩;exact⟨l2,by rw[List.getElem?_append_left (by rw[hlen];exact hl2),List.getElem?_set_ne (λe=>h2 e.symm)];exact hl,rfl,λb p _ hp=>hp⟩
   have hzero:∀(i2 a2:Nat) (l2:Bx) (m2:Nd) (c:Option Nat),(M.set i (l.set a (m,some (3+M.length)))++[((q.2.map zN).map λn=>((n,none):Nd×Option Nat))])[i2]?=some l2->l2[a2]?=some (m2,c)->m2.AU=0:=λi2 a2 l2 m2 c Ur X6=>by
     by_cases iS:i2=M.length;subst iS;rw[Lu] at Ur;cases Ur;exact tT a2 m2 c X6;by_cases h2:i2=i;subst h2;rw[sW] at Ur;cases Ur;by_cases h3:a2=a;subst h3;rw[List.getElem?_set_self haL] at X6;cases X6;exact h.zero i2 a2 l _ none hi ha;rw[List.getElem?_set_ne (λe=>h3 e.symm)] at X6;exact h.zero i2 a2 l m2 c hi X6;exact h.zero i2 a2 l2 m2 c (OQ iS h2 Ur) X6
   refine⟨rk,M.set i (l.set a (m,some (3+M.length)))++[(q.2.map zN).map λn=>(n,none)],⟨λq2 h2=>?_,atP,⟨λhr=>?_,λi2 a2 l2 m2 Ur X6 hk=>?_⟩,λi2 a2 l2 m2 c Ur X6=>?_,λc hc=>?_,hsm,hzero⟩,by simp,aDE,by rw[e2];exact λh=>hkn (List.eq_nil_of_length_eq_zero h),bxC l,?_,?_,?_⟩;rcases List.mem_append.1 h2 with h2 | h2
   rcases h.apC q2 (by simp[h2]) with h3 | ⟨i2,a2,l2,m2,f1,f2,f3,f4,f5⟩
   exact .inl h3;obtain⟨l3,g1,_,g3⟩:=Zp f2;exact .inr ⟨i2,a2,l3,m2,f1,g1,g3 a2 _ (λe=>hne q2 h2 (by injection e with x y;rw[f1,e1,x,y])) f3,f4,f5⟩
   exact .inr (tS _ Lu q2 h2);have:=h.all.1 hr;rw[List.map_append] at this ⊢;refine List.mem_append.2 (.inl (Yq this (by show _≠q.1;rw[e1];intro h;injection h with h _;omega)))
   by_cases iS:i2=M.length;subst iS;rw[Lu] at Ur;cases Ur;exact agA a2 m2 X6 hk
   have key:∀l4,M[i2]?=some l4->l4[a2]?=some (m2,none)->(i2,a2)≠(i,a)->(3+i2,0+a2*11+9)∈(qs++kQ (3+M.length) q.2 q.2.length).map (·.1):=λl4 h4 h5 h6=>by
     have:=h.all.2 i2 a2 l4 m2 h4 h5 hk;rw[List.map_append] at this ⊢
     refine List.mem_append.2 (.inl (Yq this (by
       show _≠q.1;rw[e1];intro e;injection e with x y
       exact h6 (by rw[show i2=i by omega,show a2=a by omega]))))
   by_cases h2:i2=i;subst h2;rw[sW] at Ur;cases Ur;by_cases h3:a2=a;subst h3;rw[List.getElem?_set_self haL] at X6;cases X6;rw[List.getElem?_set_ne (λe=>h3 e.symm)] at X6;exact key l hi X6 (λe=>by injection e with _ e;exact h3 e)
   exact key l2 (OQ iS h2 Ur) X6 (λe=>by injection e with e _;exact h2 e)
   · by_cases iS:i2=M.length
     subst iS;rw[Lu] at Ur;cases Ur;exact(tR a2 m2 c X6).elim
     · have old:∀l4,M[i2]?=some l4->l4[a2]?=some (m2,some c)->∃(i3:Nat) (l3:Bx),c=3+i3/\i2 < i3/\(M.set i (l.set a (m,some (3+M.length)))++[((q.2.map zN).map λn=>((n,none):Nd×Option Nat))])[i3]?=some l3/\l3.map (·.1)=m2.kids.map zN:=λl4 h4 h5=>by
         obtain⟨i3,l3,f1,f2,f3,f4⟩:=h.done i2 a2 l4 m2 c h4 h5;obtain⟨l5,g1,g2,_⟩:=Zp f3;exact⟨i3,l5,f1,f2,g1,g2.trans f4⟩
       by_cases h2:i2=i;subst h2;rw[sW] at Ur;cases Ur;by_cases h3:a2=a;subst h3;rw[List.getElem?_set_self haL] at X6;cases X6;exact⟨M.length,_,rfl,hiL,Lu,by rw[e2,List.map_map];simp[Function.comp_def]⟩;rw[List.getElem?_set_ne (λe=>h3 e.symm)] at X6;exact old l hi X6;exact old l2 (OQ iS h2 Ur) X6
   obtain⟨i3,l3,f1,f2,f3⟩:=h.root c hc;obtain⟨l5,g1,g2,_⟩:=Zp f2;exact⟨i3,l5,f1,g1,g2.trans f3⟩;rw[e1];exact aaM hi;rw[e1,e2];show(rows jP l)[0+a*11+9]?=_;rw[Nat.zero_add,eH W8 ha (by decide)];rfl;rw[rC,gI,hlen,e1];congr 1;rw[<- avM (by exact hiL)];congr 2;rw[e2];show rows jP (l.set a (m,some (3+M.length)))=(rows jP l).set (0+a*11+9) _;rw[Nat.zero_add,kO W8 (j:=9) (y:=(m,some (3+M.length))) (v:=.msl (3+M.length) 0 m.kids.length) ha (by decide) rfl]
def tN{p:Nat×Nat}(L:List Nd)(nx:Nat):mu (qs++kQ nx L L.length) < mu (qs++[(p,L)]):=by
 rw[dK,dK];have:=auC nx L L.length;rw[List.take_length] at this;have h2:mu [(p,L)]=1+cL L:=by simp[mu]
 omega
end
section
variable {c:Cx} {w:World} {s:AS} {n0:Nd} {rk:Option Nat} {M:List Bx}
def ZY(IB:∀g i v,LG c w g i v->LG (c.upto 0 0) w g i v){m:Nd}{k:Option Nat}{X Y:List AV}{vs:List Value}(hz:m.AU=0)
   (hk:∀v,Rp c w (kcC m k) v->Rp (c.upto 0 0) w (.sl .lost (m.kids.map GA).length (Bf (m.kids.map GA))) v) (hX:∀us,CH c w X us->CH (c.upto 0 0) w Y us) (h:CH c w (jP (m,k)++X) vs):CH (c.upto 0 0) w (CS (GA m)++Y) vs:=by
 have pl:∀{a:AV} {v:Value},plain a=true->Rp c w a v->Rp (c.upto 0 0) w a v:=λhp hr=>Rp.plain IB hp hr;rw[J8];cases h with
 | cons h0 h=>cases h with
 | cons h1 h=>cases h with
 | cons h2 h=>cases h with
 | cons h3 h=>cases h with
 | cons h4 h=>cases h with
 | cons h5 h=>cases h with
 | cons h6 h=>cases h with
 | cons h7 h=>cases h with
 | cons h8 h=>cases h with
 | cons h9 h=>cases h with
 | cons h10 h =>
   have h10:Rp c w (.sc (.int .i64 m.AU)) _:=h10;rw[hz] at h10;exact .cons (pl rfl h0) (.cons (pl rfl h1) (.cons (pl rfl h2) (.cons (pl rfl h3) (.cons (pl rfl h4) (.cons (pl rfl h5) (.cons (pl rfl h6) (.cons (pl rfl h7) (.cons (pl (KW.Kx m.CL.ps) h8) (.cons (hk _ h9) (.cons (pl rfl h10) (hX _ h)))))))))))
def aKC(hs:St (G mx) c w s)(hb:∀g,some g∈c.CT->∀i,¬c.bad g i)(hI:Inv n0 rk M [])(OQ:∀i l,M[i]?=some l->s.get (3+i)=some (.cells (bxC l)))(IB:∀g i v,LG c w g i v->LG (c.upto 0 0) w g i v) :
   ∀(d i:Nat) (l:Bx),M.length<=i+d->M[i]?=some l->∀g,c.CT[3+i]?=some (some g)->Bc (c.upto 0 0) w g 0 (Bf (l.map λp=>GA p.1)):=by
 intro d
 induction d with
 | zero=>intro i l hd hl;have:=(List.getElem?_eq_some_iff.1 hl).1;omega
 | succ d ih =>
   intro i l hd hl g hg;have hgm:=List.mem_of_getElem? hg;obtain⟨vs,ext,T,hw,hr⟩:=Pd hs hg (OQ i l hl)
   have key:∀(l2:Bx),(∀p∈l2,∃a:Nat,l[a]?=some p)->∀us,CH c w (rows jP l2) us->CH (c.upto 0 0) w (Bf (l2.map λp=>GA p.1)) us:=by
     intro l2
     induction l2 with
     | nil=>intro _ us h;cases h;exact .nil
     | cons p l2 oR =>
       intro hm us h;obtain⟨m,k⟩:=p;obtain⟨a,ha⟩:=hm (m,k) (by simp);rw[F9] at h;rw[List.map_cons,Az.cons];refine ZY IB (hI.zero i a l m k hl ha) (λv hv=>?_) (λus hu=>oR (λp hp=>hm p (by simp[hp])) us hu) h;cases k with
       | none =>
         have hk:m.kids=[]:=by
           by_cases hk:m.kids=[];exact hk;exact absurd (hI.all.2 i a l m hl ha hk) (by simp)
         have hv:Rp c w (.sl .lost m.kids.length (Bf m.kids)) v:=hv;rw[hk] at hv ⊢;exact Rp.plain IB rfl hv
       | some cc =>
         obtain⟨i2,l3,rfl,Ur,hl3,hf⟩:=hI.done i a l m cc hl ha;have hv:Rp c w (.msl (3+i2) 0 m.kids.length) v:=hv;cases hv with
         | @msl _ _ _ g2 cap hn hid =>
           have h3:=ih i2 l3 (by omega) hl3 g2 hid
           have e:(l3.map λp=>GA p.1)=m.kids.map GA:=by
             have:=congrArg (List.map GA) hf;rw[List.map_map,List.map_map] at this;rw[show(λp:Nd×Option Nat=>GA p.1)=GA∘(·.1) from rfl,this];exact List.map_congr_left λx _=>aiC x
           rw[e] at h3;rw[List.length_map];exact .KM hn h3 trivial
   refine Bc.On (key l (λp hp=>by obtain⟨a,ha⟩:=List.mem_iff_getElem?.1 hp;exact⟨a,ha⟩) vs hr) (λj v hj=>?_);rw[Nat.zero_add];refine⟨hs.Md g hgm,λGG=>?_,cell_of_heap hw (R5 hj)⟩;rcases GG with GG | ⟨r,n',cap',M4,hr,_⟩ | GG
   simp[Cx.upto] at GG;simp[Cx.upto] at hr;exact hb g hgm j GG
def wX(hI:Inv n0 rk M [])(OQ:∀i l,M[i]?=some l->s.get (3+i)=some (.cells (bxC l))){i:Nat}{k:Option Nat}(hl:M[i]?=some [(zN n0,k)]):rA (G mx) s (.agg (jP (zN n0,k))) (.agg (CS (GA n0))):=by
 intro c w u hs hb hr
 have IB:∀g i v,LG c w g i v->LG (c.upto 0 0) w g i v:=λg i v hv=>⟨hv.1,λGG=>by
   rcases GG with GG | ⟨r,n',cap',M4,hr,_⟩ | GG
   simp[Cx.upto] at GG;simp[Cx.upto] at hr;exact hv.2.1 (.inr (.inr GG)),hv.2.2⟩
 cases hr with
 | agg h =>
   have:=ZY (X:=[]) (Y:=[]) IB (m:=zN n0) (k:=k) rfl (λv hv=>?_) (λus hu=>by cases hu;exact .nil) (by rw[List.append_nil];exact h);rw[List.append_nil,aiC] at this;exact .agg this
   · cases k with
     | none =>
       have hk:(zN n0).kids=[]:=by
         by_cases hk:(zN n0).kids=[];exact hk;exact absurd (hI.all.2 i 0 _ _ hl rfl hk) (by simp)
       have hv:Rp c w (.sl .lost (zN n0).kids.length (Bf (zN n0).kids)) v:=hv;rw[hk] at hv ⊢;exact Rp.plain IB rfl hv
     | some cc =>
       obtain⟨i2,l3,rfl,Ur,hl3,hf⟩:=hI.done i 0 _ _ cc hl rfl;have hv:Rp c w (.msl (3+i2) 0 (zN n0).kids.length) v:=hv;cases hv with
       | @msl _ _ _ g2 cap hn hid =>
         have h3:=aKC hs hb hI OQ IB M.length i2 l3 (by omega) hl3 g2 hid
         have e:(l3.map λp=>GA p.1)=(zN n0).kids.map GA:=by
           have:=congrArg (List.map GA) hf;rw[List.map_map,List.map_map] at this;rw[show(λp:Nd×Option Nat=>GA p.1)=GA∘(·.1) from rfl,this];exact List.map_congr_left λx _=>aiC x
         rw[e] at h3;rw[List.length_map];exact .KM hn h3 trivial
end
section
variable {b:Nat} {B:Nat->Nat->Prop} {w0:World} {Q:QE} {n0:Nd}
def aoT{g:Nat}{j:List Value}(hc:cL [n0]<=99999998)(hp:Wh n0)
   (h:∀rk M g cap j,Inv n0 rk M []->Q .normal (FOs g 0 cap j) ⟨HH rk n0 M,3+M.length,[],0⟩ (Eo b B w0 g cap [])) :
   WE P (G mx) (Eo b B w0 g 1 [(2,0)]) (sb Hr 30) (FOs g 1 1 j) ⟨HH none n0 [],3,[],0⟩ Q:=by
 rw[show sb Hr 30=.block 0 (.loop (sb Hr 120)) by kernel_rfl];refine .block ?_;refine .loop (λm f s E=>∃rk M qs g cap j,Inv n0 rk M qs/\m=mu qs/\mu qs<=99999999/\f=FOs g (qs.map (·.1)).length cap j/\s=⟨HH rk n0 M,3+M.length,[],0⟩/\E=Eo b B w0 g cap (qs.map (·.1))) ?_ (m:=mu [((2,0),[n0])]) ⟨none,[],[((2,0),[n0])],g,1,j,?_,rfl,by simp[mu];omega,rfl,rfl,rfl⟩;rotate_left;exact⟨λq hq=>.inl (by rw[List.mem_singleton.1 hq];exact⟨rfl,rfl,rfl⟩),by simp,⟨λ_=>by simp,λi a l m hi=>by simp at hi⟩,λi a l m c hi=>by simp at hi,λc hc=>(nomatch hc),λq hq x hx=>by rw[List.mem_singleton.1 hq] at hx;rw[List.mem_singleton.1 hx];exact hp,λi a l m c hi=>by simp at hi⟩;rintro m _ _ _ ⟨rk,M,qs,g,cap,j,hI,rfl,hmu,rfl,rfl,rfl⟩;refine .seqB (x:=sb Hr 240) (y:=sb Hr 241) (by kernel_rfl) ?_;rcases List.eq_nil_or_concat qs with rfl | ⟨qs,q,rfl⟩
 refine .seqB (x:=sb Hr 480) (y:=sb Hr 481) (by kernel_rfl) ?_;refine aeC false 0 rfl (λf h13 hf=>.inl ⟨rfl,?_⟩);refine .ZV false (x:=sb Hr 962) (y:=sb Hr 963) (q:=.tmp 13) (by kernel_rfl) h13 ?_;rw[if_neg (by decide),show sb Hr 963=.exit 0 by kernel_rfl];exact .wk hf (.exit (.inr ⟨(by intro h;cases h),.inr ⟨(by intro h;cases h),h rk M g cap _ hI⟩⟩));rw[List.concat_eq_append] at hI hmu ⊢;have hqm:(qs++[q]).map (·.1)=qs.map (·.1)++[q.1]:=by rw[List.map_append];rfl
 have hlen:=afU (qs++[q]);rw[List.length_append,List.length_singleton] at hlen;refine .SN (x:=sb Hr 480) (y:=sb Hr 481) (by kernel_rfl) ?_;refine aeC true _ (aKE (by rw[hqm,List.length_append,List.length_singleton];omega)) (λf h13 hf=>⟨rfl,?_⟩);refine .ZV true (x:=sb Hr 962) (y:=sb Hr 963) (q:=.tmp 13) (by kernel_rfl) h13 ?_;rw[if_pos rfl,show sb Hr 962=.skip by kernel_rfl];refine .skip (.inl ⟨rfl,.wk hf ?_⟩);rw[show sb Hr 241=.block 1 (sb Hr 482) by kernel_rfl,hqm];refine .block ?_;obtain⟨rk2,M2,hI2,hM2,hid,hL,cs,WX,Vp,hH⟩:=aeV hI;have hmq:mu (qs++[q])=mu qs+(1+cL q.2):=by rw[dK];simp[mu]
 have hLc:=abJ q.2;have hql:=afU qs;refine aEP (by rw[List.length_map];omega) ?_;refine amC hid WX Vp hL (by omega) ?_;refine ayT hid (Ym WX) (List.getElem?_set_self (List.getElem?_eq_some_iff.1 Vp).1) (λx hx=>((Ox x).1 (hI.small q (by simp) x hx)).1) (by rw[List.length_map];omega) (λg' cap' j'=>.inl ⟨rfl,mu (qs++kQ (3+M.length) q.2 q.2.length),tN q.2 (3+M.length),rk2,M2,qs++kQ (3+M.length) q.2 q.2.length,g',cap',j',hI2,rfl,?_,?_,?_,?_⟩);have:=tN (qs:=qs) (p:=q.1) q.2 (3+M.length);have:mu (qs++[(q.1,q.2)])<=99999999:=hmu;omega;rw[List.map_append,oW];rw[hH,hM2];rfl;rw[List.map_append,oW]
def dN:(P.underlying 29).map Nv=some true:=by kernel_rfl
def sN:(P.info? 29).map (·.size)=some 11:=by kernel_rfl
def aiG{n:Nd}(hc:cL [n]<=99999998)(hp:Wh n):Pure P (G mx) 24 [.agg (CS n)] (.agg (CS (GA n))):=by
 refine aEQ Hd.mixed Hd.Ab Tryz.func24 b24 (λb B w0 hB=>?_) (Bz (Az.CN n) rfl) (Az.CN (GA n));refine .SN (x:=sb Hr 2) (y:=sb Hr 3) (by kernel_rfl) ?_;refine .run Hd.mixed E0.G3 [] (e:=.normal) (fr2:=fr 72 [(1,.ptr 0 0),(2,.ptr 1 0)] [13,36,61] [undef,undef,undef]) (s2:=⟨[(1,a1),(0,.cells (CS n))],2,[],0⟩) (by kernel_rfl) (by intro v h;cases h) ⟨rfl,?_⟩;refine .SN (x:=sb Hr 6) (y:=sb Hr 7) (by kernel_rfl) ?_;refine .run Hd.mixed E0.G3 [] (e:=.normal) (fr2:=fr 72 [(2,.ptr 1 0),(3,.ptr 2 0)] [13,36,61] [undef,undef,undef]) (s2:=⟨[(2,.cells [.sl .full 1 (CS n)]),(1,a1),(0,.cells (CS n))],3,[],0⟩) (by kernel_rfl) (by intro v h;cases h) ⟨rfl,?_⟩;refine .qB (id:=2) (b2:=.cells [rkC n none]) rfl (λcx w o ho=>?_) ?_
 · have e:Bf [n]=CS n:=by rw[LL];exact List.append_nil _
   cases ho with
   | Hs ext h1 =>
     refine .Hs ext ?_;cases h1 with
     | cons h1 t =>
       refine .cons ?_ t;show Rp cx w (.sl .lost 1 (Bf [n])) _;rw[e];cases h1 with
       | KM hn hc _=>exact .KM hn hc trivial
 show WE P (G mx) _ (sb Hr 7) _ ⟨HH none n [],3,[],0⟩ _;refine .SN (x:=sb Hr 14) (y:=sb Hr 15) (by kernel_rfl) ?_;have hr:RS (sb Hr 14) 2=true:=by kernel_rfl
 refine .reg hr ?_;show O5 P (G mx) _ _ [0,1] _ _ _;refine .begin hr (by decide) (t:=88) (e:=87) (x:=.tmp 3) (id:=2) (off:=0) (by kernel_rfl) uP (by kernel_rfl) (by kernel_rfl) (λg=>?_);refine .q Hd.mixed Eo.G3 hr (by decide) (.raw (some ⟨g,0,none⟩) 1 1) (by kernel_rfl) (by kernel_rfl) ?_;refine .nil ⟨rfl,.wk (fr2:=FOs g 1 1 [undef,undef,undef]) (by kernel_rfl) ?_⟩;refine .SN (x:=sb Hr 30) (y:=sb Hr 31) (by kernel_rfl) ?_;refine aoT hc hp (λrk M g cap j hI=>⟨rfl,?_⟩);cases rk with
 | none=>exact absurd (hI.all.1 rfl) (by simp)
 | some c =>
   obtain⟨i,l,rfl,hl,hf⟩:=hI.root c rfl
   obtain⟨k,rfl⟩:∃k,l=[(zN n,k)]:=by
     cases l with
     | nil=>cases hf
     | cons p l =>
       cases l with
       | cons _ _=>simp at hf
       | nil =>
         obtain⟨m,k⟩:=p;simp at hf;exact⟨k,by rw[hf]⟩
   have ho:(jP (zN n,k)).all one=true:=by cases k<;>rfl
   refine .seqB (x:=sb Hr 62) (y:=sb Hr 63) (by kernel_rfl) ?_;refine .run Hd.mixed Eo.G3 [pV (x:=AI.look 2 (HH (some (3+i)) n M)) (b:=.cells [.msl (3+i) 0 1]) (off:=0) (v:=.msl (3+i) 0 1) (ZQ dL sL rfl) (rB (by decide)),G5 (atZ (id:=3+i) (n:=1) (i:=0) (by decide)),pV (x:=AI.look (3+i) (HH (some (3+i)) n M)) (off:=0+0*11) (v:=.agg (jP (zN n,k))) (kM W8 dN sN (l:=[(zN n,k)]) rfl) (aaM hl),apE (x:=AI.look 1 (HH (some (3+i)) n M)) (b:=a1) (off:=0) (v:=.agg (jP (zN n,k))) (stA sN rfl rfl ho) (rB (by decide))] (e:=.normal) (fr2:=FOs g 0 cap j) (s2:=⟨QT 1 (.cells (jP (zN n,k))) (HH (some (3+i)) n M),3+M.length,[],0⟩) (by kernel_rfl) (by intro v h;cases h) (.inl ⟨rfl,?_⟩);rw[show sb Hr 63=.ret by kernel_rfl];have aLD:AI.look 1 (HH (some (3+i)) n M)=some a1:=rB (by decide);refine λcx w a K hE hs hf hd hK=>wp_ret (hK .ret _ _ _ ⟨.inr rfl,Eo.fin hB,.agg (jP (zN n,k)),aHQ (a:=.ptr 1 0) (t:=2) (ty:=29) (by kernel_rfl) (by kernel_rfl) ?_,wX hI (λi2 l2 h2=>?_) hl⟩ cx w a _ hE hs hd ⟨rfl,hf⟩)
   have hg:AS.get ⟨QT 1 (.cells (jP (zN n,k))) (HH (some (3+i)) n M),3+M.length,[],0⟩ 1=some (.cells (rows jP [(zN n,k)])):=by
     show AI.look 1 (QT 1 _ _)=_;rw[Ym aLD];rw[show rows jP [(zN n,k)]=jP (zN n,k) from List.append_nil _]
   have:=kM (P:=P) (G:=(G mx)) W8 dN sN (l:=[(zN n,k)]) (i:=0) (x:=(zN n,k)) rfl _ _ hg;simpa using this
   show AI.look (3+i2) (QT 1 _ _)=_;rw[IF (by omega)];exact aaM h2
end
end Mo
end Go.Proofs.YtpbkhogolfegfaaGreatDoor
namespace Go.Proofs.YtpbkhogolfegfaaGreatDoor
open AI Go
namespace Mo
variable {mx:Int}
open Classical in
def GK(n:Nd):Option Nd:=if cL [n]<=99999998/\Wh n then some (GA n) else none
def Ot{n:Nd}{yR:Nd}(h:GK n=some yR):Pure P (G mx) 24 [.agg (CS n)] (.agg (CS yR)):=by
 unfold GK at h;split at h;rename_i hc;cases h;exact aiG hc.1 hc.2;cases h
end Mo
end Go.Proofs.YtpbkhogolfegfaaGreatDoor
namespace Go.Proofs.YtpbkhogolfegfaaGreatDoor
open AI Go Go.RowKit LexS
namespace Mo
variable {mx:Int}
def aND{cx:Cx}{w:World}{s:AS}(h:St (G mx) cx w s):ML w:=by
 refine⟨λi hi=>?_,λj v hj=>?_⟩;have hc:=h.Mp 3 Hd.amD rfl;have he:Hd.amD[i]?=some (.sc (.int .u8 (P5 i:Nat))):=by simp[Hd.amD,hi]
 obtain⟨v,hv,hr⟩:=hc.get he;cases hr;have:=hv.2.2;rwa[Nat.zero_add] at this;have hc:=h.Mp 0 Hd.aqY rfl;have hj':(Gq.map λy=>Value.string ⟨y.toArray⟩)[j]?=some v:=by simpa[Iu] using hj
 rw[List.getElem?_map] at hj';obtain⟨y,hy,rfl⟩:=Option.map_eq_some_iff.1 hj';have he:Hd.aqY[j]?=some (Gz y):=by simp[Hd.aqY,hy]
 obtain⟨u,hu,hr⟩:=hc.get he;unfold Gz at hr;cases hr;have:=hu.2.2;rwa[Nat.zero_add] at this
def Vi{w w':World}(h:Below w.heap.size w w'):Q9 w w' (λ_=>False):=⟨h.os,h.tape,h.output,h.size,λk hk _=>h.block k hk⟩
def wQ(w:World)(e:TypeId)(s:ByteArray):Q9 w (Lib.bytesWorld w e s) (λ_=>False) :=
 Vi (Lib.below_freeze ((Below.drew (Below.refl _ w)).alloc (Nat.le_refl _) _) (p:=⟨w.heap.size,_,Option.none⟩) (Nat.le_refl _) 1)
def Nz(x:LexS.Tok):Tk:=⟨x.1,⟨x.2.1.toArray⟩,x.2.2⟩
def arL(l:List LexS.Tok):(rows II (l.map Nz)).length=(Ki l).length:=by
 unfold Ki
 induction l with
 | nil=>rfl
 | cons x l ih=>rw[List.map_cons,F9,List.flatMap_cons,List.length_append,List.length_append,ih];rfl
def aAO(cx:Cx)(w:World)(l:List LexS.Tok):CH cx w (rows II (l.map Nz)) (Ki l):=by
 unfold Ki
 induction l with
 | nil=>exact .nil
 | cons x l ih =>
   rw[List.map_cons,F9,List.flatMap_cons];exact CH.append (.cons (.sc rfl) (.cons (.sc rfl) (.cons (.sc rfl) .nil))) ih
def Kz(s:ByteArray):Option (List Tk×Int×Int):=some ((Ly s.data.toList).1.map Nz,(((Ly s.data.toList).2.1:Nat):Int),(((Ly s.data.toList).2.2:Nat):Int))
def MP{s:ByteArray}{yR:List Tk×Int×Int}(h:Kz s=some yR):Pure P (G mx) 34 [.sc (.string s)] (.Dd [.sl .lost yR.1.length (rows II yR.1),.sc (.int .i64 yR.2.1),.sc (.int .i64 yR.2.2)]):=by
 cases h;intro s0 cx w vs hs ha;cases ha with
 | cons h1 tl =>
 cases tl;cases h1;refine(anZ s w (aND hs)).mono ?_;rintro e w' ⟨u,rfl,OR,hb⟩;obtain⟨x,st⟩:=hs.same (Vi hb);refine⟨cx,x,st,_,rfl,?_⟩;show Rp cx w' (.Dd [.sl .lost ((Ly (L s)).1.map Nz).length (rows II ((Ly (L s)).1.map Nz)),.sc (.int .i64 (Ly (L s)).2.1),.sc (.int .i64 (Ly (L s)).2.2)]) _;refine .Dd (vs:=[u,.int .i64 (Ly (L s)).2.1,.int .i64 (Ly (L s)).2.2]) (.cons ?_ (.cons (.sc rfl) (.cons (.sc rfl) .nil)));have hl:=arL (Ly (L s)).1;have hc:=aAO cx w' (Ly (L s)).1;rw[List.length_map];obtain⟨h1,⟨rfl,h2⟩ | ⟨g,cap,cur,rfl,hg,hw,hn,_,hsz,htk⟩⟩:=OR;have:(Ly (L s)).1=[]:=List.eq_nil_of_length_eq_zero h2;rw[this];exact .sl0 trivial;refine .KM hn (Bc.On hc (λi v hi=>⟨(Array.getElem?_eq_some_iff.1 hw).1,λGG=>?_,?_⟩)) trivial;have:g < w.heap.size:=hs.TP GG;omega;rw[Nat.zero_add,cell_of_row w' g i cur _ _ hw];rw[<- htk,List.getElem?_take] at hi;split at hi;rwa[Array.getElem?_toList] at hi;cases hi
def Ro(s:ByteArray):Option (Int×Unit):=if s.data.toList.length<=18 then (Lib.atoi s.data.toList).map λn=>(n,()) else none
def rH{s:ByteArray}{yR:Int×Unit}(h:Ro s=some yR):Pure P (G mx) 173 [.sc (.string s)] (.Dd [.sc (.int .i64 yR.1),.sc .nilIface]):=by
 unfold Ro at h;split at h
 · rename_i hl
   cases hn:Lib.atoi s.data.toList with
   | none=>rw[hn] at h;cases h
   | some n =>
     rw[hn] at h;cases h;intro s0 cx w vs hs ha;cases ha with
     | cons h1 tl =>
     cases tl;cases h1;refine(Tryz.strconv_Atoi s n (by show s.data.size<=18;rw[<- Array.length_toList];exact hl) hn w).mono ?_;rintro e w' ⟨rfl,tt,rfl⟩;obtain⟨x,st⟩:=hs.same (wQ w _ tt);exact⟨cx,x,st,_,rfl,.Dd (vs:=[.int .i64 n,.nilIface]) (.cons (.sc rfl) (.cons (.sc rfl) .nil))⟩
 cases h
def JG(t o n:ByteArray)(k:Int):Option ByteArray:=if 1<=o.size/\t.size+Lib.countB t o*n.size<=4000 then some ⟨(Lib.replace t.data.toList o.data.toList n.data.toList k).toArray⟩ else none
def eC{t o n:ByteArray}{k:Int}{yR:ByteArray}(h:JG t o n k=some yR):Pure P (G mx) 163 [.sc (.string t),.sc (.string o),.sc (.string n),.sc (.int .i64 k)] (.sc (.string yR)):=by
 unfold JG at h;split at h
 · rename_i hl
   cases h;intro s0 cx w vs hs ha;cases ha with
   | cons a1 tl =>
   cases tl with
   | cons a2 tl =>
   cases tl with
   | cons a3 tl =>
   cases tl with
   | cons a4 tl =>
   cases tl;cases a1;cases a2;cases a3;cases a4
   have hm:w.cell? ⟨5,0,none⟩=some (.int .i64 mx):=by
     have hg:=hs.Mp 5 [Hd.int mx] rfl;obtain⟨v,hv,hr⟩:=hg.get (i:=0) rfl;unfold Hd.int at hr;cases hr;exact hv.2.2
   refine(Tryz.strings_Replace t o n k mx w (by omega) hm hl.1 (by omega)).mono ?_;rintro e w' ⟨rfl,hb⟩;obtain⟨x,st⟩:=hs.same (Vi hb);exact⟨cx,x,st,_,rfl,.sc rfl⟩
 cases h
def ajB:Nd⊕Dg->Nd×Dg×Bool
 | .inl n=>(n,⟨0,0⟩,true)
 | .inr d=>(⟨0,ByteArray.empty,ByteArray.empty,0,0,0,0,⟨0,[]⟩,[],0⟩,d,false)
end Mo
end Go.Proofs.YtpbkhogolfegfaaGreatDoor

namespace AI
open Go
abbrev AV.zi(x:Int):AV:=.sc (.int .i64 x)
abbrev AV.zs(x:ByteArray):AV:=.sc (.string x)
abbrev AV.zb(x:Bool):AV:=.sc (.bool x)
abbrev bT:Value:=.bool true
abbrev bF:Value:=.bool false
def Er{α β:Type}{a b:α}{c d:β}{Q:Prop}(k:a=b->c=d->Q):some (a,c)=some (b,d)->Q:=λh=>by cases h;exact k rfl rfl
def rT{P:Program}{G:A8}{c:Code}{fr:List AV}{s:AS}{x:Value}{fn:Func}{m:Nat}(l:List (PC P G))(h:apN P fn (SD P G 300 c [] (pHs l) fr s)=some (fQ l,.sc x):=by kernel_rfl):W P G (XS P G) H0 c fr s (SW P fn m (λr _=>∃a,r=.ret a/\Fits 0 0 a (.sc x))):=rS (Ae 300 l) h
end AI
namespace Go.Proofs.YtpbkhogolfegfaaGreatDoor
open AI Go
namespace Mo
variable {mx:Int}
abbrev ndL(x:Nd)(r:List AV):List AV:=.zi x.kind::.zs x.name::.zs x.unit::.zi x.n::.zi x.fr::.zi x.to::.zi x.known::.zi x.CL.den::.sl .lost x.CL.ps.length (rows Iq x.CL.ps)::.sl .lost x.kids.length (Bf x.kids)::.zi x.AU::r
end Mo
end Go.Proofs.YtpbkhogolfegfaaGreatDoor
namespace AI
open Go
def BV{α β γ δ:Type}{m:Option ((α⊕β)×γ)}{k:(α⊕β)×γ->Option δ}{r:δ}{X:Prop}(h1:∀a c,m=some (.inl a,c)->k (.inl a,c)=some r->X)(h2:∀b c,m=some (.inr b,c)->k (.inr b,c)=some r->X):m.bind k=some r->X:=λh=>by
 cases m with
 | none=>cases h
 | some p =>
   obtain⟨a | b,c⟩:=p;exact h1 a c rfl h;exact h2 b c rfl h
end AI
namespace Go.Proofs.YtpbkhogolfegfaaGreatDoor
open AI Go
namespace Mo
variable {mx:Int}
abbrev pC(p:Pr)(x:Int):List AV:=[.sl .lost p.Br.length (rows II p.Br),.zi x,.zi p.DC]
abbrev pZ(p:Pr):AS:=⟨[(0,.cells (QQ p))],1,[],0⟩
abbrev pS(p:Pr)(x:Int):AS:=⟨[(0,.cells (pC p x))],1,[],0⟩
def pW{n m:Nat}(p:Pr)(x:Int):FO n m:=bw (.cells (pC p x)) (.cells (pC p x)) (.cells (.plain (Bz (D3.Kx p.Br) (Bz rfl (Bz rfl rfl)))))
abbrev PX:List AV:=[.zi 0,.zs ByteArray.empty,.zs ByteArray.empty,.zi 0,.zi 0,.zi 0,.zi 0,.zi 0,.sl .full 0 [],.sl .full 0 [],.zi 0]
def mS{n m:Nat}:FO n m:=bw (.cells PX) (.cells PX) (.cells (.plain (Bz rfl (Bz rfl (Bz rfl (Bz rfl (Bz rfl (Bz rfl (Bz rfl (Bz rfl (Bz (Wg rfl) (Bz (Wg rfl) (Bz rfl rfl)))))))))))))
abbrev eD:Dg->AV:=λdV=>.ifc 45 (.agg (Ph dV))
def gD{n m:Nat}(d:Dg):FP n m:=⟨eD d,eD d,.plain (Cn.CN d)⟩
abbrev eN:Nd->AV:=λyV=>.agg (CS yV)
abbrev eT:Tk->AV:=λyV=>.agg (II yV)
abbrev eI:Int->AV:=λyV=>.zi yV
abbrev eJ:Int×Int->AV:=λyV=>.Dd [.zi yV.1,.zi yV.2]
abbrev eL:List Nd->AV:=λyV=>.sl .lost yV.length (Bf yV)
abbrev eP:Pt->AV:=λyV=>.agg (Xd yV)
abbrev pR(mx:Int)(f:Nat)(al:List AV)(p:Pr)(r:CR)(x:Int):Prop:=Sound P (G mx) (.call f al (pZ p) r (pS p x))
section
variable {c:Code} {fr0:List AV} {s s0 s2:AS} {Q:AX->List AV->AS->Prop} {m:Nat} {v:AV} {ks:List KI}
def H8(d:Dg)(p:Pr)(x:Int)(l:List (PC P (G mx)))(k:Th (G mx) m s0 Q v s2)(h:aoW s0.nx s0.nr m [v] (Zf (n:=s0.nx) (m:=s0.nr) [gD d]) (nV (n:=s0.nx) (m:=s0.nr) [pW p x]) (SD P (G mx) 300 c [] (pHs l) fr0 s)=some (fQ l,[v],s2,fK (n:=s0.nx) (m:=s0.nr) [gD d],foA (n:=s0.nx) (m:=s0.nr) [pW p x]):=by kernel_rfl):W P (G mx) (XS P (G mx)) H0 c fr0 s Q:=BN Hd.Ab m [gD d] [pW p x] (Ae 300 l) h k
def qgB(d:Dg)(p:Pr)(x:Int)(l:List (PC P (G mx)))(k:Th (G mx) m s0 Q v s2)(h:aoW s0.nx s0.nr m [v] (Zf (n:=s0.nx) (m:=s0.nr) [gD d]) (nV (n:=s0.nx) (m:=s0.nr) [pW p x]) (QY (SD P (G mx) 300) ks .normal (pHs l) fr0 s)=some (fQ l,[v],s2,fK (n:=s0.nx) (m:=s0.nr) [gD d],foA (n:=s0.nx) (m:=s0.nr) [pW p x]):=by kernel_rfl):CY P (G mx) ks Q .normal fr0 s:=BN Hd.Ab m [gD d] [pW p x] (HY 300 l) h k
end
section
variable {f:Nat} {al:List AV} {p:Pr} {x:Int}
def quG{r:CR}(hr:∀ρ σ,RnR 1 0 ρ σ r r)(hS:pR mx f (.ptr 0 0::al) p r x)(u0:Nat)(ha:BC al=true):Cd.ok P (G mx) (.E6 f (.ptr u0 0::al) r [(u0,.cells (QQ p))] [] [(u0,.cells (pC p x))] []) :=
 Hu (M:=[.cells (QQ p)]) (M2:=[.cells (pC p x)]) (T:=[]) (T2:=[]) (k:=1) (j:=0) Hd.Ab _ _ _ _ hS rfl rfl rfl rfl rfl (List.nodup_cons.2 ⟨by simp,List.nodup_nil⟩) List.nodup_nil rfl rfl (.cons (.cells (.pl (CK.pl p))) .nil) (.cons (.cells (.pl (Bz (D3.Kx p.Br) (Bz rfl (Bz rfl rfl))))) .nil) (.cons (.ptr (by decide)) (.pl ha)) (hr _ _) (λe he=>by simp only[List.mem_singleton] at he;subst he;exact(.arg (.here .ptr)))
def Hm{y:Nd⊕Dg}(hS:pR mx f (.ptr 0 0::al) p (I0 eN eD y) x)(u0:Nat)(ha:BC al=true:=by kernel_rfl):Cd.ok P (G mx) (.E6 f (.ptr u0 0::al) (I0 eN eD y) [(u0,.cells (QQ p))] [] [(u0,.cells (pC p x))] []):=quG (λ_ _=>LR (enc:=eN) (encd:=eD) (λyV=>Az.CN yV) (λdV=>Cn.CN dV) y) hS u0 ha
def Ic{y:Tk⊕Dg}(hS:pR mx f (.ptr 0 0::al) p (I0 eT eD y) x)(u0:Nat)(ha:BC al=true:=by kernel_rfl):Cd.ok P (G mx) (.E6 f (.ptr u0 0::al) (I0 eT eD y) [(u0,.cells (QQ p))] [] [(u0,.cells (pC p x))] []):=quG (λ_ _=>LR (enc:=eT) (encd:=eD) (λyV=>D3.CN yV) (λdV=>Cn.CN dV) y) hS u0 ha
def aH{y:Int⊕Dg}(hS:pR mx f (.ptr 0 0::al) p (I0 eI eD y) x)(u0:Nat)(ha:BC al=true:=by kernel_rfl):Cd.ok P (G mx) (.E6 f (.ptr u0 0::al) (I0 eI eD y) [(u0,.cells (QQ p))] [] [(u0,.cells (pC p x))] []):=quG (λ_ _=>LR (enc:=eI) (encd:=eD) (λyV=>rfl) (λdV=>Cn.CN dV) y) hS u0 ha
def MF{y:(Int×Int)⊕Dg}(hS:pR mx f (.ptr 0 0::al) p (I0 eJ eD y) x)(u0:Nat)(ha:BC al=true:=by kernel_rfl):Cd.ok P (G mx) (.E6 f (.ptr u0 0::al) (I0 eJ eD y) [(u0,.cells (QQ p))] [] [(u0,.cells (pC p x))] []):=quG (λ_ _=>LR (enc:=eJ) (encd:=eD) (λyV=>rfl) (λdV=>Cn.CN dV) y) hS u0 ha
def NP{a:AV}(hS:Sound P (G mx) (.call f (.ptr 0 0::al) (pZ p) (.ret a) (pZ p)))(u0:Nat)(ha:BC al=true:=by kernel_rfl)(hp:plain a=true:=by kernel_rfl):Cd.ok P (G mx) (.E6 f (.ptr u0 0::al) (.ret a) [(u0,.cells (QQ p))] [] [(u0,.cells (QQ p))] []):=quG (x:=p.JM) (r:=.ret a) (λ_ _=>.pl hp) hS u0 ha
end
end Mo
end Go.Proofs.YtpbkhogolfegfaaGreatDoor
namespace Go.Proofs.YtpbkhogolfegfaaGreatDoor
open AI Go
namespace Mo
set_option maxRecDepth 100000
set_option maxHeartbeats 4000000
variable {mx:Int}
def B49:Code:=Bk Tryz.f49
def b49:Tryz.f49.body=some B49:=by kernel_rfl
def L5(p:Pr)(err:Int)(at_:Int):Option (Unit⊕Dg):=some (Sum.inr (⟨err,at_⟩:Dg):(Unit⊕Dg))
def As{p:Pr}{err:Int}{at_:Int}{yR:(Unit⊕Dg)}(hS:Sound P (G mx) (.call 49 [.ptr 0 0,.zi err,.zi at_] (pZ p) (I0 (λyV=>.Dd []) eD yR) (pZ p)))(u0:Nat)(Pm:([u0]:List Nat).Nodup:=by decide)(Pn:([]:List Nat).Nodup:=by decide):Cd.ok P (G mx) (.E6 49 [.ptr u0 0,.zi err,.zi at_] (I0 (λyV=>.Dd []) eD yR) [(u0,.cells (QQ p))] [] [(u0,.cells (QQ p))] []) :=
 Hu (M:=[.cells (QQ p)]) (M2:=[.cells (QQ p)]) (T:=[]) (T2:=[]) (k:=1) (j:=0) Hd.Ab _ _ _ _ hS rfl rfl rfl rfl rfl Pm Pn rfl rfl (.cons (.cells (.pl (CK.pl p))) .nil) (.cons (.cells (.pl (CK.pl p))) .nil) (.cons (.ptr (by decide)) (.cons (.pl rfl) (.cons (.pl rfl) .nil))) (LR (enc:=λyV=>.Dd []) (encd:=λdV=>.ifc 45 (.agg (Ph dV))) (λyV=>rfl) (λdV=>(Cn.CN dV)) yR) (λe he=>by simp only[List.mem_singleton] at he;subst he;exact(.arg (.here .ptr)))
def Am{p:Pr}{err:Int}{at_:Int}{yR:(Unit⊕Dg)}(h:L5  p err at_=some yR):Sound P (G mx) (.call 49 [.ptr 0 0,.zi err,.zi at_] (pZ p) (I0 (λyV=>.Dd []) eD yR) (pZ p)):=by
 unfold L5 at h;refine B1 Hd.mixed (AA Tryz.func49 b49 ?_);revert h;rintro⟨⟩;exact BN Hd.Ab _ [⟨.ifc 45 (.agg [.zi err,.zi at_]),.ifc 45 (.agg [.zi err,.zi at_]),(.plain (Cn.CN (⟨err,at_⟩:Dg)))⟩] [bp (CK.pl p)] (Ae 300 [ppn]) (by kernel_rfl) .body
def B69:Code:=Bk Tryz.f69
def b69:Tryz.f69.body=some B69:=by kernel_rfl
def AD(p:Pr):Option (Tk⊕Dg):=cond (S7 ((p.Br.length:Nat):Int) p.JM) (some (Sum.inr (⟨72,p.DC⟩:Dg):(Tk⊕Dg))) ((IA p.Br p.JM).bind λx1=>some (Sum.inl x1:(Tk⊕Dg)))
def Av{p:Pr}{yR:(Tk⊕Dg)}(hS:Sound P (G mx) (.call 69 [.ptr 0 0] (pZ p) (I0 eT eD yR) (pZ p)))(u0:Nat)(Pm:([u0]:List Nat).Nodup:=by decide)(Pn:([]:List Nat).Nodup:=by decide):Cd.ok P (G mx) (.E6 69 [.ptr u0 0] (I0 eT eD yR) [(u0,.cells (QQ p))] [] [(u0,.cells (QQ p))] []) :=
 Hu (M:=[.cells (QQ p)]) (M2:=[.cells (QQ p)]) (T:=[]) (T2:=[]) (k:=1) (j:=0) Hd.Ab _ _ _ _ hS rfl rfl rfl rfl rfl Pm Pn rfl rfl (.cons (.cells (.pl (CK.pl p))) .nil) (.cons (.cells (.pl (CK.pl p))) .nil) (.cons (.ptr (by decide)) .nil) (LR (enc:=λyV=>.agg (II yV)) (encd:=λdV=>.ifc 45 (.agg (Ph dV))) (λyV=>(D3.CN yV)) (λdV=>(Cn.CN dV)) yR) (λe he=>by simp only[List.mem_singleton] at he;subst he;exact(.arg (.here .ptr)))
def Ao{p:Pr}{yR:(Tk⊕Dg)}(h:AD  p=some yR):Sound P (G mx) (.call 69 [.ptr 0 0] (pZ p) (I0 eT eD yR) (pZ p)):=by
 unfold AD at h;refine B1 Hd.mixed (AA Tryz.func69 b69 ?_);revert h;refine Ai (λBq=>?_) λBq=>?_;rintro⟨⟩;exact BN Hd.Ab _ [⟨.ifc 45 (.agg [.zi 72,.zi p.DC]),.ifc 45 (.agg [.zi 72,.zi p.DC]),(.plain (Cn.CN (⟨72,p.DC⟩:Dg)))⟩] [bp (CK.pl p)] (Ae 300 [pb Bq,An (As (Am (p:=p) (err:=72) (at_:=p.DC) rfl) 0)]) (by kernel_rfl) .body;refine Ay λx1 fO=>?_;rintro⟨⟩;exact Au Hd.Ab _ _ [⟨.agg (II x1),.agg (II x1),(.plain (D3.CN x1))⟩] [bp (CK.pl p)] (Ae 300 [pb Bq,fS,G5 (aeY .lost fO)]) (by kernel_rfl) .body
def aGU:Code:=Bk Tryz.f143
def aIH:Tryz.f143.body=some aGU:=by kernel_rfl
def Il(word:ByteArray):Option Bool:=cond (BS word.data.toList S0.data.toList) (some true) (cond (BS word.data.toList Ol.data.toList) (some true) (cond (BS word.data.toList Ig.data.toList) (some true) (cond (BS word.data.toList acW.data.toList) (some true) (cond (BS word.data.toList uF.data.toList) (some true) (cond (BS word.data.toList sB.data.toList) (some true) (cond (BS word.data.toList toS.data.toList) (some true) (cond (BS word.data.toList Vt.data.toList) (some true) (cond (BS word.data.toList bH.data.toList) (some true) (cond (BS word.data.toList Sr.data.toList) (some true) (cond (BS word.data.toList P0.data.toList) (some true) (cond (BS word.data.toList G7.data.toList) (some true) (cond (BS word.data.toList ED.data.toList) (some true) (cond (BS word.data.toList JA.data.toList) (some true) (cond (BS word.data.toList aoE.data.toList) (some true) (cond (BS word.data.toList SZ.data.toList) (some true) (cond (BS word.data.toList LI.data.toList) (some true) (cond (BS word.data.toList OO.data.toList) (some true) (cond (BS word.data.toList S5.data.toList) (some true) (cond (BS word.data.toList Sf.data.toList) (some true) (cond (BS word.data.toList J2.data.toList) (some true) (cond (BS word.data.toList SG.data.toList) (some true) (cond (BS word.data.toList Vf.data.toList) (some true) (cond (BS word.data.toList YY.data.toList) (some true) (cond (BS word.data.toList Tq.data.toList) (some true) (cond (BS word.data.toList bR.data.toList) (some true) (cond (BS word.data.toList Lb.data.toList) (some true) (cond (BS word.data.toList cE.data.toList) (some true) (cond (BS word.data.toList Qc.data.toList) (some true) (cond (BS word.data.toList U9.data.toList) (some true) (cond (BS word.data.toList Kt.data.toList) (some true) (cond (BS word.data.toList FX.data.toList) (some true) (cond (BS word.data.toList Qu.data.toList) (some true) (some false)))))))))))))))))))))))))))))))))
def Jf{word:ByteArray}{yR:Bool}(h:Il  word=some yR):Pure P (G mx) 143 [.zs word] (.zb yR):=by
 unfold Il at h;refine D6 Hd.mixed Hd.Ab (AA Tryz.func143 aIH ?_) (Bz rfl rfl) rfl;revert h;refine Ai (λBq=>?_) λBq=>?_;rintro⟨⟩;exact rT [pb Bq];let o1:List (PC P (G mx)):=[pb Bq];refine Ai (λhb2=>?_) λhb2=>?_;rintro⟨⟩;exact rT (o1++[pb hb2]);let o2:List (PC P (G mx)):=o1++[pb hb2];refine Ai (λhb3=>?_) λhb3=>?_;rintro⟨⟩;exact rT (o2++[pb hb3]);let o3:List (PC P (G mx)):=o2++[pb hb3];refine Ai (λFp=>?_) λFp=>?_;rintro⟨⟩;exact rT (o3++[pb Fp]);let o4:List (PC P (G mx)):=o3++[pb Fp];refine Ai (λGZ=>?_) λGZ=>?_;rintro⟨⟩;exact rT (o4++[pb GZ]);let o5:List (PC P (G mx)):=o4++[pb GZ];refine Ai (λHq=>?_) λHq=>?_;rintro⟨⟩;exact rT (o5++[pb Hq]);let o6:List (PC P (G mx)):=o5++[pb Hq];refine Ai (λIi=>?_) λIi=>?_;rintro⟨⟩;exact rT (o6++[pb Ii]);let o7:List (PC P (G mx)):=o6++[pb Ii];refine Ai (λJL=>?_) λJL=>?_;rintro⟨⟩;exact rT (o7++[pb JL]);let o8:List (PC P (G mx)):=o7++[pb JL];refine Ai (λJn=>?_) λJn=>?_;rintro⟨⟩;exact rT (o8++[pb Jn]);let o9:List (PC P (G mx)):=o8++[pb Jn];refine Ai (λGF=>?_) λGF=>?_;rintro⟨⟩;exact rT (o9++[pb GF]);let tV:List (PC P (G mx)):=o9++[pb GF];refine Ai (λJ3=>?_) λJ3=>?_;rintro⟨⟩;exact rT (tV++[pb J3]);let o11:List (PC P (G mx)):=tV++[pb J3];refine Ai (λLt=>?_) λLt=>?_;rintro⟨⟩;exact rT (o11++[pb Lt]);let o12:List (PC P (G mx)):=o11++[pb Lt];refine Ai (λNr=>?_) λNr=>?_;rintro⟨⟩;exact rT (o12++[pb Nr]);let pK:List (PC P (G mx)):=o12++[pb Nr];refine Ai (λNs=>?_) λNs=>?_;rintro⟨⟩;exact rT (pK++[pb Ns]);let o14:List (PC P (G mx)):=pK++[pb Ns];refine Ai (λPl=>?_) λPl=>?_;rintro⟨⟩;exact rT (o14++[pb Pl]);let o15:List (PC P (G mx)):=o14++[pb Pl];refine Ai (λTt=>?_) λTt=>?_;rintro⟨⟩;exact rT (o15++[pb Tt]);let yC:List (PC P (G mx)):=o15++[pb Tt];refine Ai (λUq=>?_) λUq=>?_;rintro⟨⟩;exact rT (yC++[pb Uq]);let o17:List (PC P (G mx)):=yC++[pb Uq];refine Ai (λWw=>?_) λWw=>?_;rintro⟨⟩;exact rT (o17++[pb Ww]);let o18:List (PC P (G mx)):=o17++[pb Ww];refine Ai (λnY=>?_) λnY=>?_;rintro⟨⟩;exact rT (o18++[pb nY]);let o19:List (PC P (G mx)):=o18++[pb nY];refine Ai (λnZ=>?_) λnZ=>?_;rintro⟨⟩;exact rT (o19++[pb nZ]);let o20:List (PC P (G mx)):=o19++[pb nZ];refine Ai (λoA=>?_) λoA=>?_;rintro⟨⟩;exact rT (o20++[pb oA]);let o21:List (PC P (G mx)):=o20++[pb oA];refine Ai (λoB=>?_) λoB=>?_;rintro⟨⟩;exact rT (o21++[pb oB]);let o22:List (PC P (G mx)):=o21++[pb oB];refine Ai (λoC=>?_) λoC=>?_;rintro⟨⟩;exact rT (o22++[pb oC]);let o23:List (PC P (G mx)):=o22++[pb oC];refine Ai (λawX=>?_) λawX=>?_;rintro⟨⟩;exact rT (o23++[pb awX]);let o24:List (PC P (G mx)):=o23++[pb awX];refine Ai (λanF=>?_) λanF=>?_;rintro⟨⟩;exact rT (o24++[pb anF]);refine Ai (λawY=>?_) λawY=>?_;rintro⟨⟩;exact rT (o24++[pb anF,pb awY]);let o25:List (PC P (G mx)):=o24++[pb anF,pb awY];refine Ai (λanG=>?_) λanG=>?_;rintro⟨⟩;exact rT (o25++[pb anG]);refine Ai (λawZ=>?_) λawZ=>?_;rintro⟨⟩;exact rT (o25++[pb anG,pb awZ]);let o26:List (PC P (G mx)):=o25++[pb anG,pb awZ];refine Ai (λoD=>?_) λoD=>?_;rintro⟨⟩;exact rT (o26++[pb oD]);refine Ai (λxD=>?_) λxD=>?_;rintro⟨⟩;exact rT (o26++[pb oD,pb xD]);refine Ai (λadY=>?_) λadY=>?_;rintro⟨⟩;exact rT (o26++[pb oD,pb xD,pb adY]);refine Ai (λanH=>?_) λanH=>?_;rintro⟨⟩;exact rT (o26++[pb oD,pb xD,pb adY,pb anH]);refine Ai (λaxA=>?_) λaxA=>?_;rintro⟨⟩;exact rT (o26++[pb oD,pb xD,pb adY,pb anH,pb axA]);rintro⟨⟩;exact rT (o26++[pb oD,pb xD,pb adY,pb anH,pb axA])
def aGK:Code:=Bk Tryz.f119
def aHV:Tryz.f119.body=some aGK:=by kernel_rfl
def BT(token:Tk):Option Bool:=cond (Dr token.kind 1) ((Il token.text).bind λy1=>cond y1 (some false) (some true)) (some false)
def NG{token:Tk}{yR:Bool}(h:BT  token=some yR):Pure P (G mx) 119 [.agg (II token)] (.zb yR):=by
 unfold BT at h;refine D6 Hd.mixed Hd.Ab (AA Tryz.func119 aHV ?_) (Bz (D3.CN token) rfl) rfl;revert h;refine Ai (λBq=>?_) λBq=>?_;refine Ay λy1 Cs=>?_;refine Ai (λhv=>?_) λhv=>?_;subst hv;rintro⟨⟩;exact rT [pb Bq,Bb (Jf Cs)];subst hv;rintro⟨⟩;exact rT [pb Bq,Bb (Jf Cs)];rintro⟨⟩;exact rT [pb Bq]
def aGX:Code:=Bk Tryz.f154
def aIK:Tryz.f154.body=some aGX:=by kernel_rfl
def Dq(token:Tk)(a1:ByteArray):Option Bool:=cond (BS token.text.data.toList a1.data.toList) (some true) (some false)
def OX{token:Tk}{a1:ByteArray}{yR:Bool}(hS:Sound P (G mx) (.call 154 [.agg (II token),.ptr 0 0] ⟨[(0,.cells [.zs a1])],1,[],0⟩ (.ret (.zb yR)) ⟨[(0,.cells [.zs a1])],1,[],0⟩))(u0:Nat)(Pm:([u0]:List Nat).Nodup:=by decide)(Pn:([]:List Nat).Nodup:=by decide):Cd.ok P (G mx) (.E6 154 [.agg (II token),.ptr u0 0] (.ret (.zb yR)) [(u0,.cells [.zs a1])] [] [(u0,.cells [.zs a1])] []) :=
 Hu (M:=[.cells [.zs a1]]) (M2:=[.cells [.zs a1]]) (T:=[]) (T2:=[]) (k:=1) (j:=0) Hd.Ab _ _ _ _ hS rfl rfl rfl rfl rfl Pm Pn rfl rfl (.cons (.cells (.pl (Bz rfl rfl))) .nil) (.cons (.cells (.pl (Bz rfl rfl))) .nil) (.cons (.pl (D3.CN token)) (.cons (.ptr (by decide)) .nil)) (.pl rfl) (λe he=>by simp only[List.mem_singleton] at he;subst he;exact(.arg (.there (.here .ptr))))
def MU{token:Tk}{a1:ByteArray}{yR:Bool}(h:Dq  token a1=some yR):Sound P (G mx) (.call 154 [.agg (II token),.ptr 0 0] ⟨[(0,.cells [.zs a1])],1,[],0⟩ (.ret (.zb yR)) ⟨[(0,.cells [.zs a1])],1,[],0⟩):=by
 unfold Dq at h;refine B1 Hd.mixed (AA Tryz.func154 aIK ?_);revert h;refine Ai (λBq=>?_) λBq=>?_;rintro⟨⟩;exact Au Hd.Ab _ _ [] [none] (Ae 300 [pb Bq]) (by kernel_rfl) .body;rintro⟨⟩;exact Au Hd.Ab _ _ [] [none] (Ae 300 [pb Bq]) (by kernel_rfl) .body
def aGJ:Code:=Bk Tryz.f118
def bV:Tryz.f118.body=some aGJ:=by kernel_rfl
def Gn(p:Pr)(fits:ByteArray):Option ((Tk⊕Dg)×Int):=(AD p).bind λy1=>Sum.elim (λ(CI:Tk)=>(Dq CI fits).bind λy2=>cond y2 (some ((Sum.inl CI:(Tk⊕Dg)),(BK p.JM 1))) (some ((Sum.inr (⟨71,CI.AU⟩:Dg):(Tk⊕Dg)),p.JM))) (λ(Lj:Dg)=>some ((Sum.inr Lj:(Tk⊕Dg)),p.JM)) y1
def K5{p:Pr}{fits:ByteArray}{yR:(Tk⊕Dg)}{Ah:Int}(hS:Sound P (G mx) (.call 118 [.ptr 0 0,.fn (.func 154) [] [.ptr 1 0]] ⟨[(1,.cells [.zs fits]),(0,.cells (QQ p))],2,[],0⟩ (I0 eT eD yR) ⟨[(1,.cells [.zs fits]),(0,.cells (pC p Ah))],2,[],0⟩))(u0 u1:Nat)(Pm:([u0,u1]:List Nat).Nodup:=by decide)(Pn:([]:List Nat).Nodup:=by decide):Cd.ok P (G mx) (.E6 118 [.ptr u0 0,.fn (.func 154) [] [.ptr u1 0]] (I0 eT eD yR) [(u0,.cells (QQ p)),(u1,.cells [.zs fits])] [] [(u0,.cells (pC p Ah)),(u1,.cells [.zs fits])] []) :=
 Hu (M:=[.cells (QQ p),.cells [.zs fits]]) (M2:=[.cells (pC p Ah),.cells [.zs fits]]) (T:=[]) (T2:=[]) (k:=2) (j:=0) Hd.Ab _ _ _ _ hS rfl rfl rfl rfl rfl Pm Pn rfl rfl (.cons (.cells (.pl (CK.pl p))) (.cons (.cells (.pl (Bz rfl rfl))) .nil)) (.cons (.cells (.pl (Bz (D3.Kx p.Br) (Bz rfl (Bz rfl rfl))))) (.cons (.cells (.pl (Bz rfl rfl))) .nil)) (.cons (.ptr (by decide)) (.cons (.fn (.pl rfl) (.cons (.ptr (by decide)) .nil)) .nil)) (LR (enc:=λyV=>.agg (II yV)) (encd:=λdV=>.ifc 45 (.agg (Ph dV))) (λyV=>(D3.CN yV)) (λdV=>(Cn.CN dV)) yR) (by
   intro e he;simp only[List.mem_cons,List.not_mem_nil,or_false] at he;rcases he with rfl | rfl
   exact(.arg (.here .ptr));exact(.arg (.there (.here (.fn2 (.here .ptr)))))
   )
def J0{p:Pr}{fits:ByteArray}{yR:(Tk⊕Dg)}{Ah:Int}(h:Gn  p fits=some (yR,Ah)):Sound P (G mx) (.call 118 [.ptr 0 0,.fn (.func 154) [] [.ptr 1 0]] ⟨[(1,.cells [.zs fits]),(0,.cells (QQ p))],2,[],0⟩ (I0 eT eD yR) ⟨[(1,.cells [.zs fits]),(0,.cells (pC p Ah))],2,[],0⟩):=by
 unfold Gn at h;refine B1 Hd.mixed (AA Tryz.func118 bV ?_);revert h;refine Ay λy1 Cs=>?_;refine SO (λCI Ls=>?_) λLj Ls=>?_;subst Ls;refine Ay λy2 Ev=>?_;let o1:List (PC P (G mx)):=[Af (Av (Ao Cs) 0),Af (OX (MU Ev) 1)];refine Ai (λhv=>?_) λhv=>?_;subst hv;rintro⟨⟩;exact Au Hd.Ab _ _ [⟨.agg (II CI),.agg (II CI),(.plain (D3.CN CI))⟩] [none,pW p (BK p.JM 1)] (Ae 300 (o1++[pk])) (by kernel_rfl) .body;subst hv;rintro⟨⟩;exact BN Hd.Ab _ [⟨.ifc 45 (.agg [.zi 71,.zi CI.AU]),.ifc 45 (.agg [.zi 71,.zi CI.AU]),(.plain (Cn.CN (⟨71,CI.AU⟩:Dg)))⟩] [none,bp (CK.pl p)] (Ae 300 (o1++[An (As (Am (p:=p) (err:=71) (at_:=CI.AU) rfl) 0)])) (by kernel_rfl) .body;subst Ls;rintro⟨⟩;exact BN Hd.Ab _ [gD Lj] [none,bp (CK.pl p)] (Ae 300 [An (Av (Ao Cs) 0)]) (by kernel_rfl) .body
def aGL:Code:=Bk Tryz.f120
def aHW:Tryz.f120.body=some aGL:=by kernel_rfl
def Ak(p:Pr)(text:ByteArray):Option ((Tk⊕Dg)×Int):=(Gn p text).bind λ(En,Bi)=>Sum.elim (λ(Aw:Tk)=>some ((Sum.inl Aw:(Tk⊕Dg)),Bi)) (λ(CQ:Dg)=>some ((Sum.inr CQ:(Tk⊕Dg)),Bi)) En
def Aa{p:Pr}{text:ByteArray}{yR:(Tk⊕Dg)}{Ah:Int}(h:Ak  p text=some (yR,Ah)):pR mx 120 [.ptr 0 0,.zs text] p (I0 eT eD yR) Ah:=by
 unfold Ak at h;refine B1 Hd.mixed (AA Tryz.func120 aHW ?_);revert h;refine BV (λAw Bi Cs=>?_) λCQ Bi Cs=>?_;refine Er ?_;rintro rfl rfl;exact Au Hd.Ab _ _ [⟨.agg (II Aw),.agg (II Aw),(.plain (D3.CN Aw))⟩] [pW p Bi] (Ae 300 [Af (K5 (J0 Cs) 0 1)]) (by kernel_rfl) .body;refine Er ?_;rintro rfl rfl;exact H8 CQ p Bi [An (K5 (J0 Cs) 0 1)] .body
def aGM:Code:=Bk Tryz.f121
def aHX:Tryz.f121.body=some aGM:=by kernel_rfl
def E8(token:Tk):Option Bool:=cond (BS token.text.data.toList G7.data.toList) (some true) (cond (BS token.text.data.toList ED.data.toList) (some true) (cond (BS token.text.data.toList JA.data.toList) (some true) (cond (Dr token.kind 2) (some true) (some false))))
def TE{token:Tk}{yR:Bool}(h:E8  token=some yR):Pure P (G mx) 121 [.agg (II token)] (.zb yR):=by
 unfold E8 at h;refine D6 Hd.mixed Hd.Ab (AA Tryz.func121 aHX ?_) (Bz (D3.CN token) rfl) rfl;revert h;refine Ai (λBq=>?_) λBq=>?_;rintro⟨⟩;exact rT [pb Bq];refine Ai (λhb2=>?_) λhb2=>?_;rintro⟨⟩;exact rT [pb Bq,pb hb2];refine Ai (λhb3=>?_) λhb3=>?_;rintro⟨⟩;exact rT [pb Bq,pb hb2,pb hb3];refine Ai (λFp=>?_) λFp=>?_;rintro⟨⟩;exact rT [pb Bq,pb hb2,pb hb3,pb Fp];rintro⟨⟩;exact rT [pb Bq,pb hb2,pb hb3,pb Fp]
def avI:Code:=Bk Tryz.f122
def aHY:Tryz.f122.body=some avI:=by kernel_rfl
def Ep(word:ByteArray):Option Int:=cond (BS SZ.data.toList word.data.toList) (some 1) (cond (BS LI.data.toList word.data.toList) (some 2) (cond (BS OO.data.toList word.data.toList) (some 3) (cond (BS S5.data.toList word.data.toList) (some 4) (some 0))))
def Kv{word:ByteArray}{yR:Int}(h:Ep  word=some yR):Pure P (G mx) 122 [.zs word] (.zi yR):=by
 unfold Ep at h;refine D6 Hd.mixed Hd.Ab (AA Tryz.func122 aHY ?_) (Bz rfl rfl) rfl;revert h;refine Dl (IV (fr2:=fr 19 [(0,.zs word),(5,.agg [.zs ByteArray.empty,.zs SZ,.zs LI,.zs OO,.zs S5]),(6,.zi 0)] [] []) (s2:=⟨[],0,[],0⟩) [] 0 (sb avI 52) [.code (sb avI 7)] (Ae 300 []) (by kernel_rfl)) ?_;refine Dl (D2 (fr2:=fr 19 [(0,.zs word),(5,.agg [.zs ByteArray.empty,.zs SZ,.zs LI,.zs OO,.zs S5]),(6,.zi 1),(7,.zb true),(11,.zb false),(12,.zb false),(16,.zb false)] [] []) (s2:=⟨[],0,[],0⟩) [] (Ae 300 [pk,pk,pk,pk]) (by kernel_rfl)) ?_;refine Ai (λBq=>?_) λBq=>?_;rintro⟨⟩;exact AJ _ _ (Ae 300 [pk,pk,pk,pb Bq]) (by kernel_rfl) (.G6 (.outer .body)) .sc;refine Dl (D2 (fr2:=fr 19 [(0,.zs word),(5,.agg [.zs ByteArray.empty,.zs SZ,.zs LI,.zs OO,.zs S5]),(6,.zi 2),(7,.zb true),(11,.zb true),(12,.zb true),(15,.zb false),(16,.zb false)] [] []) (s2:=⟨[],0,[],0⟩) [] (Ae 300 [pk,pk,pk,pb Bq,pk]) (by kernel_rfl)) ?_;refine Ai (λhb2=>?_) λhb2=>?_;rintro⟨⟩;exact AJ _ _ (Ae 300 [pk,pk,pk,pb hb2]) (by kernel_rfl) (.G6 (.outer .body)) .sc;refine Dl (D2 (fr2:=fr 19 [(0,.zs word),(5,.agg [.zs ByteArray.empty,.zs SZ,.zs LI,.zs OO,.zs S5]),(6,.zi 3),(7,.zb true),(11,.zb true),(12,.zb true),(15,.zb false),(16,.zb false)] [] []) (s2:=⟨[],0,[],0⟩) [] (Ae 300 [pk,pk,pk,pb hb2,pk]) (by kernel_rfl)) ?_;refine Ai (λhb3=>?_) λhb3=>?_;rintro⟨⟩;exact AJ _ _ (Ae 300 [pk,pk,pk,pb hb3]) (by kernel_rfl) (.G6 (.outer .body)) .sc;refine Dl (D2 (fr2:=fr 19 [(0,.zs word),(5,.agg [.zs ByteArray.empty,.zs SZ,.zs LI,.zs OO,.zs S5]),(6,.zi 4),(7,.zb true),(11,.zb true),(12,.zb true),(15,.zb false),(16,.zb false)] [] []) (s2:=⟨[],0,[],0⟩) [] (Ae 300 [pk,pk,pk,pb hb3,pk]) (by kernel_rfl)) ?_;refine Ai (λFp=>?_) λFp=>?_;rintro⟨⟩;exact AJ _ _ (Ae 300 [pk,pk,pk,pb Fp]) (by kernel_rfl) (.G6 (.outer .body)) .sc;refine Dl (D2 (fr2:=fr 19 [(0,.zs word),(5,.agg [.zs ByteArray.empty,.zs SZ,.zs LI,.zs OO,.zs S5]),(6,.zi 5),(7,.zb true),(11,.zb true),(12,.zb true),(15,.zb false),(16,.zb false)] [] []) (s2:=⟨[],0,[],0⟩) [] (Ae 300 [pk,pk,pk,pb Fp,pk]) (by kernel_rfl)) ?_;refine Zt (E7 (id:=0) (fr2:=fr 19 [(7,.zb false),(11,.zb true),(12,.zb true),(15,.zb false),(16,.zb false)] [] []) (s2:=⟨[],0,[],0⟩) (Ae 300 [pk]) (by kernel_rfl)) ?_;rintro⟨⟩;exact AJ _ _ (SM 300 []) (by kernel_rfl) .body .sc
def aGN:Code:=Bk Tryz.f123
def aHZ:Tryz.f123.body=some aGN:=by kernel_rfl
def BW(token:Tk):Option Bool:=(Ep token.text).bind λy1=>cond (E3 0 y1) (some true) (some false)
def K4{token:Tk}{yR:Bool}(h:BW  token=some yR):Pure P (G mx) 123 [.agg (II token)] (.zb yR):=by
 unfold BW at h;refine D6 Hd.mixed Hd.Ab (AA Tryz.func123 aHZ ?_) (Bz (D3.CN token) rfl) rfl;revert h;refine Ay λy1 Cs=>?_;refine Ai (λBq=>?_) λBq=>?_;rintro⟨⟩;exact rT [Bb (Kv Cs),pb Bq];rintro⟨⟩;exact rT [Bb (Kv Cs),pb Bq]
def Dv(p:Pr):Option ((Tk⊕Dg)×Int):=(AD p).bind λy1=>Sum.elim (λ(CI:Tk)=>(BT CI).bind λy2=>cond y2 (some ((Sum.inl CI:(Tk⊕Dg)),(BK p.JM 1))) (some ((Sum.inr (⟨71,CI.AU⟩:Dg):(Tk⊕Dg)),p.JM))) (λ(Lj:Dg)=>some ((Sum.inr Lj:(Tk⊕Dg)),p.JM)) y1
def DW{p:Pr}{yR:(Tk⊕Dg)}{Ah:Int}(h:Dv  p=some (yR,Ah)):pR mx 118 [.ptr 0 0,.fn (.func 119) [] []] p (I0 eT eD yR) Ah:=by
 unfold Dv at h;refine B1 Hd.mixed (AA Tryz.func118 bV ?_);revert h;refine Ay λy1 Cs=>?_;refine SO (λCI Ls=>?_) λLj Ls=>?_;subst Ls;refine Ay λy2 Ev=>?_;let o1:List (PC P (G mx)):=[Af (Av (Ao Cs) 0),Bb (NG Ev)];refine Ai (λhv=>?_) λhv=>?_;subst hv;rintro⟨⟩;exact Au Hd.Ab _ _ [⟨.agg (II CI),.agg (II CI),(.plain (D3.CN CI))⟩] [pW p (BK p.JM 1)] (Ae 300 (o1++[pk])) (by kernel_rfl) .body;subst hv;rintro⟨⟩;exact BN Hd.Ab _ [⟨.ifc 45 (.agg [.zi 71,.zi CI.AU]),.ifc 45 (.agg [.zi 71,.zi CI.AU]),(.plain (Cn.CN (⟨71,CI.AU⟩:Dg)))⟩] [bp (CK.pl p)] (Ae 300 (o1++[An (As (Am (p:=p) (err:=71) (at_:=CI.AU) rfl) 0)])) (by kernel_rfl) .body;subst Ls;rintro⟨⟩;exact BN Hd.Ab _ [gD Lj] [bp (CK.pl p)] (Ae 300 [An (Av (Ao Cs) 0)]) (by kernel_rfl) .body
def EG(p:Pr):Option ((Tk⊕Dg)×Int):=(AD p).bind λy1=>Sum.elim (λ(CI:Tk)=>(E8 CI).bind λy2=>cond y2 (some ((Sum.inl CI:(Tk⊕Dg)),(BK p.JM 1))) (some ((Sum.inr (⟨71,CI.AU⟩:Dg):(Tk⊕Dg)),p.JM))) (λ(Lj:Dg)=>some ((Sum.inr Lj:(Tk⊕Dg)),p.JM)) y1
def Io{p:Pr}{yR:(Tk⊕Dg)}{Ah:Int}(h:EG  p=some (yR,Ah)):pR mx 118 [.ptr 0 0,.fn (.func 121) [] []] p (I0 eT eD yR) Ah:=by
 unfold EG at h;refine B1 Hd.mixed (AA Tryz.func118 bV ?_);revert h;refine Ay λy1 Cs=>?_;refine SO (λCI Ls=>?_) λLj Ls=>?_;subst Ls;refine Ay λy2 Ev=>?_;let o1:List (PC P (G mx)):=[Af (Av (Ao Cs) 0),Bb (TE Ev)];refine Ai (λhv=>?_) λhv=>?_;subst hv;rintro⟨⟩;exact Au Hd.Ab _ _ [⟨.agg (II CI),.agg (II CI),(.plain (D3.CN CI))⟩] [pW p (BK p.JM 1)] (Ae 300 (o1++[pk])) (by kernel_rfl) .body;subst hv;rintro⟨⟩;exact BN Hd.Ab _ [⟨.ifc 45 (.agg [.zi 71,.zi CI.AU]),.ifc 45 (.agg [.zi 71,.zi CI.AU]),(.plain (Cn.CN (⟨71,CI.AU⟩:Dg)))⟩] [bp (CK.pl p)] (Ae 300 (o1++[An (As (Am (p:=p) (err:=71) (at_:=CI.AU) rfl) 0)])) (by kernel_rfl) .body;subst Ls;rintro⟨⟩;exact BN Hd.Ab _ [gD Lj] [bp (CK.pl p)] (Ae 300 [An (Av (Ao Cs) 0)]) (by kernel_rfl) .body
def F8(p:Pr):Option ((Tk⊕Dg)×Int):=(AD p).bind λy1=>Sum.elim (λ(CI:Tk)=>(BW CI).bind λy2=>cond y2 (some ((Sum.inl CI:(Tk⊕Dg)),(BK p.JM 1))) (some ((Sum.inr (⟨71,CI.AU⟩:Dg):(Tk⊕Dg)),p.JM))) (λ(Lj:Dg)=>some ((Sum.inr Lj:(Tk⊕Dg)),p.JM)) y1
def JE{p:Pr}{yR:(Tk⊕Dg)}{Ah:Int}(h:F8  p=some (yR,Ah)):pR mx 118 [.ptr 0 0,.fn (.func 123) [] []] p (I0 eT eD yR) Ah:=by
 unfold F8 at h;refine B1 Hd.mixed (AA Tryz.func118 bV ?_);revert h;refine Ay λy1 Cs=>?_;refine SO (λCI Ls=>?_) λLj Ls=>?_;subst Ls;refine Ay λy2 Ev=>?_;let o1:List (PC P (G mx)):=[Af (Av (Ao Cs) 0),Bb (K4 Ev)];refine Ai (λhv=>?_) λhv=>?_;subst hv;rintro⟨⟩;exact Au Hd.Ab _ _ [⟨.agg (II CI),.agg (II CI),(.plain (D3.CN CI))⟩] [pW p (BK p.JM 1)] (Ae 300 (o1++[pk])) (by kernel_rfl) .body;subst hv;rintro⟨⟩;exact BN Hd.Ab _ [⟨.ifc 45 (.agg [.zi 71,.zi CI.AU]),.ifc 45 (.agg [.zi 71,.zi CI.AU]),(.plain (Cn.CN (⟨71,CI.AU⟩:Dg)))⟩] [bp (CK.pl p)] (Ae 300 (o1++[An (As (Am (p:=p) (err:=71) (at_:=CI.AU) rfl) 0)])) (by kernel_rfl) .body;subst Ls;rintro⟨⟩;exact BN Hd.Ab _ [gD Lj] [bp (CK.pl p)] (Ae 300 [An (Av (Ao Cs) 0)]) (by kernel_rfl) .body
def B70:Code:=Bk Tryz.f70
def b70:Tryz.f70.body=some B70:=by kernel_rfl
def Du(p:Pr):Option ((Nd⊕Dg)×Int):=(AD p).bind λy1=>Sum.elim (λ(CI:Tk)=>(Dv (⟨p.Br,(BK p.JM 1),p.DC⟩:Pr)).bind λ(Ka,EI)=>Sum.elim (λ(CZ:Tk)=>(Ak (⟨p.Br,EI,p.DC⟩:Pr) kE).bind λ(PT,Fl)=>Sum.elim (λ(CJ:Tk)=>(EG (⟨p.Br,Fl,p.DC⟩:Pr)).bind λ(VV,Jm)=>Sum.elim (λ(De:Tk)=>cond (BS CI.text.data.toList Ol.data.toList) ((F8 (⟨p.Br,Jm,p.DC⟩:Pr)).bind λ(T6,H7)=>Sum.elim (λ(Ix:Tk)=>(Ep Ix.text).bind λy6=>(Ak (⟨p.Br,H7,p.DC⟩:Pr) WD).bind λ(y7a,Sv)=>Sum.elim (λ(U8:Tk)=>some ((Sum.inl (⟨3,CZ.text,De.text,y6,0,0,0,(⟨0,[]⟩:Fn),[],CI.AU⟩:Nd):(Nd⊕Dg)),Sv)) (λ(O4:Dg)=>some ((Sum.inr O4:(Nd⊕Dg)),Sv)) y7a) (λ(G9:Dg)=>some ((Sum.inr G9:(Nd⊕Dg)),H7)) T6) ((Ak (⟨p.Br,Jm,p.DC⟩:Pr) WD).bind λ(Zc,Ld)=>Sum.elim (λ(GY:Tk)=>some ((Sum.inl (⟨2,CZ.text,De.text,0,0,0,0,(⟨0,[]⟩:Fn),[],CI.AU⟩:Nd):(Nd⊕Dg)),Ld)) (λ(Lc:Dg)=>some ((Sum.inr Lc:(Nd⊕Dg)),Ld)) Zc)) (λ(Iw:Dg)=>some ((Sum.inr Iw:(Nd⊕Dg)),Jm)) VV) (λ(Eu:Dg)=>some ((Sum.inr Eu:(Nd⊕Dg)),Fl)) PT) (λ(G8:Dg)=>some ((Sum.inr G8:(Nd⊕Dg)),EI)) Ka) (λ(Lj:Dg)=>some ((Sum.inr Lj:(Nd⊕Dg)),p.JM)) y1
def DV{p:Pr}{yR:(Nd⊕Dg)}{Ah:Int}(h:Du  p=some (yR,Ah)):pR mx 70 [.ptr 0 0] p (I0 eN eD yR) Ah:=by
 unfold Du at h;refine B1 Hd.mixed (AA Tryz.func70 b70 ?_);revert h;refine Ay λy1 Cs=>?_;refine SO (λCI Ls=>?_) λLj Ls=>?_;subst Ls;let o1:List (PC P (G mx)):=[Af (Av (Ao Cs) 0),pk];refine BV (λCZ EI Ev=>?_) λG8 EI Ev=>?_;let o2:List (PC P (G mx)):=o1++[Af (Ic (DW Ev) 0)];refine BV (λCJ Fl GH=>?_) λEu Fl GH=>?_;let o3:List (PC P (G mx)):=o2++[Af (Ic (Aa GH) 0)];refine BV (λDe Jm Kb=>?_) λIw Jm Kb=>?_;let o4:List (PC P (G mx)):=o3++[Af (Ic (Io Kb) 0)];refine Ai (λBq=>?_) λBq=>?_;refine BV (λIx H7 Kc=>?_) λG9 H7 Kc=>?_;refine Ay λy6 Nu=>?_;let o5:List (PC P (G mx)):=o4++[pb Bq,Af (Ic (JE Kc) 0),Bb (Kv Nu)];refine BV (λU8 Sv RE=>?_) λO4 Sv RE=>?_;refine Er ?_;rintro rfl rfl;exact Au Hd.Ab _ _ [⟨.agg [.zi 3,.zs CZ.text,.zs De.text,.zi y6,.zi 0,.zi 0,.zi 0,.zi 0,.sl .full 0 [],.sl .full 0 [],.zi CI.AU],.agg [.zi 3,.zs CZ.text,.zs De.text,.zi y6,.zi 0,.zi 0,.zi 0,.zi 0,.sl .lost ([].length) (rows Iq []),.sl .lost ([].length) (Bf []),.zi CI.AU],(.wn (.g (.r (.r (.r (.r (.r (.r (.r (.r (.z (.z (.r .nil))))))))))) .nil) (Az.CN (⟨3,CZ.text,De.text,y6,0,0,0,(⟨0,[]⟩:Fn),[],CI.AU⟩:Nd)))⟩] [pW p Sv] (Ae 300 (o5++[Af (Ic (Aa RE) 0)])) (by kernel_rfl) .body;refine Er ?_;rintro rfl rfl;exact H8 O4 p Sv (o5++[An (Ic (Aa RE) 0)]) .body;refine Er ?_;rintro rfl rfl;exact H8 G9 p H7 (o4++[pb Bq,An (Ic (JE Kc) 0)]) .body;refine BV (λGY Ld O8=>?_) λLc Ld O8=>?_;refine Er ?_;rintro rfl rfl;exact Au Hd.Ab _ _ [⟨.agg [.zi 2,.zs CZ.text,.zs De.text,.zi 0,.zi 0,.zi 0,.zi 0,.zi 0,.sl .full 0 [],.sl .full 0 [],.zi CI.AU],.agg [.zi 2,.zs CZ.text,.zs De.text,.zi 0,.zi 0,.zi 0,.zi 0,.zi 0,.sl .lost ([].length) (rows Iq []),.sl .lost ([].length) (Bf []),.zi CI.AU],(.wn (.g (.r (.r (.r (.r (.r (.r (.r (.r (.z (.z (.r .nil))))))))))) .nil) (Az.CN (⟨2,CZ.text,De.text,0,0,0,0,(⟨0,[]⟩:Fn),[],CI.AU⟩:Nd)))⟩] [pW p Ld] (Ae 300 (o4++[pb Bq,Af (Ic (Aa O8) 0)])) (by kernel_rfl) .body;refine Er ?_;rintro rfl rfl;exact H8 Lc p Ld (o4++[pb Bq,An (Ic (Aa O8) 0)]) .body;refine Er ?_;rintro rfl rfl;exact H8 Iw p Jm (o3++[An (Ic (Io Kb) 0)]) .body;refine Er ?_;rintro rfl rfl;exact H8 Eu p Fl (o2++[An (Ic (Aa GH) 0)]) .body;refine Er ?_;rintro rfl rfl;exact H8 G8 p EI (o1++[An (Ic (DW Ev) 0)]) .body;subst Ls;refine Er ?_;rintro rfl rfl;exact BN Hd.Ab _ [gD Lj] [bp (CK.pl p)] (Ae 300 [An (Av (Ao Cs) 0)]) (by kernel_rfl) .body
def aHD:Code:=Bk Tryz.f172
def aIQ:Tryz.f172.body=some aHD:=by kernel_rfl
def Eh(token:Tk):Option Bool:=cond (Dr token.kind 3) (some true) (some false)
def MV{token:Tk}{yR:Bool}(h:Eh  token=some yR):Pure P (G mx) 172 [.agg (II token)] (.zb yR):=by
 unfold Eh at h;refine D6 Hd.mixed Hd.Ab (AA Tryz.func172 aIQ ?_) (Bz (D3.CN token) rfl) rfl;revert h;refine Ai (λBq=>?_) λBq=>?_;rintro⟨⟩;exact rT [pb Bq];rintro⟨⟩;exact rT [pb Bq]
def Hx(p:Pr):Option ((Tk⊕Dg)×Int):=(AD p).bind λy1=>Sum.elim (λ(CI:Tk)=>(Eh CI).bind λy2=>cond y2 (some ((Sum.inl CI:(Tk⊕Dg)),(BK p.JM 1))) (some ((Sum.inr (⟨71,CI.AU⟩:Dg):(Tk⊕Dg)),p.JM))) (λ(Lj:Dg)=>some ((Sum.inr Lj:(Tk⊕Dg)),p.JM)) y1
def Jg{p:Pr}{yR:(Tk⊕Dg)}{Ah:Int}(h:Hx  p=some (yR,Ah)):pR mx 118 [.ptr 0 0,.fn (.func 172) [] []] p (I0 eT eD yR) Ah:=by
 unfold Hx at h;refine B1 Hd.mixed (AA Tryz.func118 bV ?_);revert h;refine Ay λy1 Cs=>?_;refine SO (λCI Ls=>?_) λLj Ls=>?_;subst Ls;refine Ay λy2 Ev=>?_;let o1:List (PC P (G mx)):=[Af (Av (Ao Cs) 0),Bb (MV Ev)];refine Ai (λhv=>?_) λhv=>?_;subst hv;rintro⟨⟩;exact Au Hd.Ab _ _ [⟨.agg (II CI),.agg (II CI),(.plain (D3.CN CI))⟩] [pW p (BK p.JM 1)] (Ae 300 (o1++[pk])) (by kernel_rfl) .body;subst hv;rintro⟨⟩;exact BN Hd.Ab _ [⟨.ifc 45 (.agg [.zi 71,.zi CI.AU]),.ifc 45 (.agg [.zi 71,.zi CI.AU]),(.plain (Cn.CN (⟨71,CI.AU⟩:Dg)))⟩] [bp (CK.pl p)] (Ae 300 (o1++[An (As (Am (p:=p) (err:=71) (at_:=CI.AU) rfl) 0)])) (by kernel_rfl) .body;subst Ls;rintro⟨⟩;exact BN Hd.Ab _ [gD Lj] [bp (CK.pl p)] (Ae 300 [An (Av (Ao Cs) 0)]) (by kernel_rfl) .body
def aGY:Code:=Bk Tryz.f155
def aIL:Tryz.f155.body=some aGY:=by kernel_rfl
def EP(p:Pr):Option (((Int×Int)⊕Dg)×Int):=(Hx p).bind λ(En,Bi)=>Sum.elim (λ(Aw:Tk)=>(Ro Aw.text).bind λ(Ka,EI)=>some ((Sum.inl (Ka,Aw.AU):((Int×Int)⊕Dg)),Bi)) (λ(CQ:Dg)=>some ((Sum.inr CQ:((Int×Int)⊕Dg)),Bi)) En
def Fe{p:Pr}{yR:((Int×Int)⊕Dg)}{Ah:Int}(h:EP  p=some (yR,Ah)):pR mx 155 [.ptr 0 0] p (I0 eJ eD yR) Ah:=by
 unfold EP at h;refine B1 Hd.mixed (AA Tryz.func155 aIL ?_);revert h;refine BV (λAw Bi Cs=>?_) λCQ Bi Cs=>?_;refine Ay ?_;rintro⟨Ka,EI⟩ Ev;dsimp only;refine Er ?_;rintro rfl rfl;exact Au Hd.Ab _ _ [⟨.Dd [.zi Ka,.zi Aw.AU],.Dd [.zi Ka,.zi Aw.AU],(.plain (Bz rfl (Bz rfl rfl)))⟩] [pW p Bi] (Ae 300 [Af (Ic (Jg Cs) 0),Bb (rH Ev)]) (by kernel_rfl) .body;refine Er ?_;rintro rfl rfl;exact H8 CQ p Bi [An (Ic (Jg Cs) 0)] .body
def aGO:Code:=Bk Tryz.f124
def aIA:Tryz.f124.body=some aGO:=by kernel_rfl
def AH(p:Pr)(least:Int):Option (((Int×Int)⊕Dg)×Int):=(EP p).bind λ(En,Bi)=>Sum.elim (λ(Aw:(Int×Int))=>cond (E3 Aw.1 least) (some ((Sum.inr (⟨3,Aw.2⟩:Dg):((Int×Int)⊕Dg)),Bi)) (cond (E3 1000000 Aw.1) (some ((Sum.inr (⟨3,Aw.2⟩:Dg):((Int×Int)⊕Dg)),Bi)) (some ((Sum.inl (Aw.1,Aw.2):((Int×Int)⊕Dg)),Bi)))) (λ(CQ:Dg)=>some ((Sum.inr CQ:((Int×Int)⊕Dg)),Bi)) En
def Al{p:Pr}{least:Int}{yR:((Int×Int)⊕Dg)}{Ah:Int}(h:AH  p least=some (yR,Ah)):pR mx 124 [.ptr 0 0,.zi least] p (I0 eJ eD yR) Ah:=by
 unfold AH at h;refine B1 Hd.mixed (AA Tryz.func124 aIA ?_);revert h;refine BV (λAw Bi Cs=>?_) λCQ Bi Cs=>?_;let o1:List (PC P (G mx)):=[Af (MF (Fe Cs) 0)];refine Ai (λBq=>?_) λBq=>?_;refine Er ?_;rintro rfl rfl;exact BN Hd.Ab _ [⟨.ifc 45 (.agg [.zi 3,.zi Aw.2]),.ifc 45 (.agg [.zi 3,.zi Aw.2]),(.plain (Cn.CN (⟨3,Aw.2⟩:Dg)))⟩] [pW p Bi] (Ae 300 (o1++[pb Bq,An (As (Am (p:=(⟨p.Br,Bi,p.DC⟩:Pr)) (err:=3) (at_:=Aw.2) rfl) 0)])) (by kernel_rfl) .body;refine Ai (λhb2=>?_) λhb2=>?_;refine Er ?_;rintro rfl rfl;exact BN Hd.Ab _ [⟨.ifc 45 (.agg [.zi 3,.zi Aw.2]),.ifc 45 (.agg [.zi 3,.zi Aw.2]),(.plain (Cn.CN (⟨3,Aw.2⟩:Dg)))⟩] [pW p Bi] (Ae 300 (o1++[pb Bq,pb hb2,An (As (Am (p:=(⟨p.Br,Bi,p.DC⟩:Pr)) (err:=3) (at_:=Aw.2) rfl) 0)])) (by kernel_rfl) .body;refine Er ?_;rintro rfl rfl;exact Au Hd.Ab _ _ [⟨.Dd [.zi Aw.1,.zi Aw.2],.Dd [.zi Aw.1,.zi Aw.2],(.plain (Bz rfl (Bz rfl rfl)))⟩] [pW p Bi] (Ae 300 (o1++[pb Bq,pb hb2])) (by kernel_rfl) .body;refine Er ?_;rintro rfl rfl;exact H8 CQ p Bi [An (MF (Fe Cs) 0)] .body
def B37:Code:=Bk Tryz.f37
def b37:Tryz.f37.body=some B37:=by kernel_rfl
def Aq(p:Pr)(text:ByteArray):Option Bool:=cond (E3 p.JM ((p.Br.length:Nat):Int)) ((IA p.Br p.JM).bind λx1=>(some (BS x1.text.data.toList text.data.toList)).bind λq2=>some q2) (some false)
def Ag{p:Pr}{text:ByteArray}{yR:Bool}(h:Aq  p text=some yR):Sound P (G mx) (.call 37 [.ptr 0 0,.zs text] (pZ p) (.ret (.zb yR)) (pZ p)):=by
 unfold Aq at h;refine B1 Hd.mixed (AA Tryz.func37 b37 ?_);revert h;refine Ai (λBq=>?_) λBq=>?_;refine Ay λx1 fO=>?_;refine Ay λq2 Zh=>?_;rintro⟨⟩;exact Au Hd.Ab _ _ [] [bp (CK.pl p)] (Ae 300 [pb Bq,G5 (aeY .lost fO),Lg (aGF Zh (.tmp 26) (.tmp 27))]) (by kernel_rfl) .body;rintro⟨⟩;exact Au Hd.Ab _ _ [] [bp (CK.pl p)] (Ae 300 [pb Bq]) (by kernel_rfl) .body
def aHE:Code:=Bk Tryz.f174
def aIR:Tryz.f174.body=some aHE:=by kernel_rfl
def EN(token:Tk):Option Bool:=cond (Dr token.kind 5) (some true) (some false)
def N7{token:Tk}{yR:Bool}(h:EN  token=some yR):Pure P (G mx) 174 [.agg (II token)] (.zb yR):=by
 unfold EN at h;refine D6 Hd.mixed Hd.Ab (AA Tryz.func174 aIR ?_) (Bz (D3.CN token) rfl) rfl;revert h;refine Ai (λBq=>?_) λBq=>?_;rintro⟨⟩;exact rT [pb Bq];rintro⟨⟩;exact rT [pb Bq]
def aHI:Code:=Bk Tryz.f212
def aIX:Tryz.f212.body=some aHI:=by kernel_rfl
def Gg(year:Int)(month:Int):Option Int:=(IA beforeL (BK month 1)).bind λx1=>(IA beforeL month).bind λx2=>cond (Dr month 1) (cond (Dr (U2 year 4) 0) (some (BK (SP x1 x2) 1)) (some (SP x1 x2))) (some (SP x1 x2))
def P3{year:Int}{month:Int}{yR:Int}(h:Gg  year month=some yR):Pure P (G mx) 212 [.zi year,.zi month] (.zi yR):=by
 unfold Gg at h;refine D6 Hd.mixed Hd.Ab (AA Tryz.func212 aIX ?_) (Bz rfl (Bz rfl rfl)) rfl;revert h;refine Ay λx1 fO=>?_;refine Ay λx2 mR=>?_;let o1:List (PC P (G mx)):=[pk,G5 (oU fO),G5 (oU mR),pk];refine Ai (λBq=>?_) λBq=>?_;refine Ai (λhb2=>?_) λhb2=>?_;rintro⟨⟩;exact rT (o1++[pb Bq,pk,pb hb2,pk]);rintro⟨⟩;exact rT (o1++[pb Bq,pk,pb hb2]);rintro⟨⟩;exact rT (o1++[pb Bq])
def aHM:Code:=Bk Tryz.f227
def aJC:Tryz.f227.body=some aHM:=by kernel_rfl
def Jt(year:Int):Option Int:=some (BK (BQ (SP year 2000) 365) (aaF (BK (SP year 2000) 3) 4))
def Pe{year:Int}{yR:Int}(h:Jt  year=some yR):Pure P (G mx) 227 [.zi year] (.zi yR):=by
 unfold Jt at h;refine D6 Hd.mixed Hd.Ab (AA Tryz.func227 aJC ?_) (Bz rfl rfl) rfl;revert h;rintro⟨⟩;exact rT [pk,pk,pk,pk,pk]
def aHJ:Code:=Bk Tryz.f213
def aIY:Tryz.f213.body=some aHJ:=by kernel_rfl
def Ih(month:Int):Option Int:=cond (E3 month 0) (some (-1)) (cond (E3 1199 month) (some (-1)) ((Jt (BK 2000 (aaF month 12))).bind λy1=>(IA beforeL (U2 month 12)).bind λx2=>cond (E3 1 (U2 month 12)) (cond (Dr (U2 (BK 2000 (aaF month 12)) 4) 0) (some (BK (BK y1 x2) 1)) (some (BK y1 x2))) (some (BK y1 x2))))
def Sy{month:Int}{yR:Int}(h:Ih  month=some yR):Pure P (G mx) 213 [.zi month] (.zi yR):=by
 unfold Ih at h;refine D6 Hd.mixed Hd.Ab (AA Tryz.func213 aIY ?_) (Bz rfl rfl) rfl;revert h;refine Ai (λBq=>?_) λBq=>?_;rintro⟨⟩;exact rT [pb Bq];refine Ai (λhb2=>?_) λhb2=>?_;rintro⟨⟩;exact rT [pb Bq,pb hb2];refine Ay λy1 Cs=>?_;refine Ay λx2 mR=>?_;let o1:List (PC P (G mx)):=[pb Bq,pb hb2,pk,pk,Bb (Pe Cs),pk,G5 (oU mR),pk,pk];refine Ai (λhb3=>?_) λhb3=>?_;refine Ai (λFp=>?_) λFp=>?_;rintro⟨⟩;exact rT (o1++[pb hb3,pk,pb Fp,pk]);rintro⟨⟩;exact rT (o1++[pb hb3,pk,pb Fp]);rintro⟨⟩;exact rT (o1++[pb hb3])
def aHG:Code:=Bk Tryz.f195
def aIV:Tryz.f195.body=some aHG:=by kernel_rfl
def Js(year:Int)(month:Int)(day:Int):Option (Int×Int):=cond (E3 year 2000) (some (0,21)) (cond (E3 2099 year) (some (0,21)) (cond (E3 month 1) (some (0,21)) (cond (E3 12 month) (some (0,21)) (cond (E3 day 1) (some (0,21)) ((Gg year (SP month 1)).bind λy1=>cond (E3 y1 day) (some (0,21)) ((Ih (SP (BK (BQ (SP year 2000) 12) month) 1)).bind λy2=>some ((SP (BK y2 day) 1),0)))))))
def Ul{year:Int}{month:Int}{day:Int}{yR:(Int×Int)}(h:Js  year month day=some yR):Pure P (G mx) 195 [.zi year,.zi month,.zi day] (.Dd [.zi yR.1,.zi yR.2]):=by
 unfold Js at h;refine D6 Hd.mixed Hd.Ab (AA Tryz.func195 aIV ?_) (Bz rfl (Bz rfl (Bz rfl rfl))) (Bz rfl (Bz rfl rfl));revert h;refine Ai (λBq=>?_) λBq=>?_;rintro⟨⟩;exact AJ _ _ (Ae 300 [pb Bq]) (by kernel_rfl) .body (.plain (Bz rfl (Bz rfl rfl)));refine Ai (λhb2=>?_) λhb2=>?_;rintro⟨⟩;exact AJ _ _ (Ae 300 [pb Bq,pb hb2]) (by kernel_rfl) .body (.plain (Bz rfl (Bz rfl rfl)));refine Ai (λhb3=>?_) λhb3=>?_;rintro⟨⟩;exact AJ _ _ (Ae 300 [pb Bq,pb hb2,pb hb3]) (by kernel_rfl) .body (.plain (Bz rfl (Bz rfl rfl)));refine Ai (λFp=>?_) λFp=>?_;rintro⟨⟩;exact AJ _ _ (Ae 300 [pb Bq,pb hb2,pb hb3,pb Fp]) (by kernel_rfl) .body (.plain (Bz rfl (Bz rfl rfl)));refine Ai (λGZ=>?_) λGZ=>?_;rintro⟨⟩;exact AJ _ _ (Ae 300 [pb Bq,pb hb2,pb hb3,pb Fp,pb GZ]) (by kernel_rfl) .body (.plain (Bz rfl (Bz rfl rfl)));refine Ay λy1 Cs=>?_;let o1:List (PC P (G mx)):=[pb Bq,pb hb2,pb hb3,pb Fp,pb GZ,pk,Bb (P3 Cs)];refine Ai (λHq=>?_) λHq=>?_;rintro⟨⟩;exact AJ _ _ (Ae 300 (o1++[pb Hq])) (by kernel_rfl) .body (.plain (Bz rfl (Bz rfl rfl)));refine Ay λy2 Ev=>?_;rintro⟨⟩;exact AJ _ _ (Ae 300 (o1++[pb Hq,pk,pk,pk,pk,Bb (Sy Ev),pk,pk])) (by kernel_rfl) .body (.plain (Bz rfl (Bz rfl rfl)))
def avK:Code:=Bk Tryz.f175
def aIS:Tryz.f175.body=some avK:=by kernel_rfl
def Cc(i0:Nat)(e0:UInt8)(KG:Int)(E5:Int)(BA:Int)(UZ:Int):Option (Lp (Int×Int×Int×Int) (Int×Int×Int) (Int×Int)):=cond (Dr ((i0:Nat):Int) 4) (cond (Dr ((e0.toNat:Nat):Int) 45) (some (.nx ((BK KG 1),E5,BA,UZ))) (some (.rt (0,12)))) (cond (Dr ((i0:Nat):Int) 7) (cond (Dr ((e0.toNat:Nat):Int) 45) (some (.nx ((BK KG 1),E5,BA,UZ))) (some (.rt (0,12)))) (cond (E3 ((e0.toNat:Nat):Int) 48) (some (.rt (0,12))) (cond (E3 57 ((e0.toNat:Nat):Int)) (some (.rt (0,12))) (cond (Dr KG 0) (some (.nx (KG,(BK (BQ E5 10) (w64 (MH .u8 (eQ ((e0.toNat:Nat):Int) 48)))),BA,UZ))) (cond (Dr KG 1) (some (.nx (KG,E5,(BK (BQ BA 10) (w64 (MH .u8 (eQ ((e0.toNat:Nat):Int) 48)))),UZ))) (cond (Dr KG 2) (some (.nx (KG,E5,BA,(BK (BQ UZ 10) (w64 (MH .u8 (eQ ((e0.toNat:Nat):Int) 48))))))) (none)))))))
def Fo(text:ByteArray):Option (Int×Int):=cond (Dr ((text.data.toList.length:Nat):Int) 10) ((Lk text.data.toList.length (CX (λi y x=>Cc   i y x.1 x.2.1 x.2.2.1 x.2.2.2) (λx=>(x.2.1,x.2.2.1,x.2.2.2)) (text.data.toList.drop 0) 0 (0,0,0,0))).bind (N4 (λ((ajQ,ajR,ajT):(Int×Int×Int))=>(Js ajQ ajR ajT).bind λ(Ka,EI)=>some (Ka,EI)) (λv=>some v))) (some (0,12))
def Sz{text:ByteArray}{yR:(Int×Int)}(h:Fo  text=some yR):Pure P (G mx) 175 [.zs text] (.Dd [.zi yR.1,.zi yR.2]):=by
 unfold Fo at h;refine D6 Hd.mixed Hd.Ab (AA Tryz.func175 aIS ?_) (Bz rfl rfl) (Bz rfl (Bz rfl rfl));revert h;refine Ai (λBq=>?_) λBq=>?_;refine Rl (λQ v=>MK P Tryz.f175 0 Q (.Dd [.zi v.1,.zi v.2])) (λi0 ((KG,E5,BA,UZ):(Int×Int×Int×Int)) (j0:List Value)=>fr 58 [(0,.zs text),(4,.ptr 0 0),(5,.zi KG),(13,.zi ((text.data.toList.length:Nat):Int)),(14,.zi ((i0:Nat):Int))] [10,15,30,32,33,35,36,38,41,43,44,46,47] j0) (λ((KG,E5,BA,UZ):(Int×Int×Int×Int))=>⟨[(0,.cells [.zi E5,.zi BA,.zi UZ])],1,[],0⟩) (λ((E5,BA,UZ):(Int×Int×Int)) (jx:List Value)=>fr 58 [(4,.ptr 0 0)] [10,15,30,32,33,35,36,38,41,43,44,46,47] jx) (λ((E5,BA,UZ):(Int×Int×Int))=>⟨[(0,.cells [.zi E5,.zi BA,.zi UZ])],1,[],0⟩) [bF] (IV [] 0 (sb avK 500) [.code (sb avK 63)] (Ae 300 [pn Bq]) (by kernel_rfl)) ?_ ?_ ?_ (λv h=>by cases h;exact .outer .body);rintro i0 ⟨KG,E5,BA,UZ⟩ j0 hge hq;exact E7 (Ae 300 [pb (dJ hge)]) (by kernel_rfl) (hq (js 13 j0 [(1,bF)]));rintro i0 e0 ⟨KG,E5,BA,UZ⟩ j0 r RA PW Pv k;show Cc   i0 e0 KG E5 BA UZ=some r->_;unfold Cc;let o1:List (PC P (G mx)):=[pb (W6 PW),pst (Yg RA)];refine Ai (λhb2=>?_) λhb2=>?_;refine Ai (λhb3=>?_) λhb3=>?_;rintro⟨⟩;exact Jw (Ae 300 (o1++[pb hb2,pn hb3,pk,pi Pv])) (by kernel_rfl) (k (js 13 j0 [(1,bT),(2,bT),(3,bT),(4,bT),(5,undef),(6,bT),(7,bF)]));rintro⟨⟩;exact AJ _ _ (Ae 300 (o1++[pb hb2,pn hb3])) (by kernel_rfl) (.G6 k) (.plain (Bz rfl (Bz rfl rfl)));refine Ai (λFp=>?_) λFp=>?_;refine Ai (λGZ=>?_) λGZ=>?_;rintro⟨⟩;exact Jw (Ae 300 (o1++[pb hb2,pb Fp,pn GZ,pk,pi Pv])) (by kernel_rfl) (k (js 13 j0 [(1,bT),(2,bT),(3,bF),(4,bF),(5,bT),(6,bT),(7,bF)]));rintro⟨⟩;exact AJ _ _ (Ae 300 (o1++[pb hb2,pb Fp,pn GZ])) (by kernel_rfl) (.G6 k) (.plain (Bz rfl (Bz rfl rfl)));refine Ai (λHq=>?_) λHq=>?_;rintro⟨⟩;exact AJ _ _ (Ae 300 (o1++[pb hb2,pb Fp,pb Hq])) (by kernel_rfl) (.G6 k) (.plain (Bz rfl (Bz rfl rfl)));refine Ai (λIi=>?_) λIi=>?_;rintro⟨⟩;exact AJ _ _ (Ae 300 (o1++[pb hb2,pb Fp,pb Hq,pb Ii])) (by kernel_rfl) (.G6 k) (.plain (Bz rfl (Bz rfl rfl)));refine Ai (λJL=>?_) λJL=>?_;rintro⟨⟩;exact Jw (Ae 300 (o1++[pb hb2,pb Fp,pb Hq,pb Ii,G5 (t:=173) (a:=.ptr 0 0) (b:=.zi KG) (v:=.ptr 0 0) (by rw[FG JL];kernel_rfl),pk,pk,pk,G5 (t:=173) (a:=.ptr 0 0) (b:=.zi KG) (v:=.ptr 0 0) (by rw[FG JL];kernel_rfl),pi Pv])) (by kernel_rfl) (k [(jv j0 0),bT,bF,bF,bF,bF,bF,(jv j0 7),bF,bF,bF,bF,bF]);refine Ai (λJn=>?_) λJn=>?_;rintro⟨⟩;exact Jw (Ae 300 (o1++[pb hb2,pb Fp,pb Hq,pb Ii,G5 (t:=173) (a:=.ptr 0 0) (b:=.zi KG) (v:=.ptr 0 1) (by rw[FG Jn];kernel_rfl),pk,pk,pk,G5 (t:=173) (a:=.ptr 0 0) (b:=.zi KG) (v:=.ptr 0 1) (by rw[FG Jn];kernel_rfl),pi Pv])) (by kernel_rfl) (k [(jv j0 0),bT,bF,bF,bF,bF,bF,(jv j0 7),bF,bF,bF,bF,bF]);refine Ai (λGF=>?_) λGF=>?_;rintro⟨⟩;exact Jw (Ae 300 (o1++[pb hb2,pb Fp,pb Hq,pb Ii,G5 (t:=173) (a:=.ptr 0 0) (b:=.zi KG) (v:=.ptr 0 2) (by rw[FG GF];kernel_rfl),pk,pk,pk,G5 (t:=173) (a:=.ptr 0 0) (b:=.zi KG) (v:=.ptr 0 2) (by rw[FG GF];kernel_rfl),pi Pv])) (by kernel_rfl) (k [(jv j0 0),bT,bF,bF,bF,bF,bF,(jv j0 7),bF,bF,bF,bF,bF]);exact dM;rintro⟨ajQ,ajR,ajT⟩ aMJ;dsimp only;refine Ay ?_;rintro⟨Ka,EI⟩ Ev;dsimp only;rintro⟨⟩;exact AJ _ _ (HY 300 [pk,pk,pk,Bb (Ul Ev)]) (by kernel_rfl) .body (.plain (Bz rfl (Bz rfl rfl)));rintro⟨⟩;exact AJ _ _ (Ae 300 [pn Bq]) (by kernel_rfl) .body (.plain (Bz rfl (Bz rfl rfl)))
def G4(p:Pr):Option ((Tk⊕Dg)×Int):=(AD p).bind λy1=>Sum.elim (λ(CI:Tk)=>(EN CI).bind λy2=>cond y2 (some ((Sum.inl CI:(Tk⊕Dg)),(BK p.JM 1))) (some ((Sum.inr (⟨71,CI.AU⟩:Dg):(Tk⊕Dg)),p.JM))) (λ(Lj:Dg)=>some ((Sum.inr Lj:(Tk⊕Dg)),p.JM)) y1
def IX{p:Pr}{yR:(Tk⊕Dg)}{Ah:Int}(h:G4  p=some (yR,Ah)):pR mx 118 [.ptr 0 0,.fn (.func 174) [] []] p (I0 eT eD yR) Ah:=by
 unfold G4 at h;refine B1 Hd.mixed (AA Tryz.func118 bV ?_);revert h;refine Ay λy1 Cs=>?_;refine SO (λCI Ls=>?_) λLj Ls=>?_;subst Ls;refine Ay λy2 Ev=>?_;let o1:List (PC P (G mx)):=[Af (Av (Ao Cs) 0),Bb (N7 Ev)];refine Ai (λhv=>?_) λhv=>?_;subst hv;rintro⟨⟩;exact Au Hd.Ab _ _ [⟨.agg (II CI),.agg (II CI),(.plain (D3.CN CI))⟩] [pW p (BK p.JM 1)] (Ae 300 (o1++[pk])) (by kernel_rfl) .body;subst hv;rintro⟨⟩;exact BN Hd.Ab _ [⟨.ifc 45 (.agg [.zi 71,.zi CI.AU]),.ifc 45 (.agg [.zi 71,.zi CI.AU]),(.plain (Cn.CN (⟨71,CI.AU⟩:Dg)))⟩] [bp (CK.pl p)] (Ae 300 (o1++[An (As (Am (p:=p) (err:=71) (at_:=CI.AU) rfl) 0)])) (by kernel_rfl) .body;subst Ls;rintro⟨⟩;exact BN Hd.Ab _ [gD Lj] [bp (CK.pl p)] (Ae 300 [An (Av (Ao Cs) 0)]) (by kernel_rfl) .body
def aGZ:Code:=Bk Tryz.f156
def aIM:Tryz.f156.body=some aGZ:=by kernel_rfl
def DO(p:Pr)(least:Int):Option ((Int⊕Dg)×Int):=(G4 p).bind λ(En,Bi)=>Sum.elim (λ(Aw:Tk)=>(Fo Aw.text).bind λ(Ka,EI)=>cond (Dr EI 0) (cond (E3 Ka least) (some ((Sum.inr (⟨21,Aw.AU⟩:Dg):(Int⊕Dg)),Bi)) (some ((Sum.inl Ka:(Int⊕Dg)),Bi))) (some ((Sum.inr (⟨21,Aw.AU⟩:Dg):(Int⊕Dg)),Bi))) (λ(CQ:Dg)=>some ((Sum.inr CQ:(Int⊕Dg)),Bi)) En
def CF{p:Pr}{least:Int}{yR:(Int⊕Dg)}{Ah:Int}(h:DO  p least=some (yR,Ah)):pR mx 156 [.ptr 0 0,.zi least] p (I0 eI eD yR) Ah:=by
 unfold DO at h;refine B1 Hd.mixed (AA Tryz.func156 aIM ?_);revert h;refine BV (λAw Bi Cs=>?_) λCQ Bi Cs=>?_;refine Ay ?_;rintro⟨Ka,EI⟩ Ev;dsimp only;let o1:List (PC P (G mx)):=[Af (Ic (IX Cs) 0),Bb (Sz Ev)];refine Ai (λBq=>?_) λBq=>?_;refine Ai (λhb2=>?_) λhb2=>?_;refine Er ?_;rintro rfl rfl;exact BN Hd.Ab _ [⟨.ifc 45 (.agg [.zi 21,.zi Aw.AU]),.ifc 45 (.agg [.zi 21,.zi Aw.AU]),(.plain (Cn.CN (⟨21,Aw.AU⟩:Dg)))⟩] [pW p Bi] (Ae 300 (o1++[pn Bq,pb hb2,An (As (Am (p:=(⟨p.Br,Bi,p.DC⟩:Pr)) (err:=21) (at_:=Aw.AU) rfl) 0)])) (by kernel_rfl) .body;refine Er ?_;rintro rfl rfl;exact Au Hd.Ab _ _ [] [pW p Bi] (Ae 300 (o1++[pn Bq,pb hb2])) (by kernel_rfl) .body;refine Er ?_;rintro rfl rfl;exact BN Hd.Ab _ [⟨.ifc 45 (.agg [.zi 21,.zi Aw.AU]),.ifc 45 (.agg [.zi 21,.zi Aw.AU]),(.plain (Cn.CN (⟨21,Aw.AU⟩:Dg)))⟩] [pW p Bi] (Ae 300 (o1++[pn Bq,An (As (Am (p:=(⟨p.Br,Bi,p.DC⟩:Pr)) (err:=21) (at_:=Aw.AU) rfl) 0)])) (by kernel_rfl) .body;refine Er ?_;rintro rfl rfl;exact H8 CQ p Bi [An (Ic (IX Cs) 0)] .body
def aGP:Code:=Bk Tryz.f125
def aIB:Tryz.f125.body=some aGP:=by kernel_rfl
def Hj(p:Pr):Option ((Nd⊕Dg)×Int):=(Ak p uF).bind λ(En,Bi)=>Sum.elim (λ(Aw:Tk)=>(AH (⟨p.Br,Bi,p.DC⟩:Pr) 0).bind λ(Ka,EI)=>Sum.elim (λ(CZ:(Int×Int))=>(Ak (⟨p.Br,EI,p.DC⟩:Pr) sB).bind λ(PT,Fl)=>Sum.elim (λ(CJ:Tk)=>(DO (⟨p.Br,Fl,p.DC⟩:Pr) 0).bind λ(VV,Jm)=>Sum.elim (λ(De:Int)=>(Aq (⟨p.Br,Jm,p.DC⟩:Pr) toS).bind λy5=>cond y5 ((DO (⟨p.Br,(BK Jm 1),p.DC⟩:Pr) (BK De 1)).bind λ(mL,N1)=>Sum.elim (λ(I8:Int)=>(Ak (⟨p.Br,N1,p.DC⟩:Pr) Vt).bind λ(y7a,Sv)=>Sum.elim (λ(U8:Tk)=>(DO (⟨p.Br,Sv,p.DC⟩:Pr) 0).bind λ(Zc,Ld)=>Sum.elim (λ(GY:Int)=>some ((Sum.inl (⟨5,ByteArray.empty,ByteArray.empty,CZ.1,De,I8,GY,(⟨0,[]⟩:Fn),[],Aw.AU⟩:Nd):(Nd⊕Dg)),Ld)) (λ(Lc:Dg)=>some ((Sum.inr Lc:(Nd⊕Dg)),Ld)) Zc) (λ(O4:Dg)=>some ((Sum.inr O4:(Nd⊕Dg)),Sv)) y7a) (λ(Mz:Dg)=>some ((Sum.inr Mz:(Nd⊕Dg)),N1)) mL) ((Ak (⟨p.Br,Jm,p.DC⟩:Pr) Vt).bind λ(y9a,Ze)=>Sum.elim (λ(WN:Tk)=>(DO (⟨p.Br,Ze,p.DC⟩:Pr) 0).bind λ(U3,JV)=>Sum.elim (λ(JK:Int)=>some ((Sum.inl (⟨5,ByteArray.empty,ByteArray.empty,CZ.1,De,36525,JK,(⟨0,[]⟩:Fn),[],Aw.AU⟩:Nd):(Nd⊕Dg)),JV)) (λ(Y9:Dg)=>some ((Sum.inr Y9:(Nd⊕Dg)),JV)) U3) (λ(Zd:Dg)=>some ((Sum.inr Zd:(Nd⊕Dg)),Ze)) y9a)) (λ(Iw:Dg)=>some ((Sum.inr Iw:(Nd⊕Dg)),Jm)) VV) (λ(Eu:Dg)=>some ((Sum.inr Eu:(Nd⊕Dg)),Fl)) PT) (λ(G8:Dg)=>some ((Sum.inr G8:(Nd⊕Dg)),EI)) Ka) (λ(CQ:Dg)=>some ((Sum.inr CQ:(Nd⊕Dg)),Bi)) En
def KE{p:Pr}{yR:(Nd⊕Dg)}{Ah:Int}(h:Hj  p=some (yR,Ah)):pR mx 125 [.ptr 0 0] p (I0 eN eD yR) Ah:=by
 unfold Hj at h;refine B1 Hd.mixed (AA Tryz.func125 aIB ?_);revert h;refine BV (λAw Bi Cs=>?_) λCQ Bi Cs=>?_;let o1:List (PC P (G mx)):=[Af (Ic (Aa Cs) 0)];refine BV (λCZ EI Ev=>?_) λG8 EI Ev=>?_;let o2:List (PC P (G mx)):=o1++[Af (MF (Al Ev) 0)];refine BV (λCJ Fl GH=>?_) λEu Fl GH=>?_;let o3:List (PC P (G mx)):=o2++[Af (Ic (Aa GH) 0)];refine BV (λDe Jm Kb=>?_) λIw Jm Kb=>?_;refine Ay λy5 Kc=>?_;let o4:List (PC P (G mx)):=o3++[Af (aH (CF Kb) 0),Af (NP (Ag Kc) 0)];refine Ai (λhv=>?_) λhv=>?_;subst hv;refine BV (λI8 N1 Nu=>?_) λMz N1 Nu=>?_;let o5:List (PC P (G mx)):=o4++[pk,pk,Af (aH (CF Nu) 0)];refine BV (λU8 Sv RE=>?_) λO4 Sv RE=>?_;refine BV (λGY Ld O8=>?_) λLc Ld O8=>?_;refine Er ?_;rintro rfl rfl;exact Au Hd.Ab _ _ [⟨.agg [.zi 5,.zs ByteArray.empty,.zs ByteArray.empty,.zi CZ.1,.zi De,.zi I8,.zi GY,.zi 0,.sl .full 0 [],.sl .full 0 [],.zi Aw.AU],.agg [.zi 5,.zs ByteArray.empty,.zs ByteArray.empty,.zi CZ.1,.zi De,.zi I8,.zi GY,.zi 0,.sl .lost ([].length) (rows Iq []),.sl .lost ([].length) (Bf []),.zi Aw.AU],(.wn (.g (.r (.r (.r (.r (.r (.r (.r (.r (.z (.z (.r .nil))))))))))) .nil) (Az.CN (⟨5,ByteArray.empty,ByteArray.empty,CZ.1,De,I8,GY,(⟨0,[]⟩:Fn),[],Aw.AU⟩:Nd)))⟩] [pW p Ld] (Ae 300 (o5++[Af (Ic (Aa RE) 0),Af (aH (CF O8) 0)])) (by kernel_rfl) .body;refine Er ?_;rintro rfl rfl;exact H8 Lc p Ld (o5++[Af (Ic (Aa RE) 0),An (aH (CF O8) 0)]) .body;refine Er ?_;rintro rfl rfl;exact H8 O4 p Sv (o5++[An (Ic (Aa RE) 0)]) .body;refine Er ?_;rintro rfl rfl;exact H8 Mz p N1 (o4++[pk,pk,An (aH (CF Nu) 0)]) .body;subst hv;refine BV (λWN Ze WZ=>?_) λZd Ze WZ=>?_;refine BV (λJK JV Po=>?_) λY9 JV Po=>?_;refine Er ?_;rintro rfl rfl;exact Au Hd.Ab _ _ [⟨.agg [.zi 5,.zs ByteArray.empty,.zs ByteArray.empty,.zi CZ.1,.zi De,.zi 36525,.zi JK,.zi 0,.sl .full 0 [],.sl .full 0 [],.zi Aw.AU],.agg [.zi 5,.zs ByteArray.empty,.zs ByteArray.empty,.zi CZ.1,.zi De,.zi 36525,.zi JK,.zi 0,.sl .lost ([].length) (rows Iq []),.sl .lost ([].length) (Bf []),.zi Aw.AU],(.wn (.g (.r (.r (.r (.r (.r (.r (.r (.r (.z (.z (.r .nil))))))))))) .nil) (Az.CN (⟨5,ByteArray.empty,ByteArray.empty,CZ.1,De,36525,JK,(⟨0,[]⟩:Fn),[],Aw.AU⟩:Nd)))⟩] [pW p JV] (Ae 300 (o4++[Af (Ic (Aa WZ) 0),Af (aH (CF Po) 0)])) (by kernel_rfl) .body;refine Er ?_;rintro rfl rfl;exact H8 Y9 p JV (o4++[Af (Ic (Aa WZ) 0),An (aH (CF Po) 0)]) .body;refine Er ?_;rintro rfl rfl;exact H8 Zd p Ze (o4++[An (Ic (Aa WZ) 0)]) .body;refine Er ?_;rintro rfl rfl;exact H8 Iw p Jm (o3++[An (aH (CF Kb) 0)]) .body;refine Er ?_;rintro rfl rfl;exact H8 Eu p Fl (o2++[An (Ic (Aa GH) 0)]) .body;refine Er ?_;rintro rfl rfl;exact H8 G8 p EI (o1++[An (MF (Al Ev) 0)]) .body;refine Er ?_;rintro rfl rfl;exact H8 CQ p Bi [An (Ic (Aa Cs) 0)] .body
def aHA:Code:=Bk Tryz.f160
def aIN:Tryz.f160.body=some aHA:=by kernel_rfl
def EM(token:Tk):Option Bool:=cond (Dr token.kind 4) (some true) (some false)
def N6{token:Tk}{yR:Bool}(h:EM  token=some yR):Pure P (G mx) 160 [.agg (II token)] (.zb yR):=by
 unfold EM at h;refine D6 Hd.mixed Hd.Ab (AA Tryz.func160 aIN ?_) (Bz (D3.CN token) rfl) rfl;revert h;refine Ai (λBq=>?_) λBq=>?_;rintro⟨⟩;exact rT [pb Bq];rintro⟨⟩;exact rT [pb Bq]
def aHB:Code:=Bk Tryz.f161
def aIO:Tryz.f161.body=some aHB:=by kernel_rfl
def Cw(token:Tk):Option Int:=(JG token.text azR ByteArray.empty 1).bind λy1=>(Ro y1).bind λ(Ka,EI)=>some Ka
def Ou{token:Tk}{yR:Int}(h:Cw  token=some yR):Pure P (G mx) 161 [.agg (II token)] (.zi yR):=by
 unfold Cw at h;refine D6 Hd.mixed Hd.Ab (AA Tryz.func161 aIO ?_) (Bz (D3.CN token) rfl) rfl;revert h;refine Ay λy1 Cs=>?_;refine Ay ?_;rintro⟨Ka,EI⟩ Ev;dsimp only;rintro⟨⟩;exact rT [Bb (eC Cs),Bb (rH Ev)]
def aHN:Code:=Bk Tryz.f228
def aJD:Tryz.f228.body=some aHN:=by kernel_rfl
def Db(token:Tk):Option Bool:=cond (Dr token.kind 4) (some true) (cond (Dr token.kind 3) (some true) (some false))
def NO{token:Tk}{yR:Bool}(h:Db  token=some yR):Pure P (G mx) 228 [.agg (II token)] (.zb yR):=by
 unfold Db at h;refine D6 Hd.mixed Hd.Ab (AA Tryz.func228 aJD ?_) (Bz (D3.CN token) rfl) rfl;revert h;refine Ai (λBq=>?_) λBq=>?_;rintro⟨⟩;exact rT [pb Bq];refine Ai (λhb2=>?_) λhb2=>?_;rintro⟨⟩;exact rT [pb Bq,pb hb2];rintro⟨⟩;exact rT [pb Bq,pb hb2]
def GO(p:Pr):Option ((Tk⊕Dg)×Int):=(AD p).bind λy1=>Sum.elim (λ(CI:Tk)=>(Db CI).bind λy2=>cond y2 (some ((Sum.inl CI:(Tk⊕Dg)),(BK p.JM 1))) (some ((Sum.inr (⟨71,CI.AU⟩:Dg):(Tk⊕Dg)),p.JM))) (λ(Lj:Dg)=>some ((Sum.inr Lj:(Tk⊕Dg)),p.JM)) y1
def IG{p:Pr}{yR:(Tk⊕Dg)}{Ah:Int}(h:GO  p=some (yR,Ah)):pR mx 118 [.ptr 0 0,.fn (.func 228) [] []] p (I0 eT eD yR) Ah:=by
 unfold GO at h;refine B1 Hd.mixed (AA Tryz.func118 bV ?_);revert h;refine Ay λy1 Cs=>?_;refine SO (λCI Ls=>?_) λLj Ls=>?_;subst Ls;refine Ay λy2 Ev=>?_;let o1:List (PC P (G mx)):=[Af (Av (Ao Cs) 0),Bb (NO Ev)];refine Ai (λhv=>?_) λhv=>?_;subst hv;rintro⟨⟩;exact Au Hd.Ab _ _ [⟨.agg (II CI),.agg (II CI),(.plain (D3.CN CI))⟩] [pW p (BK p.JM 1)] (Ae 300 (o1++[pk])) (by kernel_rfl) .body;subst hv;rintro⟨⟩;exact BN Hd.Ab _ [⟨.ifc 45 (.agg [.zi 71,.zi CI.AU]),.ifc 45 (.agg [.zi 71,.zi CI.AU]),(.plain (Cn.CN (⟨71,CI.AU⟩:Dg)))⟩] [bp (CK.pl p)] (Ae 300 (o1++[An (As (Am (p:=p) (err:=71) (at_:=CI.AU) rfl) 0)])) (by kernel_rfl) .body;subst Ls;rintro⟨⟩;exact BN Hd.Ab _ [gD Lj] [bp (CK.pl p)] (Ae 300 [An (Av (Ao Cs) 0)]) (by kernel_rfl) .body
def aHK:Code:=Bk Tryz.f214
def aIZ:Tryz.f214.body=some aHK:=by kernel_rfl
def BU(p:Pr):Option (((Int×Int)⊕Dg)×Int):=(GO p).bind λ(En,Bi)=>Sum.elim (λ(Aw:Tk)=>(Cw Aw).bind λy2=>cond (Dr Aw.kind 3) (cond (Dr y2 0) (some ((Sum.inl (y2,Aw.AU):((Int×Int)⊕Dg)),Bi)) (some ((Sum.inr (⟨3,Aw.AU⟩:Dg):((Int×Int)⊕Dg)),Bi))) (some ((Sum.inl (y2,Aw.AU):((Int×Int)⊕Dg)),Bi))) (λ(CQ:Dg)=>some ((Sum.inr CQ:((Int×Int)⊕Dg)),Bi)) En
def Bl{p:Pr}{yR:((Int×Int)⊕Dg)}{Ah:Int}(h:BU  p=some (yR,Ah)):pR mx 214 [.ptr 0 0] p (I0 eJ eD yR) Ah:=by
 unfold BU at h;refine B1 Hd.mixed (AA Tryz.func214 aIZ ?_);revert h;refine BV (λAw Bi Cs=>?_) λCQ Bi Cs=>?_;refine Ay λy2 Ev=>?_;let o1:List (PC P (G mx)):=[Af (Ic (IG Cs) 0),Bb (Ou Ev)];refine Ai (λBq=>?_) λBq=>?_;refine Ai (λhb2=>?_) λhb2=>?_;refine Er ?_;rintro rfl rfl;exact Au Hd.Ab _ _ [⟨.Dd [.zi y2,.zi Aw.AU],.Dd [.zi y2,.zi Aw.AU],(.plain (Bz rfl (Bz rfl rfl)))⟩] [pW p Bi] (Ae 300 (o1++[pb Bq,pn hb2])) (by kernel_rfl) .body;refine Er ?_;rintro rfl rfl;exact BN Hd.Ab _ [⟨.ifc 45 (.agg [.zi 3,.zi Aw.AU]),.ifc 45 (.agg [.zi 3,.zi Aw.AU]),(.plain (Cn.CN (⟨3,Aw.AU⟩:Dg)))⟩] [pW p Bi] (Ae 300 (o1++[pb Bq,pn hb2,An (As (Am (p:=(⟨p.Br,Bi,p.DC⟩:Pr)) (err:=3) (at_:=Aw.AU) rfl) 0)])) (by kernel_rfl) .body;refine Er ?_;rintro rfl rfl;exact Au Hd.Ab _ _ [⟨.Dd [.zi y2,.zi Aw.AU],.Dd [.zi y2,.zi Aw.AU],(.plain (Bz rfl (Bz rfl rfl)))⟩] [pW p Bi] (Ae 300 (o1++[pb Bq])) (by kernel_rfl) .body;refine Er ?_;rintro rfl rfl;exact H8 CQ p Bi [An (Ic (IG Cs) 0)] .body
def aHO:Code:=Bk Tryz.f229
def aJE:Tryz.f229.body=some aHO:=by kernel_rfl
def ES(token:Tk):Option Bool:=cond (BS token.text.data.toList K6.data.toList) (some true) (cond (BS token.text.data.toList Jl.data.toList) (some true) (some false))
def N8{token:Tk}{yR:Bool}(h:ES  token=some yR):Pure P (G mx) 229 [.agg (II token)] (.zb yR):=by
 unfold ES at h;refine D6 Hd.mixed Hd.Ab (AA Tryz.func229 aJE ?_) (Bz (D3.CN token) rfl) rfl;revert h;refine Ai (λBq=>?_) λBq=>?_;rintro⟨⟩;exact rT [pb Bq];refine Ai (λhb2=>?_) λhb2=>?_;rintro⟨⟩;exact rT [pb Bq,pb hb2];rintro⟨⟩;exact rT [pb Bq,pb hb2]
end Mo
end Go.Proofs.YtpbkhogolfegfaaGreatDoor
