/- Part of a proof: see the last text. -/
import Derived.Test.YtpbkhogolfegfaaGreatDoorPto
import Derived.Test.YtpbkhogolfegfaaGreatDoorCards
import Derived.Test.YtpbkhogolfegfaaGreatDoorTie
import Derived.Lib.LaidTab
import Derived.Lib.LaidIn
import Derived.Shelf.Vars
set_option linter.unusedVariables false
set_option linter.unusedSimpArgs false
set_option linter.defProp false
noncomputable section
namespace Go.Proofs.YtpbkhogolfegfaaGreatDoor
open AI Go Go.RowKit LexS
def chunks{α:Type}{V:α->List Value}{k:Nat}:∀{l:List α} {cs:List Value},cs.length=l.length*k->(∀y,(V y).length=k)->(∀(i:Nat) y,l[i]?=some y->(cs.drop (i*k)).take k=V y)->cs=l.flatMap V
 | [],cs,h,_,_=>by
   simp only[List.length_nil,Nat.zero_mul] at h;rw[List.eq_nil_of_length_eq_zero h];rfl
 | a::l,cs,h,hV,hc=>by
   have h0:=hc 0 a rfl;rw[Nat.zero_mul,List.drop_zero] at h0
   have ih:=chunks (V:=V) (k:=k) (l:=l) (cs:=cs.drop k) (by rw[List.length_drop,h,List.length_cons,Nat.succ_mul];omega) hV λi y hy=>by
     rw[List.drop_drop];have:=hc (i+1) y (by simpa using hy)
     rwa[Nat.succ_mul,Nat.add_comm] at this
   rw[List.flatMap_cons,<- h0,<- ih,List.take_append_drop]
def MU{α H:Type}{enc:TypeId×Value->H}{P:Program}{w:World}{base:Nat}{sp:Nat->Bool}{held:Bool}{fuel:Nat}{t e:TypeId}{n k:Nat}{cs:List Value}{l:List α}{p:List MemPlace}(D:α->DataW H)(V:α->List Value)(hV:∀y,(V y).length=k)
   (Nc:∀f c y q,DataW.trod enc P w base sp held f e c=some (D y,q)->c=V y)
   (ht:P.underlying t=some (.array n e)) (hce:P.cellsOf e=k) (hct:P.cellsOf t=n*k) (h:DataW.trod enc P w base sp held fuel t cs=some (.agg (l.map D),p)):cs=l.flatMap V:=by
 obtain⟨xs,m,_,hx,hl,hxl,SO⟩:=DataW.trod_array ht h
 have hd:l.map D=xs.map (·.1):=by
   have:=congrArg Prod.fst hx;simpa using this
 have mC:l.length=n:=by
   have:=congrArg List.length hd;simp at this;omega
 rw[hct] at hl;rw[hce] at SO;refine chunks (by rw[hl,mC]) hV λi y hy=>?_;have hi:i < n:=by have:=(List.getElem?_eq_some_iff.1 hy).1;omega
 have h2:=SO i hi;have hxi:xs[i]?=some xs[i]:=List.getElem?_eq_getElem (by omega);rw[hxi] at h2;have h3:(l.map D)[i]?=(xs.map (·.1))[i]?:=by rw[hd]
 rw[List.getElem?_map,List.getElem?_map,hy,hxi] at h3;simp only[Option.map_some,Option.some.injEq] at h3;refine Nc m _ y xs[i].2 ?_;rw[h2,h3]
def XY{H:Type}{enc:TypeId×Value->H}{w:World}{base:Nat}{sp:Nat->Bool}{held:Bool}(f:Nat)(c:List Value)(y:List UInt8)(q:List MemPlace)(hh:DataW.trod enc Tryz.prog w base sp held f 9 c=some (.lit (.string y),q)):c=[.string ⟨y.toArray⟩]:=by
 obtain⟨z,hc,hz,_⟩:=DataW.trod_string Tryz.underlying9 hh;simp only[Prod.mk.injEq,DataW.lit.injEq,Lit.string.injEq] at hz;rw[hc,hz.1]
def Pv{W:World}{n:String}{g:Nat}{cs:Array Value}(hg:Tryz.prog.globalNamed n=some g)(h:W.var? Tryz.prog n=some cs):∃t fr,W.heap[g]?=some (.cells cs t fr):=by
 unfold World.var? at h;rw[hg] at h;simp only[Option.bind_some] at h;split at h;rename_i c t fr hh;injection h with h
 subst h;exact⟨t,fr,hh⟩;cases h
def gB:Tryz.prog.globalNamed "wageoffice/calendar.before"=some 12:=by kernel_rfl
def gC:Tryz.prog.globalNamed "wageoffice/lexer.classes"=some 3:=by kernel_rfl
def gS:Tryz.prog.globalNamed "wageoffice/lexer.symbols"=some 0:=by kernel_rfl
def gO:Tryz.prog.globalNamed "wageoffice/parser.operators"=some 2:=by kernel_rfl
def gR:Tryz.prog.globalNamed "wageoffice/parser.roles"=some 1:=by kernel_rfl
def gP:Tryz.prog.globalNamed "internal/strconv.uint64pow10"=some 4:=by kernel_rfl
def gPT:(Tryz.prog.globals[(4:Nat)]?).map (·.type)=some 167:=by kernel_rfl
def zW:Tryz.prog.cellsOf 146=1:=by kernel_rfl
def zP:Tryz.prog.cellsOf 167=20*1:=by kernel_rfl
def gBT:(Tryz.prog.globals[(12:Nat)]?).map (·.type)=some 203:=by kernel_rfl
def gCT:(Tryz.prog.globals[(3:Nat)]?).map (·.type)=some 151:=by kernel_rfl
def gST:(Tryz.prog.globals[(0:Nat)]?).map (·.type)=some 134:=by kernel_rfl
def gOT:(Tryz.prog.globals[(2:Nat)]?).map (·.type)=some 143:=by kernel_rfl
def gRT:(Tryz.prog.globals[(1:Nat)]?).map (·.type)=some 135:=by kernel_rfl
def zI:Tryz.prog.cellsOf 3=1:=by kernel_rfl
def zU:Tryz.prog.cellsOf 5=1:=by kernel_rfl
def zS:Tryz.prog.cellsOf 9=1:=by kernel_rfl
def zB:Tryz.prog.cellsOf 203=13*1:=by kernel_rfl
def zC:Tryz.prog.cellsOf 151=128*1:=by kernel_rfl
def zY:Tryz.prog.cellsOf 134=17*1:=by kernel_rfl
def z6:Tryz.prog.cellsOf 142=6*1:=by kernel_rfl
def zO:Tryz.prog.cellsOf 143=6*6:=by kernel_rfl
def zR:Tryz.prog.cellsOf 135=5*1:=by kernel_rfl
def ayY:List Int:=[0,31,59,90,120,151,181,212,243,273,304,334,365]
def aBS:List (List UInt8):=[[],[101,97,114,110],[100,101,100,117,99,116],[102,108,111,111,114],[105,110,102,111]]
def opsL:List (List (List UInt8)):=[[[111,114],[],[],[],[],[]],[[97,110,100],[],[],[],[],[]],[[],[],[],[],[],[]],[[61,61],[33,61],[60],[60,61],[62],[62,61]],[[43],[45],[],[],[],[]],[[42],[47],[97,116],[],[],[]]]
abbrev bJ(y:List UInt8):DataW Unit:=.lit (.string y)
def aGH:(Rows.laid_wageoffice_calendar_before:DataW Unit)=.agg (ayY.map λz=>.lit (.int .i64 z)):=by rfl
def aGK:(Rows.laid_internal_strconv_uint64pow10:DataW Unit)=.agg (Lib.pow10Tab.map λz=>.lit (.int .u64 z)):=by kernel_rfl
def aGI:(Rows.laid_wageoffice_lexer_classes:DataW Unit)=.agg ((List.range 128).map λi=>.lit (.int .u8 (Q4 i:Nat))):=by rfl
def aGM:(Rows.laid_wageoffice_lexer_symbols:DataW Unit)=.agg (Gf.map bJ):=by rfl
def aGJ:(Rows.laid_wageoffice_parser_operators:DataW Unit)=.agg (opsL.map λl=>.agg (l.map bJ)):=by rfl
def aGL:(Rows.laid_wageoffice_parser_roles:DataW Unit)=.agg (aBS.map bJ):=by rfl
def aJS:((begin Tryz.prog (λ_ _=>0) default).world.heap[(5:Nat)]?).bind Obj.row?=some (#[.int .i64 0],3):=by kernel_rfl
def awE{W:World}(h:W.ShapedOpen Tryz.prog):∃m,W.cell? ⟨5,0,none⟩=some (.int .i64 m):=by
 obtain⟨m,hm⟩:=cell_of_shapedOpen_int h (g:=5) (by decide +kernel) aJS rfl (by kernel_rfl) (by kernel_rfl) Tryz.underlying3;exact⟨m,hm⟩
def Wt(c:Cx)(w:World):∀l:List (List UInt8),Cz c w (l.map Ge) (l.flatMap λy=>[.string ⟨y.toArray⟩])
 | []=>.nil
 | _::l=>.cons (.sc rfl) (Wt c w l)
def rM(c:Cx)(w:World):∀l:List Int,Cz c w (l.map Hd.int) (l.flatMap λy=>[.int .i64 y])
 | []=>.nil
 | _::l=>.cons (.sc rfl) (rM c w l)
def aeL(c:Cx)(w:World):∀l:List Int,Cz c w (l.map Hd.aoQ) (l.flatMap λy=>[.int .u64 y])
 | []=>.nil
 | _::l=>.cons (.sc rfl) (aeL c w l)
def aeF(c:Cx)(w:World):∀l:List Nat,Cz c w (l.map λi=>.sc (.int .u8 (Q4 i:Nat))) (l.flatMap λi=>[.int .u8 (Q4 i:Nat)])
 | []=>.nil
 | _::l=>.cons (.sc rfl) (aeF c w l)
def iO(c:Cx)(w:World):∀l:List (List (List UInt8)),Cz c w (l.flatMap λy=>y.map Ge) (l.flatMap λy=>y.flatMap λz=>[.string ⟨z.toArray⟩])
 | []=>.nil
 | a::l=>(Wt c w a).append (iO c w l)
def UH{W:World}{g:Nat}{l:List AV}{cs:Array Value}(h:∃t fr,W.heap[g]?=some (.cells cs t fr))(hr:Cz (Mo.W7 W) W l cs.toList):A9 (Mo.W7 W) W g 0 l:=by
 obtain⟨t,fr,h⟩:=h;refine A9.Oa hr λi v hi=>Mo.ayG ?_;rw[Nat.zero_add,cell_of_row W g i cs t fr h];rwa[Array.getElem?_toList] at hi
def nZ{W:World}(h:laidMetH Tryz.prog Rows.parserTreesRow.laid W)(Gi:W.ShapedOpen Tryz.prog):∃mx,St (Hd.G mx) (Mo.W7 W) W s0:=by
 have h:laidMet Tryz.prog [("math/bits.deBruijn32tab",Rows.laid_math_bits_deBruijn32tab),("math/bits.deBruijn64tab",Rows.laid_math_bits_deBruijn64tab),("internal/strconv.uint64pow10",Rows.laid_internal_strconv_uint64pow10),("unicode/utf8.acceptRanges",Rows.laid_unicode_utf8_acceptRanges),("strconv.ErrRange",Rows.laid_strconv_ErrRange),("strconv.ErrSyntax",Rows.laid_strconv_ErrSyntax),("wageoffice/calendar.before",Rows.laid_wageoffice_calendar_before),("wageoffice/lexer.classes",Rows.laid_wageoffice_lexer_classes),("wageoffice/lexer.symbols",Rows.laid_wageoffice_lexer_symbols),("wageoffice/parser.operators",Rows.laid_wageoffice_parser_operators),("wageoffice/parser.roles",Rows.laid_wageoffice_parser_roles),("unicode/utf8.first",Rows.laid_unicode_utf8_first)] W:=h
 obtain⟨ps,⟨_,_,_,_,_,_,_,_,_,_,⟨_,_,_,_,_,_,_,_,_,_,⟨g3,t3,cs3,f3,p3,q3,hg3,ht3,hv3,hd3,⟨_,_,_,_,_,_,_,_,_,_,⟨_,_,_,_,_,_,_,_,_,_,⟨_,_,_,_,_,_,_,_,_,_,⟨g7,t7,cs7,f7,p7,q7,hg7,ht7,hv7,hd7,⟨g8,t8,cs8,f8,p8,q8,hg8,ht8,hv8,hd8,⟨g9,t9,cs9,f9,p9,q9,hg9,ht9,hv9,hd9,⟨g10,t10,azE,f10,p10,q10,aHN,aIE,aIG,hd10,⟨g11,t11,aKY,f11,p11,q11,aHO,aIF,aIH,aAA,_⟩,_⟩,_⟩,_⟩,_⟩,_⟩,_⟩,_⟩,_⟩,_⟩,_⟩,_⟩:=h;obtain rfl:=Option.some.inj (gP.symm.trans hg3);obtain rfl:=Option.some.inj (gPT.symm.trans ht3);rw[aGK] at hd3;obtain rfl:=Option.some.inj (gB.symm.trans hg7);obtain rfl:=Option.some.inj (gC.symm.trans hg8);obtain rfl:=Option.some.inj (gS.symm.trans hg9);obtain rfl:=Option.some.inj (gO.symm.trans aHN);obtain rfl:=Option.some.inj (gR.symm.trans aHO);obtain rfl:=Option.some.inj (gBT.symm.trans ht7);obtain rfl:=Option.some.inj (gCT.symm.trans ht8);obtain rfl:=Option.some.inj (gST.symm.trans ht9);obtain rfl:=Option.some.inj (gOT.symm.trans aIE);obtain rfl:=Option.some.inj (gRT.symm.trans aIF);rw[aGH] at hd7;rw[aGI] at hd8;rw[aGM] at hd9;rw[aGJ] at hd10;rw[aGL] at aAA
 have e3:=MU (k:=1) (λz:Int=>(DataW.lit (.int .u64 z):DataW Unit)) (λz=>[.int .u64 z]) (λ_=>rfl)
   (λf c y q hh=>by obtain⟨z,hc,hz,_⟩:=DataW.trod_int Tryz.underlying146 hh;simp only[Prod.mk.injEq,DataW.lit.injEq,Lit.int.injEq,true_and] at hz;rw[hc,hz.1]) Tryz.underlying167 zW zP hd3
 have e7:=MU (k:=1) (λz:Int=>(DataW.lit (.int .i64 z):DataW Unit)) (λz=>[.int .i64 z]) (λ_=>rfl)
   (λf c y q hh=>by obtain⟨z,hc,hz,_⟩:=DataW.trod_int Tryz.underlying3 hh;simp only[Prod.mk.injEq,DataW.lit.injEq,Lit.int.injEq,true_and] at hz;rw[hc,hz.1]) Tryz.underlying203 zI zB hd7
 have e8:=MU (k:=1) (λi:Nat=>(DataW.lit (.int .u8 (Q4 i:Nat)):DataW Unit)) (λi=>[.int .u8 (Q4 i:Nat)]) (λ_=>rfl)
   (λf c y q hh=>by obtain⟨z,hc,hz,_⟩:=DataW.trod_int Tryz.underlying5 hh;simp only[Prod.mk.injEq,DataW.lit.injEq,Lit.int.injEq,true_and] at hz;rw[hc,hz.1]) Tryz.underlying151 zU zC hd8
 have e9:=MU (k:=1) bJ (λy=>[.string ⟨y.toArray⟩]) (λ_=>rfl) XY Tryz.underlying134 zS zY hd9;have e11:=MU (k:=1) bJ (λy=>[.string ⟨y.toArray⟩]) (λ_=>rfl) XY Tryz.underlying135 zS zR aAA
 have e10:azE.toList=opsL.flatMap λy=>y.flatMap λz=>[.string ⟨z.toArray⟩]:=by
   obtain⟨xs,m,_,hx,hl,hxl,SO⟩:=DataW.trod_array Tryz.underlying143 hd10
   have hd:(opsL.map λl=>(DataW.agg (l.map bJ):DataW Unit))=xs.map (·.1):=by
     have:=congrArg Prod.fst hx;simpa using this
   rw[zO] at hl;rw[z6] at SO;have aJF:∀y∈opsL,(y.flatMap λz=>[(Value.string ⟨z.toArray⟩:Value)]).length=6:=by decide
   have OC:∀(i:Nat) y,opsL[i]?=some y->(azE.toList.drop (i*6)).take 6=y.flatMap λz=>[.string ⟨z.toArray⟩]:=by
     intro i y hy;have hi:i < 6:=(List.getElem?_eq_some_iff.1 hy).1;have h2:=SO i hi;have hxi:xs[i]?=some xs[i]:=List.getElem?_eq_getElem (by omega);rw[hxi] at h2;have h3:(opsL.map λl=>(DataW.agg (l.map bJ):DataW Unit))[i]?=(xs.map (·.1))[i]?:=by rw[hd]
     rw[List.getElem?_map,List.getElem?_map,hy,hxi] at h3;simp only[Option.map_some,Option.some.injEq] at h3;have h4:xs[i]=(.agg (y.map bJ),xs[i].2):=Prod.ext h3.symm rfl;rw[h4] at h2;exact MU (k:=1) bJ (λy=>[.string ⟨y.toArray⟩]) (λ_=>rfl) XY Tryz.underlying142 zS z6 h2
   have l6:∀{l:List (List (List UInt8))} {cs:List Value},(∀y∈l,(y.flatMap λz=>[(Value.string ⟨z.toArray⟩:Value)]).length=6)->cs.length=l.length*6->(∀(i:Nat) y,l[i]?=some y->(cs.drop (i*6)).take 6=y.flatMap λz=>[.string ⟨z.toArray⟩])->cs=l.flatMap λy=>y.flatMap λz=>[.string ⟨z.toArray⟩]:=by
     intro l
     induction l with
     | nil=>intro cs _ h _;exact List.eq_nil_of_length_eq_zero (by simpa using h)
     | cons a l ih =>
       intro cs hq h hc;have h0:=hc 0 a rfl;rw[Nat.zero_mul,List.drop_zero] at h0
       have:=ih (cs:=cs.drop 6) (λy hy=>hq y (by simp[hy])) (by rw[List.length_drop,h,List.length_cons,Nat.succ_mul];omega) λi y hy=>by
         rw[List.drop_drop];have:=hc (i+1) y (by simpa using hy)
         rwa[Nat.succ_mul,Nat.add_comm] at this
       rw[List.flatMap_cons,<- h0,<- this,List.take_append_drop]
   exact l6 aJF (by rw[hl];rfl) OC
 obtain⟨mx,hm⟩:=awE Gi;have FW:=Mo.stW W;refine⟨mx,FW.len,FW.desc,FW.nodup,FW.low,FW.box,FW.Ip,FW.row,FW.Ix,FW.L0,FW.L8,FW.Ig,λg cs h=>?_,FW.PB⟩;unfold Hd.G at h;split at h;rename_i hg;cases h;rw[beq_true hg];exact UH (Pv gO aIG) (by rw[e10];exact iO _ _ opsL);split at h;rename_i hg;cases h;rw[beq_true hg];exact UH (Pv gR aIH) (by rw[e11];exact Wt _ _ aBS);split at h;rename_i hg;cases h;rw[beq_true hg];exact UH (Pv gB hv7) (by rw[e7];exact rM _ _ ayY);split at h;rename_i hg;cases h;rw[beq_true hg];exact UH (Pv gC hv8) (by rw[e8];exact aeF _ _ _);split at h;rename_i hg;cases h;rw[beq_true hg];exact UH (Pv gS hv9) (by rw[e9];exact Wt _ _ _);split at h;rename_i hg;cases h;rw[beq_true hg];exact .cons (Mo.ayG hm) (.sc rfl) .nil;split at h;rename_i hg;cases h;rw[beq_true hg];exact UH (Pv gP hv3) (by rw[e3];exact aeL _ _ _);cases h
def mR{mx:Int}{f:FuncId}{args:List AV}{vs:List Value}{W:World}(FW:St (Hd.G mx) (Mo.W7 W) W s0)(h:Pure Tryz.prog (Hd.G mx) f args (.sc (.bool true)))(ha:Cz (Mo.W7 W) W args vs):Calls Tryz.prog f vs.toArray W λe W'=>e=.returned (.bool true)/\Below W.heap.size W W':=by
 refine(h s0 (Mo.W7 W) W vs FW ha).mono ?_;rintro e w' ⟨c',hx,_,u,rfl,hu⟩;cases hu;exact⟨rfl,hx.below⟩
def avZ:DataW Unit->List Value
 | .lit l=>[l.value]
 | _=>[]
def azN:DataW Unit->List Value
 | .agg l=>l.flatMap avZ
 | d=>avZ d
def Sl:DataW Unit->Array Value
 | .agg l=>(l.flatMap azN).toArray
 | d=>(avZ d).toArray
def putCells(cs:Array Value):Obj->Obj
 | .cells _ t frozen=>.cells cs t frozen
 | o=>o
def low:Nat:=(World.holding Tryz.prog default ⟨#[],#[],[]⟩).heap.size
abbrev aCF:ByteArray:={ data:=#[118,97,108,117,101,32,111,117,116,32,111,102,32,114,97,110,103,101] }
abbrev aCG:ByteArray:={ data:=#[105,110,118,97,108,105,100,32,115,121,110,116,97,120] }
def UU(os:Os):World :=
 let w0:=World.holding Tryz.prog os ⟨#[.cells #[.string aCF] 210,.cells #[.string aCG] 210],#[],[]⟩
 { w0 with heap:=((((((((((((w0.heap.modify 8 (putCells (Sl Rows.laid_math_bits_deBruijn32tab))).modify
     9 (putCells (Sl Rows.laid_math_bits_deBruijn64tab))).modify
     4 (putCells (Sl Rows.laid_internal_strconv_uint64pow10))).modify
     7 (putCells (Sl Rows.laid_unicode_utf8_acceptRanges))).modify
     11 (putCells #[.iface 208 (.pointer (some ⟨low,0,none⟩))])).modify
     10 (putCells #[.iface 208 (.pointer (some ⟨low+1,0,none⟩))])).modify
     12 (putCells (Sl Rows.laid_wageoffice_calendar_before))).modify
     3 (putCells (Sl Rows.laid_wageoffice_lexer_classes))).modify
     0 (putCells (Sl Rows.laid_wageoffice_lexer_symbols))).modify
     2 (putCells (Sl Rows.laid_wageoffice_parser_operators))).modify
     1 (putCells (Sl Rows.laid_wageoffice_parser_roles))).modify
     6 (putCells (Sl Rows.laid_unicode_utf8_first))) }
def acL(os:Os)(args:Array Value):laidMet Tryz.prog Rows.parserTreesRow.laid ((UU os).forCall (λ_ _=>0) ⟨#[],args,[]⟩).memory :=
 laidMet_of_run3 8 (by kernel_rfl) (by kernel_rfl) (by kernel_rfl)
end Go.Proofs.YtpbkhogolfegfaaGreatDoor
namespace Go.Proofs.YtpbkhogolfegfaaGreatDoor
open AI Go
namespace Mo
set_option maxRecDepth 100000
set_option maxHeartbeats 4000000
variable {mx:Int}
def B61:Code:=Bj Tryz.f61
def b61:Tryz.f61.body=some B61:=by kernel_rfl
def amE{s:List Pc}(hl:s.length*24<=140737488355328):Pure P (G mx) 61 [.sl .lost s.length (rows Hz s)] (.sl .lost s.length (rows Hz s)):=by
 refine pure_nil (λhn hc=>?_) ?_;rw[hn,hc];exact D2 Hd.mixed Hd.Ab (Ay Tryz.func61 b61 (Bc (v:=.sl .full 0 []) _ _ (Ae 300 [pk]) (by kernel_rfl) .body (.wn (.z .nil) rfl))) rfl rfl;by_cases hm:s.length=0;obtain rfl:=List.eq_nil_of_length_eq_zero hm;exact D2 Hd.mixed Hd.Ab (Ay Tryz.func61 b61 (Bc (v:=.sl .full 0 []) _ _ (Ae 300 [pk,pga (aGW .full ([]:List Pc) ([]:List Pc) (o:=.nn) ⟨[],0,[],0⟩ rfl (by decide))]) (by kernel_rfl) .body (.wn (.z .nil) rfl))) rfl rfl;exact D2 Hd.mixed Hd.Ab (Ay Tryz.func61 b61 (Bc (v:=.sl (.row 0 3) s.length (rows Hz s)) _ _ (Ae 300 [pk,R4 (KL.aHA u24 u24 i64 (by decide) .full ([]:List Pc) s (o:=.nn) (Wn.refl _) rfl (KL.kY (λ_=>rfl) s) hm (by rw[List.length_nil,Nat.zero_add];exact hl) (by simp;omega))]) (by kernel_rfl) .body (.wn (.s rfl .nil) (KL.Kr s)))) (BE (aBK (KL.BE s)) rfl) (KL.Kr s)
def B60:Code:=Bj Tryz.f60
def b60:Tryz.f60.body=some B60:=by kernel_rfl
def zD{s:List Nd}(hm:¬s.length=0)(hl:s.length<=100000000):Sound P (G mx) (.call 60 [.sl .nn s.length (Bd s)] ⟨[],0,[],0⟩ (.ret (.msl 0 0 s.length)) ⟨[(0,.cells (Bd s))],1,[],0⟩):=by
 refine axK Hd.mixed (xT (m:=1) Tryz.func60 b60 ?_);exact ajZ (n:=1) (m0:=0) Hd.Ab _ _ [0] [1] [⟨.msl 0 0 s.length,.msl 0 0 s.length,(.under rfl)⟩] [fbp (Bd s) (AB.BE s)] _ _ (Ae 300 [pk,aJQ (ayS s (o:=.nn) hm hl)]) (Nat.zero_le _) (Nat.zero_le _) (by kernel_rfl) .body
def nnI{c:Cx}{w:World}{n:Nat}{cs:List AV}{v:Value}(hm:¬n=0)(h:Rp c w (.sl .lost n cs) v):Rp c w (.sl .nn n cs) v:=by
 cases h with
 | sl0 _=>exact absurd rfl hm
 | Kx hn hc _=>exact .Kx hn hc trivial
def yZ{s:List Nd}(hm:¬s.length=0)(hl:s.length<=100000000):Sound P (G mx) (.call 60 [.sl .lost s.length (Bd s)] ⟨[],0,[],0⟩ (.ret (.msl 0 0 s.length)) ⟨[(0,.cells (Bd s))],1,[],0⟩):=by
 intro cx w vs hs ha;refine zD hm hl cx w vs hs ?_;cases ha with
 | cons h1 t=>exact .cons (nnI hm h1) t
def zA{s:List Nd}(hm:¬s.length=0)(hl:s.length<=100000000)(nx nr:Nat):Cd.ok P (G mx) (.Y9 60 [.sl .lost s.length (Bd s)] nx nr (.msl (nx+0) 0 s.length) [((nx+0),.cells (Bd s))] 1 [] 0) :=
 atU Hd.Ab (yZ hm hl) (BE (AB.Kr s) rfl) (.msl (by decide)) (.cons (.cells (.pl (AB.BE s))) .nil)
end Mo
end Go.Proofs.YtpbkhogolfegfaaGreatDoor
namespace Go.Proofs.YtpbkhogolfegfaaGreatDoor
open AI Go
namespace Mo
set_option maxRecDepth 100000
set_option maxHeartbeats 4000000
variable {mx:Int}
def G4:Code:=Bj Tryz.f24
def b24:Tryz.f24.body=some G4:=by kernel_rfl
def uP:P.underlying 88=some (.slice 87):=by kernel_rfl
def sE:(P.info? 87).map (·.size)=some 1:=by kernel_rfl
def dE:(P.underlying 87).map Nf=some false:=by kernel_rfl
def sL:(P.info? 27).map (·.size)=some 1:=by kernel_rfl
def dL:(P.underlying 27).map Nf=some false:=by kernel_rfl
def sQ:(P.info? 24).map (·.size)=some 1:=by kernel_rfl
def dQ:(P.underlying 24).map Nf=some false:=by kernel_rfl
def sI:(P.info? 3).map (·.size)=some 1:=by kernel_rfl
def zN(n:Nd):Nd:=⟨n.kind,n.name,n.unit,n.n,n.fr,n.to,n.known,n.CJ,n.kids,0⟩
def Kd(L:List Nd)(i:Nat):List Nd:=(L.take i).map zN++L.drop i
def adE(L:List Nd):Kd L 0=L:=by simp[Kd]
def alL(L:List Nd):Kd L L.length=L.map zN:=by simp[Kd]
def qM(L:List Nd)(i:Nat)(h:i<=L.length):(Kd L i).length=L.length:=by simp[Kd];omega
def alM{L:List Nd}{i:Nat}{x:Nd}(h:L[i]?=some x):(Kd L i)[i]?=some x:=by
 have hl:=(List.getElem?_eq_some_iff.1 h).1;unfold Kd;rw[List.getElem?_append_right (by simp;omega),List.getElem?_drop];simp only[List.length_map,List.length_take];rw[show min i L.length=i by omega,Nat.sub_self,Nat.add_zero];exact h
def gL{L:List Nd}{i:Nat}{x:Nd}(h:L[i]?=some x):(Kd L i).set i (zN x)=Kd L (i+1):=by
 obtain⟨hl,hx⟩:=List.getElem?_eq_some_iff.1 h;unfold Kd;have e1:L.drop i=x::L.drop (i+1):=by rw[<- hx];exact List.drop_eq_getElem_cons hl
 have e2:L.take (i+1)=L.take i++[x]:=by rw[<- hx];exact(List.take_append_getElem hl).symm
 rw[e1,e2,List.set_append_right _ _ (by simp;omega),List.map_append,List.append_assoc];simp only[List.length_map,List.length_take];rw[show i - min i L.length=0 by omega];rfl
def iT{α:Type}{l:List α}{i:Nat}{x:α}(h:l[i]?=some x):l.set i x=l:=by
 obtain⟨hl,hx⟩:=List.getElem?_eq_some_iff.1 h;rw[<- hx];exact List.set_getElem_self hl
def xK(nx:Nat)(L:List Nd)(i:Nat):List (Nat×Nat):=match L[i]? with
 | some k=>(match k.kids with
   | []=>[]
   | _::_=>[(nx,0+i*11+9)])
 | none=>[]
def kP(nx:Nat)(L:List Nd)(i:Nat):List (Nat×Nat):=(List.range i).flatMap (xK nx L)
def Wh(nx:Nat)(L:List Nd)(i:Nat):kP nx L (i+1)=kP nx L i++xK nx L i:=by unfold kP;rw[List.range_succ,List.flatMap_append];simp
def adV(nx:Nat)(L:List Nd)(i:Nat):(xK nx L i).length<=1:=by
 unfold xK;split;split<;>simp
 simp
def arH(nx:Nat)(L:List Nd):∀i:Nat,(kP nx L i).length<=i
 | 0=>by simp[kP]
 | i+1=>by rw[Wh,List.length_append];have:=arH nx L i;have:=adV nx L i;omega
abbrev xP(g k cap:Nat)(j:List Value):List AV:=fr 72 [(2,.ptr 1 0),(3,.ptr 2 0),(4,.raw (some ⟨g,0,none⟩) k cap)] [13,36,61] j
abbrev FT(g k cap id off:Nat)(j:List Value):List AV:=fr 72 [(2,.ptr 1 0),(3,.ptr 2 0),(4,.raw (some ⟨g,0,none⟩) k cap),(5,.ptr id off)] [13,36,61] j
abbrev FI(g k cap id off n i:Nat)(j:List Value):List AV:=fr 72 [(2,.ptr 1 0),(3,.ptr 2 0),(4,.raw (some ⟨g,0,none⟩) k cap),(5,.ptr id off),(34,.sc (.int .i64 n)),(35,.sc (.int .i64 i))] [13,36,61] j
abbrev FL(g k cap id off n i:Nat)(j:List Value):List AV:=fr 72 [(2,.ptr 1 0),(3,.ptr 2 0),(4,.raw (some ⟨g,0,none⟩) k cap),(5,.ptr id off),(6,.sc (.int .i64 i)),(34,.sc (.int .i64 n)),(35,.sc (.int .i64 i))] [13,36,61] j
abbrev FK(g k cap id off n i nx:Nat)(j:List Value):List AV:=fr 72 [(2,.ptr 1 0),(3,.ptr 2 0),(4,.raw (some ⟨g,0,none⟩) k cap),(5,.ptr id off),(7,.ptr nx (0+i*11)),(34,.sc (.int .i64 n)),(35,.sc (.int .i64 i))] [13,36,61] j
section
variable {b:Nat} {B:Nat->Nat->Prop} {w0:World} {g cap:Nat} {ps:List (Nat×Nat)} {s:AS} {Q:QE} {j:List Value}
def aHB{k:Nat}(h:k≠0):EK 0 ((k:Nat):Int)=true:=Nl (by omega)
def abO(t:Bool)(k:Nat)(hB:EK 0 ((k:Nat):Int)=t)(h:∀f,A8 (G mx) f (.tmp 13)=some (.sc (.bool t))->wkF f (xP g k cap (js 3 j [(0,.bool t)]))=xP g k cap (js 3 j [(0,.bool t)])->Q .normal f s (Ee b B w0 g cap ps)):WE P (G mx) (Ee b B w0 g cap ps) (sb G4 480) (xP g k cap j) s Q:=by
 have hr:Rl (sb G4 480) 3=true:=by kernel_rfl
 refine .reg hr ?_;show OR P (G mx) _ _ [0,1,2] _ _ _;refine .q Hd.mixed Ee.GF hr (by decide) (.raw (some ⟨g,0,none⟩) k cap) (by kernel_rfl) (by kernel_rfl) ?_;refine .len hr (by decide) (x:=.tmp 11) (t:=88) (A:=some ⟨g,0,none⟩) (k:=k) (cap:=cap) (by kernel_rfl) uP (by kernel_rfl) ?_;refine .hb Hd.mixed Ee.GF hr (by decide) t hB (by kernel_rfl) ?_;exact .nil (h _ (by kernel_rfl) (by kernel_rfl))
def aBL{p:Nat×Nat}(hk:ps.length<=100000000)(h:WE P (G mx) (Ee b B w0 g cap ps) (sb G4 1931) (FT g ps.length cap p.1 p.2 j) s Q):WE P (G mx) (Ee b B w0 g cap (ps++[p])) (sb G4 482) (xP g (ps++[p]).length cap j) s Q:=by
 have hw:R8 (((ps++[p]).length:Nat):Int) 1=((ps.length:Nat):Int):=by
   rw[List.length_append,List.length_singleton,Qi (by omega)];omega
 refine .R6 (x:=sb G4 964) (y:=sb G4 965) (by kernel_rfl) ?_;have hr:Rl (sb G4 964) 7=true:=by kernel_rfl
 refine .reg hr ?_;show OR P (G mx) _ _ [0,1,2,3,4,5,6] _ _ _;refine .q Hd.mixed Ee.GF hr (by decide) (.raw (some ⟨g,0,none⟩) (ps++[p]).length cap) (by kernel_rfl) (by kernel_rfl) ?_;refine .q Hd.mixed Ee.GF hr (by decide) (.raw (some ⟨g,0,none⟩) (ps++[p]).length cap) (by kernel_rfl) (by kernel_rfl) ?_;refine .len hr (by decide) (x:=.tmp 15) (t:=88) (A:=some ⟨g,0,none⟩) (k:=(ps++[p]).length) (cap:=cap) (by kernel_rfl) uP (by kernel_rfl) ?_;refine .hi Hd.mixed Ee.GF hr (by decide) ((ps.length:Nat):Int) hw (by kernel_rfl) ?_;refine .top hr (by decide) (t:=88) (t2:=87) (e:=87) (d:=18) (x:=.tmp 14) (y:=.tmp 17) (by kernel_rfl) (by kernel_rfl) (by kernel_rfl) uP sE dE sE (by kernel_rfl) (by kernel_rfl) (by kernel_rfl) ?_;refine .q Hd.mixed Ee.GF hr (by decide) (.ptr p.1 p.2) (by kernel_rfl) (by kernel_rfl) ?_;refine .nil ⟨rfl,?_⟩;refine .wk (fr2:=FT g (ps++[p]).length cap p.1 p.2 j) (by kernel_rfl) ?_;refine .R6 (x:=sb G4 1930) (y:=sb G4 1931) (by kernel_rfl) ?_;have hr:Rl (sb G4 1930) 6=true:=by kernel_rfl
 refine .reg hr ?_;show OR P (G mx) _ _ [0,1,2,3,4,5] _ _ _;refine .q Hd.mixed Ee.GF hr (by decide) (.raw (some ⟨g,0,none⟩) (ps++[p]).length cap) (by kernel_rfl) (by kernel_rfl) ?_;refine .q Hd.mixed Ee.GF hr (by decide) (.raw (some ⟨g,0,none⟩) (ps++[p]).length cap) (by kernel_rfl) (by kernel_rfl) ?_;refine .len hr (by decide) (x:=.tmp 21) (t:=88) (A:=some ⟨g,0,none⟩) (k:=(ps++[p]).length) (cap:=cap) (by kernel_rfl) uP (by kernel_rfl) ?_;refine .hi Hd.mixed Ee.GF hr (by decide) ((ps.length:Nat):Int) hw (by kernel_rfl) ?_;refine .aJR hr (by decide) (t:=88) (e:=87) (x:=.tmp 20) (y:=.tmp 23) (by kernel_rfl) uP sE (by kernel_rfl) (by kernel_rfl) ?_;refine .q Hd.mixed Ee.GF hr (by decide) (.raw (some ⟨g,0,none⟩) ps.length cap) (by kernel_rfl) (by kernel_rfl) ?_;refine .nil ⟨rfl,?_⟩;exact .wk (by kernel_rfl) h
variable {id off nx:Nat} {L:List Nd}
def ajH{H:List (Nat×AL)}{cs:List AV}(hid:id < nx)(Wf:AI.look id H=some (.cells cs))(UO:cs[off]?=some (.sl .lost L.length (Bd L)))(hL:¬L.length=0)(hl:L.length<=100000000)
   (h:WE P (G mx) (Ee b B w0 g cap ps) (sb G4 7727) (FI g ps.length cap id off L.length 0 j) ⟨(nx,.cells (Bd L))::Qw id (.cells (cs.set off (.msl nx 0 L.length))) H,nx+1,[],0⟩ Q) :
   WE P (G mx) (Ee b B w0 g cap ps) (sb G4 1931) (FT g ps.length cap id off j) ⟨H,nx,[],0⟩ Q:=by
 have hne:nx≠id:=by omega
 have hlt:=(List.getElem?_eq_some_iff.1 UO).1;have aHI:(cs.set off (.msl nx 0 L.length))[off]?=some (.msl nx 0 L.length):=List.getElem?_set_self hlt;refine .R6 (x:=sb G4 3862) (y:=sb G4 3863) (by kernel_rfl) ?_;refine .run Hd.mixed Ee.GF [nJ (x:=AI.look id H) (Y8 dL sL UO) Wf,awP (zA hL hl nx 0),amJ (x:=AI.look id ((nx,.cells (Bd L))::H)) (v:=.msl nx 0 L.length) (off:=off) (yG (cs2:=cs.set off (.msl nx 0 L.length)) sL hlt rfl) ((bK hne).trans Wf)] (e:=.normal) (fr2:=FT g ps.length cap id off j) (s2:=⟨Qw id (.cells (cs.set off (.msl nx 0 L.length))) ((nx,.cells (Bd L))::H),nx+1,[],0⟩) (by kernel_rfl) (by intro v h;cases h) ⟨rfl,?_⟩;rw[ayD hne];refine .R6 (x:=sb G4 7726) (y:=sb G4 7727) (by kernel_rfl) ?_;exact .nR Hd.mixed Ee.GF [nJ (x:=AI.look id ((nx,.cells (Bd L))::Qw id (.cells (cs.set off (.msl nx 0 L.length))) H)) (Y8 dL sL aHI) ((bK hne).trans (XJ Wf))] (e:=.normal) (fr2:=FI g ps.length cap id off L.length 0 j) (by kernel_rfl) (by intro v h;cases h) ⟨rfl,h⟩
def awU{i n:Nat}{s:AS}(hk:ps.length+1<=100000000):WE P (G mx) (Ee b B w0 g cap ps) (sb G4 31650622) (FK g ps.length cap id off n i nx j) s (λe f s' E=>∃g' cap',e=.normal/\wkF f (FK g' (ps++[(nx,0+i*11+9)]).length cap' id off n i nx j)=FK g' (ps++[(nx,0+i*11+9)]).length cap' id off n i nx j/\s'=s/\E=Ee b B w0 g' cap' (ps++[(nx,0+i*11+9)])):=by
 have hr:Rl (sb G4 31650622) 7=true:=by kernel_rfl
 refine .reg hr ?_;show OR P (G mx) _ _ [0,1,2,3,4,5,6] _ _ _;refine .q Hd.mixed Ee.GF hr (by decide) (.raw (some ⟨g,0,none⟩) ps.length cap) (by kernel_rfl) (by kernel_rfl) ?_;refine .q Hd.mixed Ee.GF hr (by decide) (.ptr nx (0+i*11)) (by kernel_rfl) (by kernel_rfl) ?_;refine .q Hd.mixed Ee.GF hr (by decide) (.ptr nx (0+i*11)) (by kernel_rfl) (by kernel_rfl) ?_;refine .q Hd.mixed Ee.GF hr (by decide) (.ptr nx (0+i*11+9)) (by kernel_rfl) (by kernel_rfl) ?_;refine .q Hd.mixed Ee.GF hr (by decide) (.sl .full 1 [.ptr nx (0+i*11+9)]) (by kernel_rfl) (by kernel_rfl) ?_;refine .push hr (by decide) (t:=88) (tx:=88) (e:=87) (e2:=87) (id:=nx) (off:=0+i*11+9) (x:=.tmp 62) (y:=.tmp 66) (by kernel_rfl) uP uP (by kernel_rfl) (by kernel_rfl) (by kernel_rfl) hk (λg' cap'=>?_);refine .q Hd.mixed Ee.GF hr (by decide) (.raw (some ⟨g',0,none⟩) (ps++[(nx,0+i*11+9)]).length cap') (by kernel_rfl) (by kernel_rfl) ?_;exact .nil ⟨g',cap',rfl,by kernel_rfl,rfl,rfl⟩
def adL{T:List (Nat×AL)}{cs:List AV}{i:Nat}{x:Nd}(hid:id < nx)(Wf:AI.look id T=some (.cells cs))(UO:cs[off]?=some (.msl nx 0 L.length))(hx:L[i]?=some x)(hp:x.CJ.ps.length*24<=140737488355328)(t:Bool)(hB:EK 0 ((x.kids.length:Nat):Int)=t)
   (h:WE P (G mx) (Ee b B w0 g cap ps) (sb G4 15825311) (FK g ps.length cap id off L.length i nx (js 3 j [(2,.bool t)])) ⟨(nx,.cells (Bd (Kd L (i+1))))::T,nx+1,[],0⟩ Q) :
   WE P (G mx) (Ee b B w0 g cap ps) (sb G4 494540) (FI g ps.length cap id off L.length i j) ⟨(nx,.cells (Bd (Kd L i)))::T,nx+1,[],0⟩ Q:=by
 have hi:=(List.getElem?_eq_some_iff.1 hx).1;have hne:nx≠id:=by omega
 have aHV:∀b:AL,AI.look id ((nx,b)::T)=some (.cells cs):=λb=>(bK hne).trans Wf;have hm:=alM hx;have hl:=qM L i (by omega);have hm2:(Kd L (i+1))[i]?=some (zN x):=by rw[<- gL hx];exact List.getElem?_set_self (by omega)
 have hl2:=qM L (i+1) (by omega);have hN:∀y:Nd,(CF y).length=11:=λ_=>rfl;refine .R6 (x:=sb G4 989080) (y:=sb G4 989081) (by kernel_rfl) ?_;refine .nR Hd.mixed Ee.GF [] (e:=.normal) (fr2:=FL g ps.length cap id off L.length i j) (by kernel_rfl) (by intro v h;cases h) ⟨rfl,?_⟩;refine .R6 (x:=sb G4 1978162) (y:=sb G4 1978163) (by kernel_rfl) ?_;refine .nR Hd.mixed Ee.GF [nJ (x:=AI.look id ((nx,.cells (Bd (Kd L i)))::T)) (Y8 dL sL UO) (aHV _),IE (arF (id:=nx) hi)] (e:=.normal) (fr2:=FK g ps.length cap id off L.length i nx j) (by kernel_rfl) (by intro v h;cases h) ⟨rfl,?_⟩;refine .R6 (x:=sb G4 3956326) (y:=sb G4 3956327) (by kernel_rfl) ?_;refine .run Hd.mixed Ee.GF [amJ (x:=AI.look nx ((nx,.cells (Bd (Kd L i)))::T)) (v:=.sc (.int .i64 0)) (off:=0+i*11+10) (yG (cs2:=Bd ((Kd L i).set i (zN x))) sI (by rw[Lv,Iy hN,hl];omega) (by rw[Lv,Lv,iM hN (j:=10) (y:=zN x) (v:=.sc (.int .i64 0)) hm (by decide) rfl,Nat.zero_add])) Wi] (e:=.normal) (fr2:=FK g ps.length cap id off L.length i nx j) (s2:=⟨Qw nx (.cells (Bd ((Kd L i).set i (zN x)))) ((nx,.cells (Bd (Kd L i)))::T),nx+1,[],0⟩) (by kernel_rfl) (by intro v h;cases h) ⟨rfl,?_⟩;rw[agM,gL hx]
 have c8:(Bd (Kd L (i+1)))[0+i*11+7+1]?=some (.sl .lost x.CJ.ps.length (rows Hz x.CJ.ps)):=by
   rw[Lv,show 0+i*11+7+1=i*11+8 by omega,cG hN hm2 (by decide)];rfl
 have c9:(Bd (Kd L (i+1)))[0+i*11+9]?=some (.sl .lost x.kids.length (Bd x.kids)):=by
   rw[Lv,Nat.zero_add,cG hN hm2 (by decide)];rfl
 refine .R6 (x:=sb G4 7912654) (y:=sb G4 7912655) (by kernel_rfl) ?_;refine .run Hd.mixed Ee.GF [nJ (x:=AI.look nx ((nx,.cells (Bd (Kd L (i+1))))::T)) (Y8 dQ sQ c8) Wi,Be (amE hp),amJ (x:=AI.look nx ((nx,.cells (Bd (Kd L (i+1))))::T)) (off:=0+i*11+7+1) (yG (cs2:=Bd (Kd L (i+1))) sQ (by rw[Lv,Iy hN,hl2];omega) (iT c8).symm) Wi] (e:=.normal) (fr2:=FK g ps.length cap id off L.length i nx j) (s2:=⟨Qw nx (.cells (Bd (Kd L (i+1)))) ((nx,.cells (Bd (Kd L (i+1))))::T),nx+1,[],0⟩) (by kernel_rfl) (by intro v h;cases h) ⟨rfl,?_⟩;rw[agM];refine .R6 (x:=sb G4 15825310) (y:=sb G4 15825311) (by kernel_rfl) ?_;exact .nR Hd.mixed Ee.GF [nJ (x:=AI.look nx ((nx,.cells (Bd (Kd L (i+1))))::T)) (Y8 dL sL c9) Wi,pb hB] (e:=.normal) (fr2:=FK g ps.length cap id off L.length i nx (js 3 j [(2,.bool t)])) (by kernel_rfl) (by intro v h;cases h) ⟨rfl,h⟩
def amA{i:Nat}{x:Nd}(hx:L[i]?=some x)(hk:x.kids=[]):xK nx L i=[]:=by unfold xK;rw[hx];simp only;rw[hk]
def amB{i:Nat}{x:Nd}(hx:L[i]?=some x)(hk:x.kids≠[]):xK nx L i=[(nx,0+i*11+9)]:=by
 unfold xK;rw[hx];simp only;cases h:x.kids with
 | nil=>exact absurd h hk
 | cons a l=>rfl
def amV{T:List (Nat×AL)}{cs:List AV}{i:Nat}{x:Nd}(hid:id < nx)(Wf:AI.look id T=some (.cells cs))(UO:cs[off]?=some (.msl nx 0 L.length))(hx:L[i]?=some x)(hp:x.CJ.ps.length*24<=140737488355328)(hb:(ps++kP nx L i).length+1<=100000000)(hi6:i < 9223372036854775807)
   (h:∀g' cap' j',Q .normal (FI g' (ps++kP nx L (i+1)).length cap' id off L.length (i+1) j') ⟨(nx,.cells (Bd (Kd L (i+1))))::T,nx+1,[],0⟩ (Ee b B w0 g' cap' (ps++kP nx L (i+1)))) :
   WE P (G mx) (Ee b B w0 g cap (ps++kP nx L i)) (sb G4 123635) (FI g (ps++kP nx L i).length cap id off L.length i j) ⟨(nx,.cells (Bd (Kd L i)))::T,nx+1,[],0⟩ Q:=by
 have fin:∀g' cap' j',WE P (G mx) (Ee b B w0 g' cap' (ps++kP nx L (i+1))) (sb G4 247271) (FK g' (ps++kP nx L (i+1)).length cap' id off L.length i nx j') ⟨(nx,.cells (Bd (Kd L (i+1))))::T,nx+1,[],0⟩ Q:=λg' cap' j' =>
   .nR Hd.mixed Ee.GF [AI.pi hi6] (e:=.normal) (fr2:=FI g' (ps++kP nx L (i+1)).length cap' id off L.length (i+1) j') (by kernel_rfl) (by intro v h;cases h) (h g' cap' j')
 refine .R6 (x:=sb G4 247270) (y:=sb G4 247271) (by kernel_rfl) ?_;have hc:sb G4 247270=.block 3 (sb G4 494540):=by kernel_rfl
 rw[hc];refine .block ?_;by_cases hk:x.kids=[];have hs:kP nx L (i+1)=kP nx L i:=by rw[Wh,amA hx hk,List.append_nil]
 refine adL hid Wf UO hx hp false (Kk (by rw[hk];simp)) ?_;refine .Zc false (x:=sb G4 31650622) (y:=sb G4 31650623) (q:=.tmp 61) (by kernel_rfl) (by kernel_rfl) ?_;rw[if_neg (by decide),show sb G4 31650623=.skip by kernel_rfl];refine .skip ⟨rfl,?_⟩;have:=fin g cap (js 3 j [(2,.bool false)]);rwa[hs] at this;have hs:kP nx L (i+1)=kP nx L i++[(nx,0+i*11+9)]:=by rw[Wh,amB hx hk]
 refine adL hid Wf UO hx hp true (Nl (by have:=List.length_pos_iff.2 hk;omega)) ?_;refine .Zc true (x:=sb G4 31650622) (y:=sb G4 31650623) (q:=.tmp 61) (by kernel_rfl) (by kernel_rfl) ?_;rw[if_pos rfl];refine(awU hb).mono ?_;rintro e f s' E ⟨g',cap',rfl,hf,rfl,rfl⟩;refine⟨rfl,.wk hf ?_⟩;have:=fin g' cap' (js 3 j [(2,.bool true)]);rwa[hs,<- List.append_assoc] at this
def awB{T:List (Nat×AL)}{cs:List AV}(hid:id < nx)(Wf:AI.look id T=some (.cells cs))(UO:cs[off]?=some (.msl nx 0 L.length))(hp:∀x∈L,x.CJ.ps.length*24<=140737488355328)(hb:ps.length+L.length<=100000000)
   (h:∀g' cap' j',Q .normal (xP g' (ps++kP nx L L.length).length cap' j') ⟨(nx,.cells (Bd (L.map zN)))::T,nx+1,[],0⟩ (Ee b B w0 g' cap' (ps++kP nx L L.length))) :
   WE P (G mx) (Ee b B w0 g cap ps) (sb G4 7727) (FI g ps.length cap id off L.length 0 j) ⟨(nx,.cells (Bd L))::T,nx+1,[],0⟩ Q:=by
 rw[show sb G4 7727=.block 2 (.loop (sb G4 30908)) by kernel_rfl];refine .block ?_;refine .loop (λm f s E=>∃i g cap j,i+m=L.length/\f=FI g (ps++kP nx L i).length cap id off L.length i j/\s=⟨(nx,.cells (Bd (Kd L i)))::T,nx+1,[],0⟩/\E=Ee b B w0 g cap (ps++kP nx L i)) ?_ (m:=L.length) ⟨0,g,cap,j,by omega,by simp[kP],by rw[adE],by simp[kP]⟩;rintro m _ _ _ ⟨i,g,cap,j,him,rfl,rfl,rfl⟩;refine .seqB (x:=sb G4 61816) (y:=sb G4 61817) (by kernel_rfl) ?_;by_cases hi:i < L.length;refine .nR Hd.mixed Ee.GF [pb (Wl hi)] (e:=.normal) (fr2:=FI g (ps++kP nx L i).length cap id off L.length i (js 3 j [(1,.bool true)])) (by kernel_rfl) (by intro v h;cases h) (.inl ⟨rfl,?_⟩);refine .R6 (x:=sb G4 123634) (y:=sb G4 123635) (by kernel_rfl) ?_;refine .Zc true (x:=sb G4 247268) (y:=sb G4 247269) (q:=.tmp 36) (by kernel_rfl) (by kernel_rfl) ?_;rw[if_pos rfl,show sb G4 247268=.skip by kernel_rfl];refine .skip ⟨rfl,?_⟩;have hx:L[i]?=some L[i]:=List.getElem?_eq_getElem hi;refine amV hid Wf UO hx (hp _ (List.getElem_mem hi)) (by rw[List.length_append];have:=arH nx L i;omega) (by omega) (λg' cap' j'=>.inl ⟨rfl,m - 1,by omega,i+1,g',cap',j',by omega,rfl,rfl,rfl⟩);have he:i=L.length:=by omega
 subst he;refine .nR Hd.mixed Ee.GF [pb (dM (i:=L.length) (n:=L.length) (Nat.le_refl _))] (e:=.normal) (fr2:=FI g (ps++kP nx L L.length).length cap id off L.length L.length (js 3 j [(1,.bool false)])) (by kernel_rfl) (by intro v h;cases h) (.inl ⟨rfl,?_⟩);refine .seqB (x:=sb G4 123634) (y:=sb G4 123635) (by kernel_rfl) ?_;refine .Zc false (x:=sb G4 247268) (y:=sb G4 247269) (q:=.tmp 36) (by kernel_rfl) (by kernel_rfl) ?_;rw[if_neg (by decide),show sb G4 247269=.exit 2 by kernel_rfl];refine .wk (fr2:=xP g (ps++kP nx L L.length).length cap (js 3 j [(1,.bool false)])) (by kernel_rfl) (.exit (.inr ⟨(by intro h;cases h),.inr ⟨(by intro h;cases h),?_⟩⟩));rw[alL];exact h g cap _
end
abbrev Bx:=List (Nd×Option Nat)
def kcC(n:Nd):Option Nat->AV
 | none=>.sl .lost n.kids.length (Bd n.kids)
 | some id=>.msl id 0 n.kids.length
def gN(p:Nd×Option Nat):List AV:=[.sc (.int .i64 p.1.kind),.sc (.string p.1.name),.sc (.string p.1.unit),.sc (.int .i64 p.1.n),.sc (.int .i64 p.1.fr),.sc (.int .i64 p.1.to),.sc (.int .i64 p.1.known),.sc (.int .i64 p.1.CJ.den),.sl .lost p.1.CJ.ps.length (rows Hz p.1.CJ.ps),kcC p.1 p.2,.sc (.int .i64 p.1.AF)]
def bxC(l:Bx):List AV:=rows gN l
def Wo(p:Nd×Option Nat):(gN p).length=11:=rfl
def eH(L:List Nd):bxC (L.map λn=>(n,none))=Bd L:=by
 rw[Lv];unfold bxC rows;rw[List.flatMap_map];rfl
def a1:AL:=.cells [.sc (.int .i64 0),.sc (.string ByteArray.empty),.sc (.string ByteArray.empty),.sc (.int .i64 0),.sc (.int .i64 0),.sc (.int .i64 0),.sc (.int .i64 0),.sc (.int .i64 0),.sl .full 0 [],.sl .full 0 [],.sc (.int .i64 0)]
def rkC(n0:Nd):Option Nat->AV
 | none=>.sl .lost [n0].length (Bd [n0])
 | some c=>.msl c 0 [n0].length
def ayR(rk:Option Nat)(n0:Nd):List (Nat×AL):=[(2,.cells [rkC n0 rk]),(1,a1),(0,.cells (CF n0))]
def HH(rk:Option Nat)(n0:Nd)(M:List Bx):List (Nat×AL):=Iu (M.map λl=>.cells (bxC l)) 3 (ayR rk n0)
def oK{rk:Option Nat}{n0:Nd}{M:List Bx}{id:Nat}(h:id < 3):AI.look id (HH rk n0 M)=AI.look id (ayR rk n0):=Sy h
def xQ{rk:Option Nat}{n0:Nd}{M:List Bx}{i:Nat}{l:Bx}(h:M[i]?=some l):AI.look (3+i) (HH rk n0 M)=some (.cells (bxC l)):=YP (by rw[List.getElem?_map,h];rfl)
def aiP{rk:Option Nat}{n0:Nd}{M:List Bx}(c:Nat):Qw 2 (.cells [rkC n0 (some c)]) (HH rk n0 M)=HH (some c) n0 M:=Uo (by decide)
def asS{rk:Option Nat}{n0:Nd}{M:List Bx}{i:Nat}{l:Bx}(hi:i < M.length):Qw (3+i) (.cells (bxC l)) (HH rk n0 M)=HH rk n0 (M.set i l):=by
 unfold HH;rw[cU (by simpa using hi),List.map_set]
def oL{rk:Option Nat}{n0:Nd}{M:List Bx}{l:Bx}:HH rk n0 (M++[l])=(3+M.length,.cells (bxC l))::HH rk n0 M:=by
 unfold HH;rw[List.map_append,List.map_singleton,mY,List.length_map]
mutual
def cN:Nd->Nat
 | ⟨_,_,_,_,_,_,_,_,kids,_⟩=>1+cL kids
def cL:List Nd->Nat
 | []=>0
 | k::ks=>cN k+cL ks
end
def yP(n:Nd):cN n=1+cL n.kids:=by cases n;rw[cN]
def yM:∀l m:List Nd,cL (l++m)=cL l+cL m
 | [],m=>by simp[cL]
 | a::l,m=>by rw[List.cons_append,cL,cL,yM l m];omega
def yN:∀l:List Nd,l.length<=cL l
 | []=>by simp
 | a::l=>by rw[List.length_cons,cL,yP];have:=yN l;omega
mutual
def VG:Nd->Prop
 | ⟨_,_,_,_,_,_,_,CJ,kids,_⟩=>CJ.ps.length*24<=140737488355328/\psL kids
def psL:List Nd->Prop
 | []=>True
 | k::ks=>VG k/\psL ks
end
def rC:∀l:List Nd,psL l↔∀k∈l,VG k
 | []=>by simp[psL]
 | a::l=>by rw[psL,rC l];simp
def MJ(n:Nd):VG n↔n.CJ.ps.length*24<=140737488355328/\∀k∈n.kids,VG k:=by cases n;rw[VG,rC]
mutual
def GY:Nd->Nd
 | ⟨kind,name,unit,n,fr,to,known,CJ,kids,_⟩=>⟨kind,name,unit,n,fr,to,known,CJ,stL kids,0⟩
def stL:List Nd->List Nd
 | []=>[]
 | k::ks=>GY k::stL ks
end
def rQ:∀l:List Nd,stL l=l.map GY
 | []=>by rw[stL];rfl
 | k::l=>by rw[stL,rQ l];rfl
def Jo(n:Nd):GY n=⟨n.kind,n.name,n.unit,n.n,n.fr,n.to,n.known,n.CJ,n.kids.map GY,0⟩:=by cases n;rw[GY,rQ]
def afH(n:Nd):GY (zN n)=GY n:=by rw[Jo,Jo];rfl
structure Inv(n0:Nd)(rk:Option Nat)(M:List Bx)(qs:List ((Nat×Nat)×List Nd)):Prop where
 amH:∀q∈qs,(q.1=(2,0)/\rk=none/\q.2=[n0])\/∃(i a:Nat) (l:Bx) (m:Nd),q.1=(3+i,0+a*11+9)/\M[i]?=some l/\l[a]?=some (m,none)/\q.2=m.kids/\m.kids≠[]
 azF:(qs.map (·.1)).Nodup
 all:(rk=none->(2,0)∈qs.map (·.1))/\∀(i a:Nat) (l:Bx) (m:Nd),M[i]?=some l->l[a]?=some (m,none)->m.kids≠[]->(3+i,0+a*11+9)∈qs.map (·.1)
 done:∀(i a:Nat) (l:Bx) (m:Nd) (c:Nat),M[i]?=some l->l[a]?=some (m,some c)->∃(i2:Nat) (l2:Bx),c=3+i2/\i < i2/\M[i2]?=some l2/\l2.map (·.1)=m.kids.map zN
 root:∀c,rk=some c->∃(i2:Nat) (l2:Bx),c=3+i2/\M[i2]?=some l2/\l2.map (·.1)=[zN n0]
 small:∀q∈qs,∀x∈q.2,VG x
 zero:∀(i a:Nat) (l:Bx) (m:Nd) (c:Option Nat),M[i]?=some l->l[a]?=some (m,c)->m.AF=0
def mu(qs:List ((Nat×Nat)×List Nd)):Nat:=(qs.map λq=>1+cL q.2).sum
def bM(l m:List ((Nat×Nat)×List Nd)):mu (l++m)=mu l+mu m:=by simp[mu]
def adF(qs:List ((Nat×Nat)×List Nd)):qs.length<=mu qs:=by
 induction qs with
 | nil=>simp
 | cons q qs ih =>
   have:mu (q::qs)=1+cL q.2+mu qs:=by simp[mu]
   rw[this,List.length_cons];omega
def qAt(nx:Nat)(L:List Nd)(i:Nat):List ((Nat×Nat)×List Nd):=match L[i]? with
 | some k=>(match k.kids with
   | []=>[]
   | x::y=>[((nx,0+i*11+9),x::y)])
 | none=>[]
def kQ(nx:Nat)(L:List Nd)(i:Nat):List ((Nat×Nat)×List Nd):=(List.range i).flatMap (qAt nx L)
def bH(nx:Nat)(L:List Nd)(i:Nat):kQ nx L (i+1)=kQ nx L i++qAt nx L i:=by unfold kQ;rw[List.range_succ,List.flatMap_append];simp
def cA(nx:Nat)(L:List Nd)(i:Nat):(qAt nx L i).map (·.1)=xK nx L i:=by
 unfold qAt xK;cases L[i]? with
 | none=>rfl
 | some k=>simp only;cases k.kids<;>rfl
def mQ(nx:Nat)(L:List Nd):∀i:Nat,(kQ nx L i).map (·.1)=kP nx L i
 | 0=>rfl
 | i+1=>by rw[bH,Wh,List.map_append,mQ nx L i,cA]
def XB{nx:Nat}{L:List Nd}{i:Nat}{q:(Nat×Nat)×List Nd}:q∈kQ nx L i↔∃a k,a < i/\L[a]?=some k/\k.kids≠[]/\q=((nx,0+a*11+9),k.kids):=by
 unfold kQ;simp only[List.mem_flatMap,List.mem_range];constructor;rintro⟨a,ha,hq⟩;unfold qAt at hq;split at hq;rename_i k hk;split at hq;cases hq;rename_i x y hy;rw[List.mem_singleton] at hq;exact⟨a,k,ha,hk,by rw[hy];simp,by rw[hq,hy]⟩;cases hq;rintro⟨a,k,ha,hk,hne,rfl⟩;refine⟨a,ha,?_⟩;unfold qAt;rw[hk];simp only;cases hy:k.kids with
 | nil=>exact absurd hy hne
 | cons x y=>simp
def arI(nx:Nat)(L:List Nd):∀i:Nat,mu (kQ nx L i)<=cL (L.take i)
 | 0=>by simp[kQ,mu]
 | i+1=>by
   rw[bH,bM];have ih:=arI nx L i;by_cases hi:i < L.length;rw[<- List.take_append_getElem hi,yM]
   have:mu (qAt nx L i)<=cL [L[i]]:=by
     unfold qAt;rw[List.getElem?_eq_getElem hi];simp only[cL,Nat.add_zero];rw[yP];cases hk:L[i].kids with
     | nil=>simp[mu]
     | cons x y=>simp[mu]
   omega;have:qAt nx L i=[]:=by unfold qAt;rw[List.getElem?_eq_none (by omega)]
   rw[this,List.take_of_length_le (by omega)];rw[List.take_of_length_le (by omega)] at ih;simp[mu] at ih ⊢;exact ih
def gA(nx:Nat)(L:List Nd):∀i:Nat,((kQ nx L i).map (·.1)).Nodup
 | 0=>by simp[kQ]
 | i+1=>by
   rw[bH,List.map_append];refine List.nodup_append.2 ⟨gA nx L i,?_,?_⟩;rw[cA];have:=adV nx L i;cases h:xK nx L i with
   | nil=>simp
   | cons a l=>rw[h] at this;simp at this;subst this;simp
   intro x hx y hy hxy;subst hxy;obtain⟨q,hq,rfl⟩:=List.mem_map.1 hx;obtain⟨a,k,ha,_,_,rfl⟩:=XB.1 hq;rw[cA] at hy;unfold xK at hy;split at hy;split at hy;cases hy;rw[List.mem_singleton] at hy;injection hy with _ h2
   omega;cases hy
def lC{L:List Nd}{a:Nat}{p:Nd×Option Nat}(h:(((L.map zN).map λn=>((n,none):Nd×Option Nat)))[a]?=some p):∃k,L[a]?=some k/\p=(zN k,none):=by
 rw[List.getElem?_map,List.getElem?_map] at h;cases hk:L[a]? with
 | none=>rw[hk] at h;cases h
 | some k=>rw[hk] at h;cases h;exact⟨k,rfl,rfl⟩
def ajX{l:Bx}{a:Nat}{m:Nd}{c d:Option Nat}(h:l[a]?=some (m,c)):(l.set a (m,d)).map (·.1)=l.map (·.1):=by
 rw[List.map_set];exact iT (by rw[List.getElem?_map,h];rfl)
def XN{α:Type}{l:List α}{x y:α}(h:x∈l++[y])(hne:x≠y):x∈l:=by
 rcases List.mem_append.1 h with h | h
 exact h;exact absurd (List.mem_singleton.1 h) hne
section
variable {n0:Nd} {rk:Option Nat} {M:List Bx} {qs:List ((Nat×Nat)×List Nd)} {q:(Nat×Nat)×List Nd}
def Inv.low(h:Inv n0 rk M qs):∀q∈qs,q.1.1 < 3+M.length:=λq hq=>by
 rcases h.amH q hq with ⟨e,_⟩ | ⟨i,a,l,m,e,hi,_⟩
 rw[e];show 2 < _;omega;rw[e];have:=(List.getElem?_eq_some_iff.1 hi).1;show 3+i < _;omega
def alC(h:((qs++[q]).map (·.1)).Nodup):∀q2∈qs,q2.1≠q.1:=λq2 h2 e=>by
 rw[List.map_append] at h;exact(List.nodup_append.1 h).2.2 _ (List.mem_map_of_mem h2) _ (by simp) e
def acF(h:Inv n0 rk M (qs++[q])):∃(rk2:Option Nat) (M2:List Bx),Inv n0 rk2 M2 (qs++kQ (3+M.length) q.2 q.2.length)/\M2.length=M.length+1/\q.1.1 < 3+M.length/\q.2.length≠0 /\
   ∃cs,AI.look q.1.1 (HH rk n0 M)=some (.cells cs)/\cs[q.1.2]?=some (.sl .lost q.2.length (Bd q.2))/\HH rk2 n0 M2=(3+M.length,.cells (Bd (q.2.map zN)))::Qw q.1.1 (.cells (cs.set q.1.2 (.msl (3+M.length) 0 q.2.length))) (HH rk n0 M):=by
 have akM:=h.low q (by simp);have hne:=alC h.azF
 have hsm:∀q2∈qs++kQ (3+M.length) q.2 q.2.length,∀x∈q2.2,VG x:=λq2 h2 x hx=>by
   rcases List.mem_append.1 h2 with h2 | h2
   exact h.small q2 (by simp[h2]) x hx;obtain⟨a,k,ha,hk,_,rfl⟩:=XB.1 h2;exact((MJ k).1 (h.small q (by simp) k (List.mem_of_getElem? hk))).2 x hx
 have aqX:((qs++kQ (3+M.length) q.2 q.2.length).map (·.1)).Nodup:=by
   rw[List.map_append];refine List.nodup_append.2 ⟨?_,gA _ _ _,λx hx y hy e=>?_⟩;have:=h.azF;rw[List.map_append] at this;exact(List.nodup_append.1 this).1;subst e;obtain⟨q2,h2,rfl⟩:=List.mem_map.1 hx;obtain⟨q3,h3,e3⟩:=List.mem_map.1 hy;obtain⟨a,k,_,_,_,rfl⟩:=XB.1 h3;have:=h.low q2 (by simp[h2]);rw[<- e3] at this;simp at this
 have qS:∀(M3:List Bx),M3[M.length]?=some ((q.2.map zN).map λn=>(n,none))->∀q2∈kQ (3+M.length) q.2 q.2.length,∃(i a:Nat) (l:Bx) (m:Nd),q2.1=(3+i,0+a*11+9)/\M3[i]?=some l/\l[a]?=some (m,none)/\q2.2=m.kids/\m.kids≠[]:=λM3 hM q2 h2=>by
   obtain⟨a,k,ha,hk,hkn,rfl⟩:=XB.1 h2;exact⟨M.length,a,_,zN k,rfl,hM,by rw[List.getElem?_map,List.getElem?_map,hk];rfl,rfl,hkn⟩
 have adK:∀(a:Nat) (m:Nd),(((q.2.map zN).map λn=>((n,none):Nd×Option Nat)))[a]?=some (m,none)->m.kids≠[]->(3+M.length,0+a*11+9)∈(qs++kQ (3+M.length) q.2 q.2.length).map (·.1):=λa m hm hk=>by
   obtain⟨k,hk2,e⟩:=lC hm;injection e with e1 _
   subst e1;rw[List.map_append];refine List.mem_append.2 (.inr (List.mem_map.2 ⟨_,XB.2 ⟨a,k,(List.getElem?_eq_some_iff.1 hk2).1,hk2,hk,rfl⟩,rfl⟩))
 have qR:∀(a:Nat) (m:Nd) (c:Nat),(((q.2.map zN).map λn=>((n,none):Nd×Option Nat)))[a]?=some (m,some c)->False:=λa m c hm=>by
   obtain⟨k,_,e⟩:=lC hm;injection e with _ e2
   cases e2
 have qT:∀(a:Nat) (m:Nd) (c:Option Nat),(((q.2.map zN).map λn=>((n,none):Nd×Option Nat)))[a]?=some (m,c)->m.AF=0:=λa m c hm=>by
   obtain⟨k,_,e⟩:=lC hm;injection e with e1 _
   rw[e1];rfl
 rcases h.amH q (by simp) with ⟨e1,hrk,e2⟩ | ⟨i,a,l,m,e1,hi,ha,e2,hkn⟩
 · subst hrk
   have OC:∀{i:Nat} {l:Bx},i≠M.length->(M++[((q.2.map zN).map λn=>((n,none):Nd×Option Nat))])[i]?=some l->M[i]?=some l:=λ{i l} hi hl=>by
     have:=(List.getElem?_eq_some_iff.1 hl).1;rw[List.length_append,List.length_singleton] at this;rwa[List.getElem?_append_left (by omega)] at hl
   have YK:∀{i:Nat} {l:Bx},M[i]?=some l->(M++[((q.2.map zN).map λn=>((n,none):Nd×Option Nat))])[i]?=some l:=λ{i l} hl=>by
     rw[List.getElem?_append_left (List.getElem?_eq_some_iff.1 hl).1];exact hl
   have Lf:(M++[((q.2.map zN).map λn=>((n,none):Nd×Option Nat))])[M.length]?=some ((q.2.map zN).map λn=>(n,none)):=List.getElem?_concat_length
   have hzero:∀(i a:Nat) (l:Bx) (m:Nd) (c:Option Nat),(M++[((q.2.map zN).map λn=>((n,none):Nd×Option Nat))])[i]?=some l->l[a]?=some (m,c)->m.AF=0:=λi a l m c hi ha=>by
     by_cases fS:i=M.length;subst fS;rw[Lf] at hi;cases hi;exact qT a m c ha;exact h.zero i a l m c (OC fS hi) ha
   refine⟨some (3+M.length),M++[(q.2.map zN).map λn=>(n,none)],⟨λq2 h2=>?_,aqX,⟨(λh=>nomatch h),λi a l m hi ha hk=>?_⟩,λi a l m c hi ha=>?_,λc hc=>?_,hsm,hzero⟩,by simp,akM,by rw[e2];simp,[rkC n0 none],?_,?_,?_⟩;rcases List.mem_append.1 h2 with h2 | h2
   rcases h.amH q2 (by simp[h2]) with ⟨e3,_,_⟩ | ⟨i,a,l,m,f1,f2,f3,f4,f5⟩
   exact absurd (e3.trans e1.symm) (hne q2 h2);exact .inr ⟨i,a,l,m,f1,YK f2,f3,f4,f5⟩;exact .inr (qS _ Lf q2 h2);by_cases fS:i=M.length;subst fS;rw[Lf] at hi;cases hi;exact adK a m ha hk;have:=h.all.2 i a l m (OC fS hi) ha hk;rw[List.map_append] at this ⊢;refine List.mem_append.2 (.inl (XN this (by show _≠q.1;rw[e1];intro h;injection h with h _;omega)))
   · by_cases fS:i=M.length
     subst fS;rw[Lf] at hi;cases hi;exact(qR a m c ha).elim
     · obtain⟨i2,l2,f1,f2,f3,f4⟩:=h.done i a l m c (OC fS hi) ha
       exact⟨i2,l2,f1,f2,YK f3,f4⟩
   cases hc;exact⟨M.length,_,rfl,Lf,by rw[e2];rfl⟩;rw[e1];exact oK (by decide);rw[e1,e2];rfl;rw[oL,eH,e1,e2];congr 1;exact(aiP (rk:=none) (3+M.length)).symm
 · have hiL:=(List.getElem?_eq_some_iff.1 hi).1
   have haL:=(List.getElem?_eq_some_iff.1 ha).1;have hlen:(M.set i (l.set a (m,some (3+M.length)))).length=M.length:=List.length_set
   have Lf:(M.set i (l.set a (m,some (3+M.length)))++[((q.2.map zN).map λn=>((n,none):Nd×Option Nat))])[M.length]?=some ((q.2.map zN).map λn=>(n,none)):=by
     have:=List.getElem?_concat_length (l:=M.set i (l.set a (m,some (3+M.length)))) (a:=(q.2.map zN).map λn=>((n,none):Nd×Option Nat));rwa[hlen] at this
   have pX:(M.set i (l.set a (m,some (3+M.length)))++[((q.2.map zN).map λn=>((n,none):Nd×Option Nat))])[i]?=some (l.set a (m,some (3+M.length))):=by
     rw[List.getElem?_append_left (by rw[hlen];exact hiL),List.getElem?_set_self hiL]
   have OC:∀{i2:Nat} {l2:Bx},i2≠M.length->i2≠i->(M.set i (l.set a (m,some (3+M.length)))++[((q.2.map zN).map λn=>((n,none):Nd×Option Nat))])[i2]?=some l2->M[i2]?=some l2:=λ{i2 l2} h1 h2 hl=>by
     have:=(List.getElem?_eq_some_iff.1 hl).1;rw[List.length_append,List.length_singleton,hlen] at this;rwa[List.getElem?_append_left (by rw[hlen];omega),List.getElem?_set_ne (λe=>h2 e.symm)] at hl
   have YK:∀{i2:Nat} {l2:Bx},M[i2]?=some l2->∃l3,(M.set i (l.set a (m,some (3+M.length)))++[((q.2.map zN).map λn=>((n,none):Nd×Option Nat))])[i2]?=some l3/\l3.map (·.1)=l2.map (·.1)/\∀b p,(i2,b)≠(i,a)->l2[b]?=some p->l3[b]?=some p:=λ{i2 l2} hl=>by
     have hl2:=(List.getElem?_eq_some_iff.1 hl).1;by_cases h2:i2=i;subst h2;rw[hi] at hl;cases hl;exact⟨_,pX,ajX ha,λb p hb hp=>by rw[List.getElem?_set_ne (λe=>hb (by rw[e]))];exact hp⟩;exact⟨l2,by rw[List.getElem?_append_left (by rw[hlen];exact hl2),List.getElem?_set_ne (λe=>h2 e.symm)];exact hl,rfl,λb p _ hp=>hp⟩
   have hzero:∀(i2 a2:Nat) (l2:Bx) (m2:Nd) (c:Option Nat),(M.set i (l.set a (m,some (3+M.length)))++[((q.2.map zN).map λn=>((n,none):Nd×Option Nat))])[i2]?=some l2->l2[a2]?=some (m2,c)->m2.AF=0:=λi2 a2 l2 m2 c TV Zl=>by
     by_cases fS:i2=M.length;subst fS;rw[Lf] at TV;cases TV;exact qT a2 m2 c Zl;by_cases h2:i2=i;subst h2;rw[pX] at TV;cases TV;by_cases h3:a2=a;subst h3;rw[List.getElem?_set_self haL] at Zl;cases Zl;exact h.zero i2 a2 l _ none hi ha;rw[List.getElem?_set_ne (λe=>h3 e.symm)] at Zl;exact h.zero i2 a2 l m2 c hi Zl;exact h.zero i2 a2 l2 m2 c (OC fS h2 TV) Zl
   refine⟨rk,M.set i (l.set a (m,some (3+M.length)))++[(q.2.map zN).map λn=>(n,none)],⟨λq2 h2=>?_,aqX,⟨λhr=>?_,λi2 a2 l2 m2 TV Zl hk=>?_⟩,λi2 a2 l2 m2 c TV Zl=>?_,λc hc=>?_,hsm,hzero⟩,by simp,akM,by rw[e2];exact λh=>hkn (List.eq_nil_of_length_eq_zero h),bxC l,?_,?_,?_⟩;rcases List.mem_append.1 h2 with h2 | h2
   rcases h.amH q2 (by simp[h2]) with h3 | ⟨i2,a2,l2,m2,f1,f2,f3,f4,f5⟩
   exact .inl h3;obtain⟨l3,g1,_,g3⟩:=YK f2;exact .inr ⟨i2,a2,l3,m2,f1,g1,g3 a2 _ (λe=>hne q2 h2 (by injection e with x y;rw[f1,e1,x,y])) f3,f4,f5⟩
   exact .inr (qS _ Lf q2 h2);have:=h.all.1 hr;rw[List.map_append] at this ⊢;refine List.mem_append.2 (.inl (XN this (by show _≠q.1;rw[e1];intro h;injection h with h _;omega)))
   by_cases fS:i2=M.length;subst fS;rw[Lf] at TV;cases TV;exact adK a2 m2 Zl hk
   have key:∀l4,M[i2]?=some l4->l4[a2]?=some (m2,none)->(i2,a2)≠(i,a)->(3+i2,0+a2*11+9)∈(qs++kQ (3+M.length) q.2 q.2.length).map (·.1):=λl4 h4 h5 h6=>by
     have:=h.all.2 i2 a2 l4 m2 h4 h5 hk;rw[List.map_append] at this ⊢
     refine List.mem_append.2 (.inl (XN this (by
       show _≠q.1;rw[e1];intro e;injection e with x y
       exact h6 (by rw[show i2=i by omega,show a2=a by omega]))))
   by_cases h2:i2=i;subst h2;rw[pX] at TV;cases TV;by_cases h3:a2=a;subst h3;rw[List.getElem?_set_self haL] at Zl;cases Zl;rw[List.getElem?_set_ne (λe=>h3 e.symm)] at Zl;exact key l hi Zl (λe=>by injection e with _ e;exact h3 e)
   exact key l2 (OC fS h2 TV) Zl (λe=>by injection e with e _;exact h2 e)
   · by_cases fS:i2=M.length
     subst fS;rw[Lf] at TV;cases TV;exact(qR a2 m2 c Zl).elim
     · have old:∀l4,M[i2]?=some l4->l4[a2]?=some (m2,some c)->∃(i3:Nat) (l3:Bx),c=3+i3/\i2 < i3/\(M.set i (l.set a (m,some (3+M.length)))++[((q.2.map zN).map λn=>((n,none):Nd×Option Nat))])[i3]?=some l3/\l3.map (·.1)=m2.kids.map zN:=λl4 h4 h5=>by
         obtain⟨i3,l3,f1,f2,f3,f4⟩:=h.done i2 a2 l4 m2 c h4 h5;obtain⟨l5,g1,g2,_⟩:=YK f3;exact⟨i3,l5,f1,f2,g1,g2.trans f4⟩
       by_cases h2:i2=i;subst h2;rw[pX] at TV;cases TV;by_cases h3:a2=a;subst h3;rw[List.getElem?_set_self haL] at Zl;cases Zl;exact⟨M.length,_,rfl,hiL,Lf,by rw[e2,List.map_map];simp[Function.comp_def]⟩;rw[List.getElem?_set_ne (λe=>h3 e.symm)] at Zl;exact old l hi Zl;exact old l2 (OC fS h2 TV) Zl
   obtain⟨i3,l3,f1,f2,f3⟩:=h.root c hc;obtain⟨l5,g1,g2,_⟩:=YK f2;exact⟨i3,l5,f1,g1,g2.trans f3⟩;rw[e1];exact xQ hi;rw[e1,e2];show(rows gN l)[0+a*11+9]?=_;rw[Nat.zero_add,cG Wo ha (by decide)];rfl;rw[oL,eH,hlen,e1];congr 1;rw[<- asS (by exact hiL)];congr 2;rw[e2];show rows gN (l.set a (m,some (3+M.length)))=(rows gN l).set (0+a*11+9) _;rw[Nat.zero_add,iM Wo (j:=9) (y:=(m,some (3+M.length))) (v:=.msl (3+M.length) 0 m.kids.length) ha (by decide) rfl]
def qN{p:Nat×Nat}(L:List Nd)(nx:Nat):mu (qs++kQ nx L L.length) < mu (qs++[(p,L)]):=by
 rw[bM,bM];have:=arI nx L L.length;rw[List.take_length] at this;have h2:mu [(p,L)]=1+cL L:=by simp[mu]
 omega
end
section
variable {c:Cx} {w:World} {s:AS} {n0:Nd} {rk:Option Nat} {M:List Bx}
def Zf(Ia:∀g i v,Lq c w g i v->Lq (c.upto 0 0) w g i v){m:Nd}{k:Option Nat}{X Y:List AV}{vs:List Value}(hz:m.AF=0)
   (hk:∀v,Rp c w (kcC m k) v->Rp (c.upto 0 0) w (.sl .lost (m.kids.map GY).length (Bd (m.kids.map GY))) v) (hX:∀us,Cz c w X us->Cz (c.upto 0 0) w Y us) (h:Cz c w (gN (m,k)++X) vs):Cz (c.upto 0 0) w (CF (GY m)++Y) vs:=by
 have pl:∀{a:AV} {v:Value},plain a=true->Rp c w a v->Rp (c.upto 0 0) w a v:=λhp hr=>Rp.plain Ia hp hr;rw[Jo];cases h with
 | cons h0 h=>cases h with
 | cons h1 h=>cases h with
 | cons h2 h=>cases h with
 | cons h3 h=>cases h with
 | cons h4 h=>cases h with
 | cons h5 h=>cases h with
 | cons h6 h=>cases h with
 | cons h7 h=>cases h with
 | cons h8 h=>cases h with
 | cons h9 h=>cases h with
 | cons h10 h =>
   have h10:Rp c w (.sc (.int .i64 m.AF)) _:=h10;rw[hz] at h10;exact .cons (pl rfl h0) (.cons (pl rfl h1) (.cons (pl rfl h2) (.cons (pl rfl h3) (.cons (pl rfl h4) (.cons (pl rfl h5) (.cons (pl rfl h6) (.cons (pl rfl h7) (.cons (pl (KL.Kr m.CJ.ps) h8) (.cons (hk _ h9) (.cons (pl rfl h10) (hX _ h)))))))))))
def aGZ(hs:St (G mx) c w s)(hb:∀g,some g∈c.CN->∀i,¬c.bad g i)(hI:Inv n0 rk M [])(OC:∀i l,M[i]?=some l->s.get (3+i)=some (.cells (bxC l)))(Ia:∀g i v,Lq c w g i v->Lq (c.upto 0 0) w g i v) :
   ∀(d i:Nat) (l:Bx),M.length<=i+d->M[i]?=some l->∀g,c.CN[3+i]?=some (some g)->A9 (c.upto 0 0) w g 0 (Bd (l.map λp=>GY p.1)):=by
 intro d
 induction d with
 | zero=>intro i l hd hl;have:=(List.getElem?_eq_some_iff.1 hl).1;omega
 | succ d ih =>
   intro i l hd hl g hg;have hgm:=List.mem_of_getElem? hg;obtain⟨vs,ext,T,hw,hr⟩:=O0 hs hg (OC i l hl)
   have key:∀(l2:Bx),(∀p∈l2,∃a:Nat,l[a]?=some p)->∀us,Cz c w (rows gN l2) us->Cz (c.upto 0 0) w (Bd (l2.map λp=>GY p.1)) us:=by
     intro l2
     induction l2 with
     | nil=>intro _ us h;cases h;exact .nil
     | cons p l2 uS =>
       intro hm us h;obtain⟨m,k⟩:=p;obtain⟨a,ha⟩:=hm (m,k) (by simp);rw[Gc] at h;rw[List.map_cons,AB.cons];refine Zf Ia (hI.zero i a l m k hl ha) (λv hv=>?_) (λus hu=>uS (λp hp=>hm p (by simp[hp])) us hu) h;cases k with
       | none =>
         have hk:m.kids=[]:=by
           by_cases hk:m.kids=[];exact hk;exact absurd (hI.all.2 i a l m hl ha hk) (by simp)
         have hv:Rp c w (.sl .lost m.kids.length (Bd m.kids)) v:=hv;rw[hk] at hv ⊢;exact Rp.plain Ia rfl hv
       | some cc =>
         obtain⟨i2,l3,rfl,TV,hl3,hf⟩:=hI.done i a l m cc hl ha;have hv:Rp c w (.msl (3+i2) 0 m.kids.length) v:=hv;cases hv with
         | @msl _ _ _ g2 cap hn hid =>
           have h3:=ih i2 l3 (by omega) hl3 g2 hid
           have e:(l3.map λp=>GY p.1)=m.kids.map GY:=by
             have:=congrArg (List.map GY) hf;rw[List.map_map,List.map_map] at this;rw[show(λp:Nd×Option Nat=>GY p.1)=GY∘(·.1) from rfl,this];exact List.map_congr_left λx _=>afH x
           rw[e] at h3;rw[List.length_map];exact .Kx hn h3 trivial
   refine A9.Oa (key l (λp hp=>by obtain⟨a,ha⟩:=List.mem_iff_getElem?.1 hp;exact⟨a,ha⟩) vs hr) (λj v hj=>?_);rw[Nat.zero_add];refine⟨hs.L0 g hgm,λGi=>?_,cell_of_heap hw (Ry hj)⟩;rcases Gi with Gi | ⟨r,n',cap',MP,hr,_⟩ | Gi
   simp[Cx.upto] at Gi;simp[Cx.upto] at hr;exact hb g hgm j Gi
def uE(hI:Inv n0 rk M [])(OC:∀i l,M[i]?=some l->s.get (3+i)=some (.cells (bxC l))){i:Nat}{k:Option Nat}(hl:M[i]?=some [(zN n0,k)]):oJ (G mx) s (.agg (gN (zN n0,k))) (.agg (CF (GY n0))):=by
 intro c w u hs hb hr
 have Ia:∀g i v,Lq c w g i v->Lq (c.upto 0 0) w g i v:=λg i v hv=>⟨hv.1,λGi=>by
   rcases Gi with Gi | ⟨r,n',cap',MP,hr,_⟩ | Gi
   simp[Cx.upto] at Gi;simp[Cx.upto] at hr;exact hv.2.1 (.inr (.inr Gi)),hv.2.2⟩
 cases hr with
 | agg h =>
   have:=Zf (X:=[]) (Y:=[]) Ia (m:=zN n0) (k:=k) rfl (λv hv=>?_) (λus hu=>by cases hu;exact .nil) (by rw[List.append_nil];exact h);rw[List.append_nil,afH] at this;exact .agg this
   · cases k with
     | none =>
       have hk:(zN n0).kids=[]:=by
         by_cases hk:(zN n0).kids=[];exact hk;exact absurd (hI.all.2 i 0 _ _ hl rfl hk) (by simp)
       have hv:Rp c w (.sl .lost (zN n0).kids.length (Bd (zN n0).kids)) v:=hv;rw[hk] at hv ⊢;exact Rp.plain Ia rfl hv
     | some cc =>
       obtain⟨i2,l3,rfl,TV,hl3,hf⟩:=hI.done i 0 _ _ cc hl rfl;have hv:Rp c w (.msl (3+i2) 0 (zN n0).kids.length) v:=hv;cases hv with
       | @msl _ _ _ g2 cap hn hid =>
         have h3:=aGZ hs hb hI OC Ia M.length i2 l3 (by omega) hl3 g2 hid
         have e:(l3.map λp=>GY p.1)=(zN n0).kids.map GY:=by
           have:=congrArg (List.map GY) hf;rw[List.map_map,List.map_map] at this;rw[show(λp:Nd×Option Nat=>GY p.1)=GY∘(·.1) from rfl,this];exact List.map_congr_left λx _=>afH x
         rw[e] at h3;rw[List.length_map];exact .Kx hn h3 trivial
end
section
variable {b:Nat} {B:Nat->Nat->Prop} {w0:World} {Q:QE} {n0:Nd}
def alZ{g:Nat}{j:List Value}(hc:cL [n0]<=99999998)(hp:VG n0)
   (h:∀rk M g cap j,Inv n0 rk M []->Q .normal (xP g 0 cap j) ⟨HH rk n0 M,3+M.length,[],0⟩ (Ee b B w0 g cap [])) :
   WE P (G mx) (Ee b B w0 g 1 [(2,0)]) (sb G4 30) (xP g 1 1 j) ⟨HH none n0 [],3,[],0⟩ Q:=by
 rw[show sb G4 30=.block 0 (.loop (sb G4 120)) by kernel_rfl];refine .block ?_;refine .loop (λm f s E=>∃rk M qs g cap j,Inv n0 rk M qs/\m=mu qs/\mu qs<=99999999/\f=xP g (qs.map (·.1)).length cap j/\s=⟨HH rk n0 M,3+M.length,[],0⟩/\E=Ee b B w0 g cap (qs.map (·.1))) ?_ (m:=mu [((2,0),[n0])]) ⟨none,[],[((2,0),[n0])],g,1,j,?_,rfl,by simp[mu];omega,rfl,rfl,rfl⟩;rotate_left;exact⟨λq hq=>.inl (by rw[List.mem_singleton.1 hq];exact⟨rfl,rfl,rfl⟩),by simp,⟨λ_=>by simp,λi a l m hi=>by simp at hi⟩,λi a l m c hi=>by simp at hi,λc hc=>(nomatch hc),λq hq x hx=>by rw[List.mem_singleton.1 hq] at hx;rw[List.mem_singleton.1 hx];exact hp,λi a l m c hi=>by simp at hi⟩;rintro m _ _ _ ⟨rk,M,qs,g,cap,j,hI,rfl,hmu,rfl,rfl,rfl⟩;refine .seqB (x:=sb G4 240) (y:=sb G4 241) (by kernel_rfl) ?_;rcases List.eq_nil_or_concat qs with rfl | ⟨qs,q,rfl⟩
 refine .seqB (x:=sb G4 480) (y:=sb G4 481) (by kernel_rfl) ?_;refine abO false 0 rfl (λf h13 hf=>.inl ⟨rfl,?_⟩);refine .Zc false (x:=sb G4 962) (y:=sb G4 963) (q:=.tmp 13) (by kernel_rfl) h13 ?_;rw[if_neg (by decide),show sb G4 963=.exit 0 by kernel_rfl];exact .wk hf (.exit (.inr ⟨(by intro h;cases h),.inr ⟨(by intro h;cases h),h rk M g cap _ hI⟩⟩));rw[List.concat_eq_append] at hI hmu ⊢;have hqm:(qs++[q]).map (·.1)=qs.map (·.1)++[q.1]:=by rw[List.map_append];rfl
 have hlen:=adF (qs++[q]);rw[List.length_append,List.length_singleton] at hlen;refine .R6 (x:=sb G4 480) (y:=sb G4 481) (by kernel_rfl) ?_;refine abO true _ (aHB (by rw[hqm,List.length_append,List.length_singleton];omega)) (λf h13 hf=>⟨rfl,?_⟩);refine .Zc true (x:=sb G4 962) (y:=sb G4 963) (q:=.tmp 13) (by kernel_rfl) h13 ?_;rw[if_pos rfl,show sb G4 962=.skip by kernel_rfl];refine .skip (.inl ⟨rfl,.wk hf ?_⟩);rw[show sb G4 241=.block 1 (sb G4 482) by kernel_rfl,hqm];refine .block ?_;obtain⟨rk2,M2,hI2,hM2,hid,hL,cs,Wf,UO,hH⟩:=acF hI;have hmq:mu (qs++[q])=mu qs+(1+cL q.2):=by rw[bM];simp[mu]
 have hLc:=yN q.2;have hql:=adF qs;refine aBL (by rw[List.length_map];omega) ?_;refine ajH hid Wf UO hL (by omega) ?_;refine awB hid (XJ Wf) (List.getElem?_set_self (List.getElem?_eq_some_iff.1 UO).1) (λx hx=>((MJ x).1 (hI.small q (by simp) x hx)).1) (by rw[List.length_map];omega) (λg' cap' j'=>.inl ⟨rfl,mu (qs++kQ (3+M.length) q.2 q.2.length),qN q.2 (3+M.length),rk2,M2,qs++kQ (3+M.length) q.2 q.2.length,g',cap',j',hI2,rfl,?_,?_,?_,?_⟩);have:=qN (qs:=qs) (p:=q.1) q.2 (3+M.length);have:mu (qs++[(q.1,q.2)])<=99999999:=hmu;omega;rw[List.map_append,mQ];rw[hH,hM2];rfl;rw[List.map_append,mQ]
def dN:(P.underlying 29).map Nf=some true:=by kernel_rfl
def sN:(P.info? 29).map (·.size)=some 11:=by kernel_rfl
def afL{n:Nd}(hc:cL [n]<=99999998)(hp:VG n):Pure P (G mx) 24 [.agg (CF n)] (.agg (CF (GY n))):=by
 refine aBN Hd.mixed Hd.Ab Tryz.func24 b24 (λb B w0 hB=>?_) (BE (AB.CS n) rfl) (AB.CS (GY n));refine .R6 (x:=sb G4 2) (y:=sb G4 3) (by kernel_rfl) ?_;refine .run Hd.mixed E0.GF [] (e:=.normal) (fr2:=fr 72 [(1,.ptr 0 0),(2,.ptr 1 0)] [13,36,61] [undef,undef,undef]) (s2:=⟨[(1,a1),(0,.cells (CF n))],2,[],0⟩) (by kernel_rfl) (by intro v h;cases h) ⟨rfl,?_⟩;refine .R6 (x:=sb G4 6) (y:=sb G4 7) (by kernel_rfl) ?_;refine .run Hd.mixed E0.GF [] (e:=.normal) (fr2:=fr 72 [(2,.ptr 1 0),(3,.ptr 2 0)] [13,36,61] [undef,undef,undef]) (s2:=⟨[(2,.cells [.sl .full 1 (CF n)]),(1,a1),(0,.cells (CF n))],3,[],0⟩) (by kernel_rfl) (by intro v h;cases h) ⟨rfl,?_⟩;refine .nM (id:=2) (b2:=.cells [rkC n none]) rfl (λcx w o ho=>?_) ?_
 · have e:Bd [n]=CF n:=by rw[Lv];exact List.append_nil _
   cases ho with
   | G5 ext h1 =>
     refine .G5 ext ?_;cases h1 with
     | cons h1 t =>
       refine .cons ?_ t;show Rp cx w (.sl .lost 1 (Bd [n])) _;rw[e];cases h1 with
       | Kx hn hc _=>exact .Kx hn hc trivial
 show WE P (G mx) _ (sb G4 7) _ ⟨HH none n [],3,[],0⟩ _;refine .R6 (x:=sb G4 14) (y:=sb G4 15) (by kernel_rfl) ?_;have hr:Rl (sb G4 14) 2=true:=by kernel_rfl
 refine .reg hr ?_;show OR P (G mx) _ _ [0,1] _ _ _;refine .begin hr (by decide) (t:=88) (e:=87) (x:=.tmp 3) (id:=2) (off:=0) (by kernel_rfl) uP (by kernel_rfl) (by kernel_rfl) (λg=>?_);refine .q Hd.mixed Ee.GF hr (by decide) (.raw (some ⟨g,0,none⟩) 1 1) (by kernel_rfl) (by kernel_rfl) ?_;refine .nil ⟨rfl,.wk (fr2:=xP g 1 1 [undef,undef,undef]) (by kernel_rfl) ?_⟩;refine .R6 (x:=sb G4 30) (y:=sb G4 31) (by kernel_rfl) ?_;refine alZ hc hp (λrk M g cap j hI=>⟨rfl,?_⟩);cases rk with
 | none=>exact absurd (hI.all.1 rfl) (by simp)
 | some c =>
   obtain⟨i,l,rfl,hl,hf⟩:=hI.root c rfl
   obtain⟨k,rfl⟩:∃k,l=[(zN n,k)]:=by
     cases l with
     | nil=>cases hf
     | cons p l =>
       cases l with
       | cons _ _=>simp at hf
       | nil =>
         obtain⟨m,k⟩:=p;simp at hf;exact⟨k,by rw[hf]⟩
   have ho:(gN (zN n,k)).all one=true:=by cases k<;>rfl
   refine .seqB (x:=sb G4 62) (y:=sb G4 63) (by kernel_rfl) ?_;refine .run Hd.mixed Ee.GF [nJ (x:=AI.look 2 (HH (some (3+i)) n M)) (b:=.cells [.msl (3+i) 0 1]) (off:=0) (v:=.msl (3+i) 0 1) (Y8 dL sL rfl) (oK (by decide)),IE (arF (id:=3+i) (n:=1) (i:=0) (by decide)),nJ (x:=AI.look (3+i) (HH (some (3+i)) n M)) (off:=0+0*11) (v:=.agg (gN (zN n,k))) (iK Wo dN sN (l:=[(zN n,k)]) rfl) (xQ hl),amJ (x:=AI.look 1 (HH (some (3+i)) n M)) (b:=a1) (off:=0) (v:=.agg (gN (zN n,k))) (stA sN rfl rfl ho) (oK (by decide))] (e:=.normal) (fr2:=xP g 0 cap j) (s2:=⟨Qw 1 (.cells (gN (zN n,k))) (HH (some (3+i)) n M),3+M.length,[],0⟩) (by kernel_rfl) (by intro v h;cases h) (.inl ⟨rfl,?_⟩);rw[show sb G4 63=.ret by kernel_rfl];have aHU:AI.look 1 (HH (some (3+i)) n M)=some a1:=oK (by decide);refine λcx w a K hE hs hf hd hK=>wp_ret (hK .ret _ _ _ ⟨.inr rfl,Ee.fin hB,.agg (gN (zN n,k)),aEP (a:=.ptr 1 0) (t:=2) (ty:=29) (by kernel_rfl) (by kernel_rfl) ?_,uE hI (λi2 l2 h2=>?_) hl⟩ cx w a _ hE hs hd ⟨rfl,hf⟩)
   have hg:AS.get ⟨Qw 1 (.cells (gN (zN n,k))) (HH (some (3+i)) n M),3+M.length,[],0⟩ 1=some (.cells (rows gN [(zN n,k)])):=by
     show AI.look 1 (Qw 1 _ _)=_;rw[XJ aHU];rw[show rows gN [(zN n,k)]=gN (zN n,k) from List.append_nil _]
   have:=iK (P:=P) (G:=(G mx)) Wo dN sN (l:=[(zN n,k)]) (i:=0) (x:=(zN n,k)) rfl _ _ hg;simpa using this
   show AI.look (3+i2) (Qw 1 _ _)=_;rw[Ic (by omega)];exact xQ h2
end
end Mo
end Go.Proofs.YtpbkhogolfegfaaGreatDoor
namespace Go.Proofs.YtpbkhogolfegfaaGreatDoor
open AI Go
namespace Mo
variable {mx:Int}
open Classical in
def Ht(n:Nd):Option Nd:=if cL [n]<=99999998/\VG n then some (GY n) else none
def Ob{n:Nd}{yR:Nd}(h:Ht n=some yR):Pure P (G mx) 24 [.agg (CF n)] (.agg (CF yR)):=by
 unfold Ht at h;split at h;rename_i hc;cases h;exact afL hc.1 hc.2;cases h
end Mo
end Go.Proofs.YtpbkhogolfegfaaGreatDoor
namespace Go.Proofs.YtpbkhogolfegfaaGreatDoor
open AI Go Go.RowKit LexS
namespace Mo
variable {mx:Int}
def aJV{cx:Cx}{w:World}{s:AS}(h:St (G mx) cx w s):Mv w:=by
 refine⟨λi hi=>?_,λj v hj=>?_⟩;have hc:=h.Ma 3 Hd.ajI rfl;have he:Hd.ajI[i]?=some (.sc (.int .u8 (Q4 i:Nat))):=by simp[Hd.ajI,hi]
 obtain⟨v,hv,hr⟩:=hc.get he;cases hr;have:=hv.2.2;rwa[Nat.zero_add] at this;have hc:=h.Ma 0 Hd.anZ rfl;have hj':(Gf.map λy=>Value.string ⟨y.toArray⟩)[j]?=some v:=by simpa[H3] using hj
 rw[List.getElem?_map] at hj';obtain⟨y,hy,rfl⟩:=Option.map_eq_some_iff.1 hj';have he:Hd.anZ[j]?=some (Ge y):=by simp[Hd.anZ,hy]
 obtain⟨u,hu,hr⟩:=hc.get he;unfold Ge at hr;cases hr;have:=hu.2.2;rwa[Nat.zero_add] at this
def UI{w w':World}(h:Below w.heap.size w w'):QO w w' (λ_=>False):=⟨h.os,h.tape,h.output,h.size,λk hk _=>h.block k hk⟩
def tW(w:World)(e:TypeId)(s:ByteArray):QO w (Lib.bytesWorld w e s) (λ_=>False) :=
 UI (Lib.below_freeze ((Below.drew (Below.refl _ w)).alloc (Nat.le_refl _) _) (p:=⟨w.heap.size,_,Option.none⟩) (Nat.le_refl _) 1)
def OG(x:LexS.Tok):Tk:=⟨x.1,⟨x.2.1.toArray⟩,x.2.2⟩
def aoM(l:List LexS.Tok):(rows Ii (l.map OG)).length=(JW l).length:=by
 unfold JW
 induction l with
 | nil=>rfl
 | cons x l ih=>rw[List.map_cons,Gc,List.flatMap_cons,List.length_append,List.length_append,ih];rfl
def axV(cx:Cx)(w:World)(l:List LexS.Tok):Cz cx w (rows Ii (l.map OG)) (JW l):=by
 unfold JW
 induction l with
 | nil=>exact .nil
 | cons x l ih =>
   rw[List.map_cons,Gc,List.flatMap_cons];exact Cz.append (.cons (.sc rfl) (.cons (.sc rfl) (.cons (.sc rfl) .nil))) ih
def Ki(s:ByteArray):Option (List Tk×Int×Int):=some ((Mc s.data.toList).1.map OG,(((Mc s.data.toList).2.1:Nat):Int),(((Mc s.data.toList).2.2:Nat):Int))
def MB{s:ByteArray}{yR:List Tk×Int×Int}(h:Ki s=some yR):Pure P (G mx) 34 [.sc (.string s)] (.Df [.sl .lost yR.1.length (rows Ii yR.1),.sc (.int .i64 yR.2.1),.sc (.int .i64 yR.2.2)]):=by
 cases h;intro s0 cx w vs hs ha;cases ha with
 | cons h1 tl =>
 cases tl;cases h1;refine(alF s w (aJV hs)).mono ?_;rintro e w' ⟨u,rfl,OD,hb⟩;obtain⟨x,st⟩:=hs.same (UI hb);refine⟨cx,x,st,_,rfl,?_⟩;show Rp cx w' (.Df [.sl .lost ((Mc (L s)).1.map OG).length (rows Ii ((Mc (L s)).1.map OG)),.sc (.int .i64 (Mc (L s)).2.1),.sc (.int .i64 (Mc (L s)).2.2)]) _;refine .Df (vs:=[u,.int .i64 (Mc (L s)).2.1,.int .i64 (Mc (L s)).2.2]) (.cons ?_ (.cons (.sc rfl) (.cons (.sc rfl) .nil)));have hl:=aoM (Mc (L s)).1;have hc:=axV cx w' (Mc (L s)).1;rw[List.length_map];obtain⟨h1,⟨rfl,h2⟩ | ⟨g,cap,cur,rfl,hg,hw,hn,_,hsz,htk⟩⟩:=OD;have:(Mc (L s)).1=[]:=List.eq_nil_of_length_eq_zero h2;rw[this];exact .sl0 trivial;refine .Kx hn (A9.Oa hc (λi v hi=>⟨(Array.getElem?_eq_some_iff.1 hw).1,λGi=>?_,?_⟩)) trivial;have:g < w.heap.size:=hs.Tf Gi;omega;rw[Nat.zero_add,cell_of_row w' g i cur _ _ hw];rw[<- htk,List.getElem?_take] at hi;split at hi;rwa[Array.getElem?_toList] at hi;cases hi
def QX(s:ByteArray):Option (Int×Unit):=if s.data.toList.length<=18 then (Lib.atoi s.data.toList).map λn=>(n,()) else none
def oP{s:ByteArray}{yR:Int×Unit}(h:QX s=some yR):Pure P (G mx) 173 [.sc (.string s)] (.Df [.sc (.int .i64 yR.1),.sc .nilIface]):=by
 unfold QX at h;split at h
 · rename_i hl
   cases hn:Lib.atoi s.data.toList with
   | none=>rw[hn] at h;cases h
   | some n =>
     rw[hn] at h;cases h;intro s0 cx w vs hs ha;cases ha with
     | cons h1 tl =>
     cases tl;cases h1;refine(Tryz.strconv_Atoi s n (by show s.data.size<=18;rw[<- Array.length_toList];exact hl) hn w).mono ?_;rintro e w' ⟨rfl,tt,rfl⟩;obtain⟨x,st⟩:=hs.same (tW w _ tt);exact⟨cx,x,st,_,rfl,.Df (vs:=[.int .i64 n,.nilIface]) (.cons (.sc rfl) (.cons (.sc rfl) .nil))⟩
 cases h
def Jl(t o n:ByteArray)(k:Int):Option ByteArray:=if 1<=o.size/\t.size+Lib.countB t o*n.size<=4000 then some ⟨(Lib.replace t.data.toList o.data.toList n.data.toList k).toArray⟩ else none
def cC{t o n:ByteArray}{k:Int}{yR:ByteArray}(h:Jl t o n k=some yR):Pure P (G mx) 163 [.sc (.string t),.sc (.string o),.sc (.string n),.sc (.int .i64 k)] (.sc (.string yR)):=by
 unfold Jl at h;split at h
 · rename_i hl
   cases h;intro s0 cx w vs hs ha;cases ha with
   | cons a1 tl =>
   cases tl with
   | cons a2 tl =>
   cases tl with
   | cons a3 tl =>
   cases tl with
   | cons a4 tl =>
   cases tl;cases a1;cases a2;cases a3;cases a4
   have hm:w.cell? ⟨5,0,none⟩=some (.int .i64 mx):=by
     have hg:=hs.Ma 5 [Hd.int mx] rfl;obtain⟨v,hv,hr⟩:=hg.get (i:=0) rfl;unfold Hd.int at hr;cases hr;exact hv.2.2
   refine(Tryz.strings_Replace t o n k mx w (by omega) hm hl.1 (by omega)).mono ?_;rintro e w' ⟨rfl,hb⟩;obtain⟨x,st⟩:=hs.same (UI hb);exact⟨cx,x,st,_,rfl,.sc rfl⟩
 cases h
def agF:Nd⊕Dg->Nd×Dg×Bool
 | .inl n=>(n,⟨0,0⟩,true)
 | .inr d=>(⟨0,ByteArray.empty,ByteArray.empty,0,0,0,0,⟨0,[]⟩,[],0⟩,d,false)
end Mo
end Go.Proofs.YtpbkhogolfegfaaGreatDoor

namespace AI
open Go
abbrev AV.zi(x:Int):AV:=.sc (.int .i64 x)
abbrev AV.zs(x:ByteArray):AV:=.sc (.string x)
abbrev AV.zb(x:Bool):AV:=.sc (.bool x)
abbrev bT:Value:=.bool true
abbrev bF:Value:=.bool false
def Eg{α β:Type}{a b:α}{c d:β}{Q:Prop}(k:a=b->c=d->Q):some (a,c)=some (b,d)->Q:=λh=>by cases h;exact k rfl rfl
def rT{P:Program}{G:A6}{c:Code}{fr:List AV}{s:AS}{x:Value}{fn:Func}{m:Nat}(l:List (PC P G))(h:amS P fn (RZ P G 300 c [] (pHs l) fr s)=some (dO l,.sc x):=by kernel_rfl):W P G (XS P G) H0 c fr s (Sg P fn m (λr _=>∃a,r=.ret a/\Fits 0 0 a (.sc x))):=rS (Ae 300 l) h
end AI
namespace Go.Proofs.YtpbkhogolfegfaaGreatDoor
open AI Go
namespace Mo
variable {mx:Int}
abbrev ndL(x:Nd)(r:List AV):List AV:=.zi x.kind::.zs x.name::.zs x.unit::.zi x.n::.zi x.fr::.zi x.to::.zi x.known::.zi x.CJ.den::.sl .lost x.CJ.ps.length (rows Hz x.CJ.ps)::.sl .lost x.kids.length (Bd x.kids)::.zi x.AF::r
end Mo
end Go.Proofs.YtpbkhogolfegfaaGreatDoor
namespace AI
open Go
def BP{α β γ δ:Type}{m:Option ((α⊕β)×γ)}{k:(α⊕β)×γ->Option δ}{r:δ}{X:Prop}(h1:∀a c,m=some (.inl a,c)->k (.inl a,c)=some r->X)(h2:∀b c,m=some (.inr b,c)->k (.inr b,c)=some r->X):m.bind k=some r->X:=λh=>by
 cases m with
 | none=>cases h
 | some p =>
   obtain⟨a | b,c⟩:=p;exact h1 a c rfl h;exact h2 b c rfl h
end AI
namespace Go.Proofs.YtpbkhogolfegfaaGreatDoor
open AI Go
namespace Mo
variable {mx:Int}
abbrev pC(p:Pr)(x:Int):List AV:=[.sl .lost p.Bq.length (rows Ii p.Bq),.zi x,.zi p.Dy]
abbrev pZ(p:Pr):AS:=⟨[(0,.cells (Qu p))],1,[],0⟩
abbrev pS(p:Pr)(x:Int):AS:=⟨[(0,.cells (pC p x))],1,[],0⟩
def pW{n m:Nat}(p:Pr)(x:Int):FO n m:=bw (.cells (pC p x)) (.cells (pC p x)) (.cells (.plain (BE (DZ.Kr p.Bq) (BE rfl (BE rfl rfl)))))
abbrev R9:List AV:=[.zi 0,.zs ByteArray.empty,.zs ByteArray.empty,.zi 0,.zi 0,.zi 0,.zi 0,.zi 0,.sl .full 0 [],.sl .full 0 [],.zi 0]
def kS{n m:Nat}:FO n m:=bw (.cells R9) (.cells R9) (.cells (.plain (BE rfl (BE rfl (BE rfl (BE rfl (BE rfl (BE rfl (BE rfl (BE rfl (BE (VF rfl) (BE (VF rfl) (BE rfl rfl)))))))))))))
abbrev eD:Dg->AV:=λdV=>.ifc 45 (.agg (O3 dV))
def gD{n m:Nat}(d:Dg):FP n m:=⟨eD d,eD d,.plain (Ch.CS d)⟩
abbrev eN:Nd->AV:=λyV=>.agg (CF yV)
abbrev eT:Tk->AV:=λyV=>.agg (Ii yV)
abbrev eI:Int->AV:=λyV=>.zi yV
abbrev eJ:Int×Int->AV:=λyV=>.Df [.zi yV.1,.zi yV.2]
abbrev eL:List Nd->AV:=λyV=>.sl .lost yV.length (Bd yV)
abbrev eP:Pt->AV:=λyV=>.agg (Ws yV)
abbrev pR(mx:Int)(f:Nat)(al:List AV)(p:Pr)(r:CR)(x:Int):Prop:=Sound P (G mx) (.call f al (pZ p) r (pS p x))
section
variable {c:Code} {fr0:List AV} {s s0 s2:AS} {Q:AX->List AV->AS->Prop} {m:Nat} {v:AV} {ks:List KI}
def Hk(d:Dg)(p:Pr)(x:Int)(l:List (PC P (G mx)))(k:SE (G mx) m s0 Q v s2)(h:amC s0.nx s0.nr m [v] (YC (n:=s0.nx) (m:=s0.nr) [gD d]) (lQ (n:=s0.nx) (m:=s0.nr) [pW p x]) (RZ P (G mx) 300 c [] (pHs l) fr0 s)=some (dO l,[v],s2,dH (n:=s0.nx) (m:=s0.nr) [gD d],wZ (n:=s0.nx) (m:=s0.nr) [pW p x]):=by kernel_rfl):W P (G mx) (XS P (G mx)) H0 c fr0 s Q:=BJ Hd.Ab m [gD d] [pW p x] (Ae 300 l) h k
def qgB(d:Dg)(p:Pr)(x:Int)(l:List (PC P (G mx)))(k:SE (G mx) m s0 Q v s2)(h:amC s0.nx s0.nr m [v] (YC (n:=s0.nx) (m:=s0.nr) [gD d]) (lQ (n:=s0.nx) (m:=s0.nr) [pW p x]) (QG (RZ P (G mx) 300) ks .normal (pHs l) fr0 s)=some (dO l,[v],s2,dH (n:=s0.nx) (m:=s0.nr) [gD d],wZ (n:=s0.nx) (m:=s0.nr) [pW p x]):=by kernel_rfl):D3 P (G mx) ks Q .normal fr0 s:=BJ Hd.Ab m [gD d] [pW p x] (KW 300 l) h k
end
section
variable {f:Nat} {al:List AV} {p:Pr} {x:Int}
def quG{r:CR}(hr:∀ρ σ,RnR 1 0 ρ σ r r)(hS:pR mx f (.ptr 0 0::al) p r x)(u0:Nat)(ha:BA al=true):Cd.ok P (G mx) (.EM f (.ptr u0 0::al) r [(u0,.cells (Qu p))] [] [(u0,.cells (pC p x))] []) :=
 G7 (M:=[.cells (Qu p)]) (M2:=[.cells (pC p x)]) (T:=[]) (T2:=[]) (k:=1) (j:=0) Hd.Ab _ _ _ _ hS rfl rfl rfl rfl rfl (List.nodup_cons.2 ⟨by simp,List.nodup_nil⟩) List.nodup_nil rfl rfl (.cons (.cells (.pl (CI.pl p))) .nil) (.cons (.cells (.pl (BE (DZ.Kr p.Bq) (BE rfl (BE rfl rfl))))) .nil) (.cons (.ptr (by decide)) (.pl ha)) (hr _ _) (λe he=>by simp only[List.mem_singleton] at he;subst he;exact(.arg (.here .ptr)))
def GW{y:Nd⊕Dg}(hS:pR mx f (.ptr 0 0::al) p (Iz eN eD y) x)(u0:Nat)(ha:BA al=true:=by kernel_rfl):Cd.ok P (G mx) (.EM f (.ptr u0 0::al) (Iz eN eD y) [(u0,.cells (Qu p))] [] [(u0,.cells (pC p x))] []):=quG (λ_ _=>LB (enc:=eN) (encd:=eD) (λyV=>AB.CS yV) (λdV=>Ch.CS dV) y) hS u0 ha
def Hp{y:Tk⊕Dg}(hS:pR mx f (.ptr 0 0::al) p (Iz eT eD y) x)(u0:Nat)(ha:BA al=true:=by kernel_rfl):Cd.ok P (G mx) (.EM f (.ptr u0 0::al) (Iz eT eD y) [(u0,.cells (Qu p))] [] [(u0,.cells (pC p x))] []):=quG (λ_ _=>LB (enc:=eT) (encd:=eD) (λyV=>DZ.CS yV) (λdV=>Ch.CS dV) y) hS u0 ha
def ZC{y:Int⊕Dg}(hS:pR mx f (.ptr 0 0::al) p (Iz eI eD y) x)(u0:Nat)(ha:BA al=true:=by kernel_rfl):Cd.ok P (G mx) (.EM f (.ptr u0 0::al) (Iz eI eD y) [(u0,.cells (Qu p))] [] [(u0,.cells (pC p x))] []):=quG (λ_ _=>LB (enc:=eI) (encd:=eD) (λyV=>rfl) (λdV=>Ch.CS dV) y) hS u0 ha
def Mq{y:(Int×Int)⊕Dg}(hS:pR mx f (.ptr 0 0::al) p (Iz eJ eD y) x)(u0:Nat)(ha:BA al=true:=by kernel_rfl):Cd.ok P (G mx) (.EM f (.ptr u0 0::al) (Iz eJ eD y) [(u0,.cells (Qu p))] [] [(u0,.cells (pC p x))] []):=quG (λ_ _=>LB (enc:=eJ) (encd:=eD) (λyV=>rfl) (λdV=>Ch.CS dV) y) hS u0 ha
def NC{a:AV}(hS:Sound P (G mx) (.call f (.ptr 0 0::al) (pZ p) (.ret a) (pZ p)))(u0:Nat)(ha:BA al=true:=by kernel_rfl)(hp:plain a=true:=by kernel_rfl):Cd.ok P (G mx) (.EM f (.ptr u0 0::al) (.ret a) [(u0,.cells (Qu p))] [] [(u0,.cells (Qu p))] []):=quG (x:=p.Jr) (r:=.ret a) (λ_ _=>.pl hp) hS u0 ha
end
end Mo
end Go.Proofs.YtpbkhogolfegfaaGreatDoor
namespace Go.Proofs.YtpbkhogolfegfaaGreatDoor
open AI Go
namespace Mo
set_option maxRecDepth 100000
set_option maxHeartbeats 4000000
variable {mx:Int}
def B49:Code:=Bj Tryz.f49
def b49:Tryz.f49.body=some B49:=by kernel_rfl
def LR(p:Pr)(err:Int)(at_:Int):Option (Unit⊕Dg):=some (Sum.inr (⟨err,at_⟩:Dg):(Unit⊕Dg))
def As{p:Pr}{err:Int}{at_:Int}{yR:(Unit⊕Dg)}(hS:Sound P (G mx) (.call 49 [.ptr 0 0,.zi err,.zi at_] (pZ p) (Iz (λyV=>.Df []) eD yR) (pZ p)))(u0:Nat)(O5:([u0]:List Nat).Nodup:=by decide)(O6:([]:List Nat).Nodup:=by decide):Cd.ok P (G mx) (.EM 49 [.ptr u0 0,.zi err,.zi at_] (Iz (λyV=>.Df []) eD yR) [(u0,.cells (Qu p))] [] [(u0,.cells (Qu p))] []) :=
 G7 (M:=[.cells (Qu p)]) (M2:=[.cells (Qu p)]) (T:=[]) (T2:=[]) (k:=1) (j:=0) Hd.Ab _ _ _ _ hS rfl rfl rfl rfl rfl O5 O6 rfl rfl (.cons (.cells (.pl (CI.pl p))) .nil) (.cons (.cells (.pl (CI.pl p))) .nil) (.cons (.ptr (by decide)) (.cons (.pl rfl) (.cons (.pl rfl) .nil))) (LB (enc:=λyV=>.Df []) (encd:=λdV=>.ifc 45 (.agg (O3 dV))) (λyV=>rfl) (λdV=>(Ch.CS dV)) yR) (λe he=>by simp only[List.mem_singleton] at he;subst he;exact(.arg (.here .ptr)))
def Am{p:Pr}{err:Int}{at_:Int}{yR:(Unit⊕Dg)}(h:LR  p err at_=some yR):Sound P (G mx) (.call 49 [.ptr 0 0,.zi err,.zi at_] (pZ p) (Iz (λyV=>.Df []) eD yR) (pZ p)):=by
 unfold LR at h;refine BW Hd.mixed (Ay Tryz.func49 b49 ?_);revert h;rintro⟨⟩;exact BJ Hd.Ab _ [⟨.ifc 45 (.agg [.zi err,.zi at_]),.ifc 45 (.agg [.zi err,.zi at_]),(.plain (Ch.CS (⟨err,at_⟩:Dg)))⟩] [bp (CI.pl p)] (Ae 300 [ppn]) (by kernel_rfl) .body
def B69:Code:=Bj Tryz.f69
def b69:Tryz.f69.body=some B69:=by kernel_rfl
def AD(p:Pr):Option (Tk⊕Dg):=cond (SV ((p.Bq.length:Nat):Int) p.Jr) (some (Sum.inr (⟨72,p.Dy⟩:Dg):(Tk⊕Dg))) ((L9 p.Bq p.Jr).bind λx1=>some (Sum.inl x1:(Tk⊕Dg)))
def Av{p:Pr}{yR:(Tk⊕Dg)}(hS:Sound P (G mx) (.call 69 [.ptr 0 0] (pZ p) (Iz eT eD yR) (pZ p)))(u0:Nat)(O5:([u0]:List Nat).Nodup:=by decide)(O6:([]:List Nat).Nodup:=by decide):Cd.ok P (G mx) (.EM 69 [.ptr u0 0] (Iz eT eD yR) [(u0,.cells (Qu p))] [] [(u0,.cells (Qu p))] []) :=
 G7 (M:=[.cells (Qu p)]) (M2:=[.cells (Qu p)]) (T:=[]) (T2:=[]) (k:=1) (j:=0) Hd.Ab _ _ _ _ hS rfl rfl rfl rfl rfl O5 O6 rfl rfl (.cons (.cells (.pl (CI.pl p))) .nil) (.cons (.cells (.pl (CI.pl p))) .nil) (.cons (.ptr (by decide)) .nil) (LB (enc:=λyV=>.agg (Ii yV)) (encd:=λdV=>.ifc 45 (.agg (O3 dV))) (λyV=>(DZ.CS yV)) (λdV=>(Ch.CS dV)) yR) (λe he=>by simp only[List.mem_singleton] at he;subst he;exact(.arg (.here .ptr)))
def Ao{p:Pr}{yR:(Tk⊕Dg)}(h:AD  p=some yR):Sound P (G mx) (.call 69 [.ptr 0 0] (pZ p) (Iz eT eD yR) (pZ p)):=by
 unfold AD at h;refine BW Hd.mixed (Ay Tryz.func69 b69 ?_);revert h;refine Ak (λBp=>?_) λBp=>?_;rintro⟨⟩;exact BJ Hd.Ab _ [⟨.ifc 45 (.agg [.zi 72,.zi p.Dy]),.ifc 45 (.agg [.zi 72,.zi p.Dy]),(.plain (Ch.CS (⟨72,p.Dy⟩:Dg)))⟩] [bp (CI.pl p)] (Ae 300 [pb Bp,An (As (Am (p:=p) (err:=72) (at_:=p.Dy) rfl) 0)]) (by kernel_rfl) .body;refine AA λx1 uR=>?_;rintro⟨⟩;exact Au Hd.Ab _ _ [⟨.agg (Ii x1),.agg (Ii x1),(.plain (DZ.CS x1))⟩] [bp (CI.pl p)] (Ae 300 [pb Bp,kR,IE (acI .lost uR)]) (by kernel_rfl) .body
def aDT:Code:=Bj Tryz.f143
def aFG:Tryz.f143.body=some aDT:=by kernel_rfl
def Hv(word:ByteArray):Option Bool:=cond (BY word.data.toList Sk.data.toList) (some true) (cond (BY word.data.toList N9.data.toList) (some true) (cond (BY word.data.toList Hq.data.toList) (some true) (cond (BY word.data.toList aaM.data.toList) (some true) (cond (BY word.data.toList rF.data.toList) (some true) (cond (BY word.data.toList pI.data.toList) (some true) (cond (BY word.data.toList toS.data.toList) (some true) (cond (BY word.data.toList US.data.toList) (some true) (cond (BY word.data.toList Z2.data.toList) (some true) (cond (BY word.data.toList RM.data.toList) (some true) (cond (BY word.data.toList PH.data.toList) (some true) (cond (BY word.data.toList GH.data.toList) (some true) (cond (BY word.data.toList Ep.data.toList) (some true) (cond (BY word.data.toList Je.data.toList) (some true) (cond (BY word.data.toList alK.data.toList) (some true) (cond (BY word.data.toList Si.data.toList) (some true) (cond (BY word.data.toList Ls.data.toList) (some true) (cond (BY word.data.toList OA.data.toList) (some true) (cond (BY word.data.toList Sw.data.toList) (some true) (cond (BY word.data.toList gW.data.toList) (some true) (cond (BY word.data.toList OY.data.toList) (some true) (cond (BY word.data.toList T5.data.toList) (some true) (cond (BY word.data.toList eE.data.toList) (some true) (cond (BY word.data.toList Yj.data.toList) (some true) (cond (BY word.data.toList SN.data.toList) (some true) (cond (BY word.data.toList aD.data.toList) (some true) (cond (BY word.data.toList K0.data.toList) (some true) (cond (BY word.data.toList aL.data.toList) (some true) (cond (BY word.data.toList PW.data.toList) (some true) (cond (BY word.data.toList UB.data.toList) (some true) (cond (BY word.data.toList Kc.data.toList) (some true) (cond (BY word.data.toList Fx.data.toList) (some true) (cond (BY word.data.toList Qc.data.toList) (some true) (some false)))))))))))))))))))))))))))))))))
def IT{word:ByteArray}{yR:Bool}(h:Hv  word=some yR):Pure P (G mx) 143 [.zs word] (.zb yR):=by
 unfold Hv at h;refine D2 Hd.mixed Hd.Ab (Ay Tryz.func143 aFG ?_) (BE rfl rfl) rfl;revert h;refine Ak (λBp=>?_) λBp=>?_;rintro⟨⟩;exact rT [pb Bp];let o1:List (PC P (G mx)):=[pb Bp];refine Ak (λhb2=>?_) λhb2=>?_;rintro⟨⟩;exact rT (o1++[pb hb2]);let o2:List (PC P (G mx)):=o1++[pb hb2];refine Ak (λhb3=>?_) λhb3=>?_;rintro⟨⟩;exact rT (o2++[pb hb3]);let o3:List (PC P (G mx)):=o2++[pb hb3];refine Ak (λF3=>?_) λF3=>?_;rintro⟨⟩;exact rT (o3++[pb F3]);let o4:List (PC P (G mx)):=o3++[pb F3];refine Ak (λIP=>?_) λIP=>?_;rintro⟨⟩;exact rT (o4++[pb IP]);let o5:List (PC P (G mx)):=o4++[pb IP];refine Ak (λJa=>?_) λJa=>?_;rintro⟨⟩;exact rT (o5++[pb Ja]);let o6:List (PC P (G mx)):=o5++[pb Ja];refine Ak (λJI=>?_) λJI=>?_;rintro⟨⟩;exact rT (o6++[pb JI]);let o7:List (PC P (G mx)):=o6++[pb JI];refine Ak (λLd=>?_) λLd=>?_;rintro⟨⟩;exact rT (o7++[pb Ld]);let o8:List (PC P (G mx)):=o7++[pb Ld];refine Ak (λKa=>?_) λKa=>?_;rintro⟨⟩;exact rT (o8++[pb Ka]);let o9:List (PC P (G mx)):=o8++[pb Ka];refine Ak (λG8=>?_) λG8=>?_;rintro⟨⟩;exact rT (o9++[pb G8]);let qV:List (PC P (G mx)):=o9++[pb G8];refine Ak (λJH=>?_) λJH=>?_;rintro⟨⟩;exact rT (qV++[pb JH]);let o11:List (PC P (G mx)):=qV++[pb JH];refine Ak (λLc=>?_) λLc=>?_;rintro⟨⟩;exact rT (o11++[pb Lc]);let o12:List (PC P (G mx)):=o11++[pb Lc];refine Ak (λNa=>?_) λNa=>?_;rintro⟨⟩;exact rT (o12++[pb Na]);let nC:List (PC P (G mx)):=o12++[pb Na];refine Ak (λNb=>?_) λNb=>?_;rintro⟨⟩;exact rT (nC++[pb Nb]);let xI:List (PC P (G mx)):=nC++[pb Nb];refine Ak (λO4=>?_) λO4=>?_;rintro⟨⟩;exact rT (xI++[pb O4]);let xJ:List (PC P (G mx)):=xI++[pb O4];refine Ak (λSP=>?_) λSP=>?_;rintro⟨⟩;exact rT (xJ++[pb SP]);let vF:List (PC P (G mx)):=xJ++[pb SP];refine Ak (λTU=>?_) λTU=>?_;rintro⟨⟩;exact rT (vF++[pb TU]);let o17:List (PC P (G mx)):=vF++[pb TU];refine Ak (λVT=>?_) λVT=>?_;rintro⟨⟩;exact rT (o17++[pb VT]);let o18:List (PC P (G mx)):=o17++[pb VT];refine Ak (λlT=>?_) λlT=>?_;rintro⟨⟩;exact rT (o18++[pb lT]);let o19:List (PC P (G mx)):=o18++[pb lT];refine Ak (λlU=>?_) λlU=>?_;rintro⟨⟩;exact rT (o19++[pb lU]);let o20:List (PC P (G mx)):=o19++[pb lU];refine Ak (λlV=>?_) λlV=>?_;rintro⟨⟩;exact rT (o20++[pb lV]);let o21:List (PC P (G mx)):=o20++[pb lV];refine Ak (λlW=>?_) λlW=>?_;rintro⟨⟩;exact rT (o21++[pb lW]);let o22:List (PC P (G mx)):=o21++[pb lW];refine Ak (λlX=>?_) λlX=>?_;rintro⟨⟩;exact rT (o22++[pb lX]);let o23:List (PC P (G mx)):=o22++[pb lX];refine Ak (λauD=>?_) λauD=>?_;rintro⟨⟩;exact rT (o23++[pb auD]);let o24:List (PC P (G mx)):=o23++[pb auD];refine Ak (λakI=>?_) λakI=>?_;rintro⟨⟩;exact rT (o24++[pb akI]);refine Ak (λauE=>?_) λauE=>?_;rintro⟨⟩;exact rT (o24++[pb akI,pb auE]);let o25:List (PC P (G mx)):=o24++[pb akI,pb auE];refine Ak (λakJ=>?_) λakJ=>?_;rintro⟨⟩;exact rT (o25++[pb akJ]);refine Ak (λauF=>?_) λauF=>?_;rintro⟨⟩;exact rT (o25++[pb akJ,pb auF]);let o26:List (PC P (G mx)):=o25++[pb akJ,pb auF];refine Ak (λlY=>?_) λlY=>?_;rintro⟨⟩;exact rT (o26++[pb lY]);refine Ak (λuK=>?_) λuK=>?_;rintro⟨⟩;exact rT (o26++[pb lY,pb uK]);refine Ak (λabK=>?_) λabK=>?_;rintro⟨⟩;exact rT (o26++[pb lY,pb uK,pb abK]);refine Ak (λakK=>?_) λakK=>?_;rintro⟨⟩;exact rT (o26++[pb lY,pb uK,pb abK,pb akK]);refine Ak (λauG=>?_) λauG=>?_;rintro⟨⟩;exact rT (o26++[pb lY,pb uK,pb abK,pb akK,pb auG]);rintro⟨⟩;exact rT (o26++[pb lY,pb uK,pb abK,pb akK,pb auG])
def aDJ:Code:=Bj Tryz.f119
def aEU:Tryz.f119.body=some aDJ:=by kernel_rfl
def Cr(token:Tk):Option Bool:=cond (DV token.kind 1) ((Hv token.text).bind λy1=>cond y1 (some false) (some true)) (some false)
def Nt{token:Tk}{yR:Bool}(h:Cr  token=some yR):Pure P (G mx) 119 [.agg (Ii token)] (.zb yR):=by
 unfold Cr at h;refine D2 Hd.mixed Hd.Ab (Ay Tryz.func119 aEU ?_) (BE (DZ.CS token) rfl) rfl;revert h;refine Ak (λBp=>?_) λBp=>?_;refine AA λy1 Cg=>?_;refine Ak (λhv=>?_) λhv=>?_;subst hv;rintro⟨⟩;exact rT [pb Bp,Be (IT Cg)];subst hv;rintro⟨⟩;exact rT [pb Bp,Be (IT Cg)];rintro⟨⟩;exact rT [pb Bp]
def aDW:Code:=Bj Tryz.f154
def aFJ:Tryz.f154.body=some aDW:=by kernel_rfl
def Dl(token:Tk)(a1:ByteArray):Option Bool:=cond (BY token.text.data.toList a1.data.toList) (some true) (some false)
def OL{token:Tk}{a1:ByteArray}{yR:Bool}(hS:Sound P (G mx) (.call 154 [.agg (Ii token),.ptr 0 0] ⟨[(0,.cells [.zs a1])],1,[],0⟩ (.ret (.zb yR)) ⟨[(0,.cells [.zs a1])],1,[],0⟩))(u0:Nat)(O5:([u0]:List Nat).Nodup:=by decide)(O6:([]:List Nat).Nodup:=by decide):Cd.ok P (G mx) (.EM 154 [.agg (Ii token),.ptr u0 0] (.ret (.zb yR)) [(u0,.cells [.zs a1])] [] [(u0,.cells [.zs a1])] []) :=
 G7 (M:=[.cells [.zs a1]]) (M2:=[.cells [.zs a1]]) (T:=[]) (T2:=[]) (k:=1) (j:=0) Hd.Ab _ _ _ _ hS rfl rfl rfl rfl rfl O5 O6 rfl rfl (.cons (.cells (.pl (BE rfl rfl))) .nil) (.cons (.cells (.pl (BE rfl rfl))) .nil) (.cons (.pl (DZ.CS token)) (.cons (.ptr (by decide)) .nil)) (.pl rfl) (λe he=>by simp only[List.mem_singleton] at he;subst he;exact(.arg (.there (.here .ptr))))
def MG{token:Tk}{a1:ByteArray}{yR:Bool}(h:Dl  token a1=some yR):Sound P (G mx) (.call 154 [.agg (Ii token),.ptr 0 0] ⟨[(0,.cells [.zs a1])],1,[],0⟩ (.ret (.zb yR)) ⟨[(0,.cells [.zs a1])],1,[],0⟩):=by
 unfold Dl at h;refine BW Hd.mixed (Ay Tryz.func154 aFJ ?_);revert h;refine Ak (λBp=>?_) λBp=>?_;rintro⟨⟩;exact Au Hd.Ab _ _ [] [none] (Ae 300 [pb Bp]) (by kernel_rfl) .body;rintro⟨⟩;exact Au Hd.Ab _ _ [] [none] (Ae 300 [pb Bp]) (by kernel_rfl) .body
def aDI:Code:=Bj Tryz.f118
def aF:Tryz.f118.body=some aDI:=by kernel_rfl
def F4(p:Pr)(fits:ByteArray):Option ((Tk⊕Dg)×Int):=(AD p).bind λy1=>Sum.elim (λ(CE:Tk)=>(Dl CE fits).bind λy2=>cond y2 (some ((Sum.inl CE:(Tk⊕Dg)),(BQ p.Jr 1))) (some ((Sum.inr (⟨71,CE.AF⟩:Dg):(Tk⊕Dg)),p.Jr))) (λ(K5:Dg)=>some ((Sum.inr K5:(Tk⊕Dg)),p.Jr)) y1
def KT{p:Pr}{fits:ByteArray}{yR:(Tk⊕Dg)}{Ah:Int}(hS:Sound P (G mx) (.call 118 [.ptr 0 0,.fn (.func 154) [] [.ptr 1 0]] ⟨[(1,.cells [.zs fits]),(0,.cells (Qu p))],2,[],0⟩ (Iz eT eD yR) ⟨[(1,.cells [.zs fits]),(0,.cells (pC p Ah))],2,[],0⟩))(u0 u1:Nat)(O5:([u0,u1]:List Nat).Nodup:=by decide)(O6:([]:List Nat).Nodup:=by decide):Cd.ok P (G mx) (.EM 118 [.ptr u0 0,.fn (.func 154) [] [.ptr u1 0]] (Iz eT eD yR) [(u0,.cells (Qu p)),(u1,.cells [.zs fits])] [] [(u0,.cells (pC p Ah)),(u1,.cells [.zs fits])] []) :=
 G7 (M:=[.cells (Qu p),.cells [.zs fits]]) (M2:=[.cells (pC p Ah),.cells [.zs fits]]) (T:=[]) (T2:=[]) (k:=2) (j:=0) Hd.Ab _ _ _ _ hS rfl rfl rfl rfl rfl O5 O6 rfl rfl (.cons (.cells (.pl (CI.pl p))) (.cons (.cells (.pl (BE rfl rfl))) .nil)) (.cons (.cells (.pl (BE (DZ.Kr p.Bq) (BE rfl (BE rfl rfl))))) (.cons (.cells (.pl (BE rfl rfl))) .nil)) (.cons (.ptr (by decide)) (.cons (.fn (.pl rfl) (.cons (.ptr (by decide)) .nil)) .nil)) (LB (enc:=λyV=>.agg (Ii yV)) (encd:=λdV=>.ifc 45 (.agg (O3 dV))) (λyV=>(DZ.CS yV)) (λdV=>(Ch.CS dV)) yR) (by
   intro e he;simp only[List.mem_cons,List.not_mem_nil,or_false] at he;rcases he with rfl | rfl
   exact(.arg (.here .ptr));exact(.arg (.there (.here (.fn2 (.here .ptr)))))
   )
def JE{p:Pr}{fits:ByteArray}{yR:(Tk⊕Dg)}{Ah:Int}(h:F4  p fits=some (yR,Ah)):Sound P (G mx) (.call 118 [.ptr 0 0,.fn (.func 154) [] [.ptr 1 0]] ⟨[(1,.cells [.zs fits]),(0,.cells (Qu p))],2,[],0⟩ (Iz eT eD yR) ⟨[(1,.cells [.zs fits]),(0,.cells (pC p Ah))],2,[],0⟩):=by
 unfold F4 at h;refine BW Hd.mixed (Ay Tryz.func118 aF ?_);revert h;refine AA λy1 Cg=>?_;refine R7 (λCE La=>?_) λK5 La=>?_;subst La;refine AA λy2 Ej=>?_;let o1:List (PC P (G mx)):=[Af (Av (Ao Cg) 0),Af (OL (MG Ej) 1)];refine Ak (λhv=>?_) λhv=>?_;subst hv;rintro⟨⟩;exact Au Hd.Ab _ _ [⟨.agg (Ii CE),.agg (Ii CE),(.plain (DZ.CS CE))⟩] [none,pW p (BQ p.Jr 1)] (Ae 300 (o1++[pk])) (by kernel_rfl) .body;subst hv;rintro⟨⟩;exact BJ Hd.Ab _ [⟨.ifc 45 (.agg [.zi 71,.zi CE.AF]),.ifc 45 (.agg [.zi 71,.zi CE.AF]),(.plain (Ch.CS (⟨71,CE.AF⟩:Dg)))⟩] [none,bp (CI.pl p)] (Ae 300 (o1++[An (As (Am (p:=p) (err:=71) (at_:=CE.AF) rfl) 0)])) (by kernel_rfl) .body;subst La;rintro⟨⟩;exact BJ Hd.Ab _ [gD K5] [none,bp (CI.pl p)] (Ae 300 [An (Av (Ao Cg) 0)]) (by kernel_rfl) .body
def aDK:Code:=Bj Tryz.f120
def aEV:Tryz.f120.body=some aDK:=by kernel_rfl
def Aj(p:Pr)(text:ByteArray):Option ((Tk⊕Dg)×Int):=(F4 p text).bind λ(Ed,Bh)=>Sum.elim (λ(Aw:Tk)=>some ((Sum.inl Aw:(Tk⊕Dg)),Bh)) (λ(CM:Dg)=>some ((Sum.inr CM:(Tk⊕Dg)),Bh)) Ed
def Aa{p:Pr}{text:ByteArray}{yR:(Tk⊕Dg)}{Ah:Int}(h:Aj  p text=some (yR,Ah)):pR mx 120 [.ptr 0 0,.zs text] p (Iz eT eD yR) Ah:=by
 unfold Aj at h;refine BW Hd.mixed (Ay Tryz.func120 aEV ?_);revert h;refine BP (λAw Bh Cg=>?_) λCM Bh Cg=>?_;refine Eg ?_;rintro rfl rfl;exact Au Hd.Ab _ _ [⟨.agg (Ii Aw),.agg (Ii Aw),(.plain (DZ.CS Aw))⟩] [pW p Bh] (Ae 300 [Af (KT (JE Cg) 0 1)]) (by kernel_rfl) .body;refine Eg ?_;rintro rfl rfl;exact Hk CM p Bh [An (KT (JE Cg) 0 1)] .body
def aDL:Code:=Bj Tryz.f121
def aEW:Tryz.f121.body=some aDL:=by kernel_rfl
def EQ(token:Tk):Option Bool:=cond (BY token.text.data.toList GH.data.toList) (some true) (cond (BY token.text.data.toList Ep.data.toList) (some true) (cond (BY token.text.data.toList Je.data.toList) (some true) (cond (DV token.kind 2) (some true) (some false))))
def S2{token:Tk}{yR:Bool}(h:EQ  token=some yR):Pure P (G mx) 121 [.agg (Ii token)] (.zb yR):=by
 unfold EQ at h;refine D2 Hd.mixed Hd.Ab (Ay Tryz.func121 aEW ?_) (BE (DZ.CS token) rfl) rfl;revert h;refine Ak (λBp=>?_) λBp=>?_;rintro⟨⟩;exact rT [pb Bp];refine Ak (λhb2=>?_) λhb2=>?_;rintro⟨⟩;exact rT [pb Bp,pb hb2];refine Ak (λhb3=>?_) λhb3=>?_;rintro⟨⟩;exact rT [pb Bp,pb hb2,pb hb3];refine Ak (λF3=>?_) λF3=>?_;rintro⟨⟩;exact rT [pb Bp,pb hb2,pb hb3,pb F3];rintro⟨⟩;exact rT [pb Bp,pb hb2,pb hb3,pb F3]
def asO:Code:=Bj Tryz.f122
def aEX:Tryz.f122.body=some asO:=by kernel_rfl
def Ef(word:ByteArray):Option Int:=cond (BY Si.data.toList word.data.toList) (some 1) (cond (BY Ls.data.toList word.data.toList) (some 2) (cond (BY OA.data.toList word.data.toList) (some 3) (cond (BY Sw.data.toList word.data.toList) (some 4) (some 0))))
def Ke{word:ByteArray}{yR:Int}(h:Ef  word=some yR):Pure P (G mx) 122 [.zs word] (.zi yR):=by
 unfold Ef at h;refine D2 Hd.mixed Hd.Ab (Ay Tryz.func122 aEX ?_) (BE rfl rfl) rfl;revert h;refine Dm (IA (fr2:=fr 19 [(0,.zs word),(5,.agg [.zs ByteArray.empty,.zs Si,.zs Ls,.zs OA,.zs Sw]),(6,.zi 0)] [] []) (s2:=⟨[],0,[],0⟩) [] 0 (sb asO 52) [.code (sb asO 7)] (Ae 300 []) (by kernel_rfl)) ?_;refine Dm (D8 (fr2:=fr 19 [(0,.zs word),(5,.agg [.zs ByteArray.empty,.zs Si,.zs Ls,.zs OA,.zs Sw]),(6,.zi 1),(7,.zb true),(11,.zb false),(12,.zb false),(16,.zb false)] [] []) (s2:=⟨[],0,[],0⟩) [] (Ae 300 [pk,pk,pk,pk]) (by kernel_rfl)) ?_;refine Ak (λBp=>?_) λBp=>?_;rintro⟨⟩;exact Bc _ _ (Ae 300 [pk,pk,pk,pb Bp]) (by kernel_rfl) (.GB (.outer .body)) .sc;refine Dm (D8 (fr2:=fr 19 [(0,.zs word),(5,.agg [.zs ByteArray.empty,.zs Si,.zs Ls,.zs OA,.zs Sw]),(6,.zi 2),(7,.zb true),(11,.zb true),(12,.zb true),(15,.zb false),(16,.zb false)] [] []) (s2:=⟨[],0,[],0⟩) [] (Ae 300 [pk,pk,pk,pb Bp,pk]) (by kernel_rfl)) ?_;refine Ak (λhb2=>?_) λhb2=>?_;rintro⟨⟩;exact Bc _ _ (Ae 300 [pk,pk,pk,pb hb2]) (by kernel_rfl) (.GB (.outer .body)) .sc;refine Dm (D8 (fr2:=fr 19 [(0,.zs word),(5,.agg [.zs ByteArray.empty,.zs Si,.zs Ls,.zs OA,.zs Sw]),(6,.zi 3),(7,.zb true),(11,.zb true),(12,.zb true),(15,.zb false),(16,.zb false)] [] []) (s2:=⟨[],0,[],0⟩) [] (Ae 300 [pk,pk,pk,pb hb2,pk]) (by kernel_rfl)) ?_;refine Ak (λhb3=>?_) λhb3=>?_;rintro⟨⟩;exact Bc _ _ (Ae 300 [pk,pk,pk,pb hb3]) (by kernel_rfl) (.GB (.outer .body)) .sc;refine Dm (D8 (fr2:=fr 19 [(0,.zs word),(5,.agg [.zs ByteArray.empty,.zs Si,.zs Ls,.zs OA,.zs Sw]),(6,.zi 4),(7,.zb true),(11,.zb true),(12,.zb true),(15,.zb false),(16,.zb false)] [] []) (s2:=⟨[],0,[],0⟩) [] (Ae 300 [pk,pk,pk,pb hb3,pk]) (by kernel_rfl)) ?_;refine Ak (λF3=>?_) λF3=>?_;rintro⟨⟩;exact Bc _ _ (Ae 300 [pk,pk,pk,pb F3]) (by kernel_rfl) (.GB (.outer .body)) .sc;refine Dm (D8 (fr2:=fr 19 [(0,.zs word),(5,.agg [.zs ByteArray.empty,.zs Si,.zs Ls,.zs OA,.zs Sw]),(6,.zi 5),(7,.zb true),(11,.zb true),(12,.zb true),(15,.zb false),(16,.zb false)] [] []) (s2:=⟨[],0,[],0⟩) [] (Ae 300 [pk,pk,pk,pb F3,pk]) (by kernel_rfl)) ?_;refine bC (Fi (id:=0) (fr2:=fr 19 [(7,.zb false),(11,.zb true),(12,.zb true),(15,.zb false),(16,.zb false)] [] []) (s2:=⟨[],0,[],0⟩) (Ae 300 [pk]) (by kernel_rfl)) ?_;rintro⟨⟩;exact Bc _ _ (cH 300 []) (by kernel_rfl) .body .sc
def aDM:Code:=Bj Tryz.f123
def aEY:Tryz.f123.body=some aDM:=by kernel_rfl
def BS(token:Tk):Option Bool:=(Ef token.text).bind λy1=>cond (EK 0 y1) (some true) (some false)
def KS{token:Tk}{yR:Bool}(h:BS  token=some yR):Pure P (G mx) 123 [.agg (Ii token)] (.zb yR):=by
 unfold BS at h;refine D2 Hd.mixed Hd.Ab (Ay Tryz.func123 aEY ?_) (BE (DZ.CS token) rfl) rfl;revert h;refine AA λy1 Cg=>?_;refine Ak (λBp=>?_) λBp=>?_;rintro⟨⟩;exact rT [Be (Ke Cg),pb Bp];rintro⟨⟩;exact rT [Be (Ke Cg),pb Bp]
def Dr(p:Pr):Option ((Tk⊕Dg)×Int):=(AD p).bind λy1=>Sum.elim (λ(CE:Tk)=>(Cr CE).bind λy2=>cond y2 (some ((Sum.inl CE:(Tk⊕Dg)),(BQ p.Jr 1))) (some ((Sum.inr (⟨71,CE.AF⟩:Dg):(Tk⊕Dg)),p.Jr))) (λ(K5:Dg)=>some ((Sum.inr K5:(Tk⊕Dg)),p.Jr)) y1
def DS{p:Pr}{yR:(Tk⊕Dg)}{Ah:Int}(h:Dr  p=some (yR,Ah)):pR mx 118 [.ptr 0 0,.fn (.func 119) [] []] p (Iz eT eD yR) Ah:=by
 unfold Dr at h;refine BW Hd.mixed (Ay Tryz.func118 aF ?_);revert h;refine AA λy1 Cg=>?_;refine R7 (λCE La=>?_) λK5 La=>?_;subst La;refine AA λy2 Ej=>?_;let o1:List (PC P (G mx)):=[Af (Av (Ao Cg) 0),Be (Nt Ej)];refine Ak (λhv=>?_) λhv=>?_;subst hv;rintro⟨⟩;exact Au Hd.Ab _ _ [⟨.agg (Ii CE),.agg (Ii CE),(.plain (DZ.CS CE))⟩] [pW p (BQ p.Jr 1)] (Ae 300 (o1++[pk])) (by kernel_rfl) .body;subst hv;rintro⟨⟩;exact BJ Hd.Ab _ [⟨.ifc 45 (.agg [.zi 71,.zi CE.AF]),.ifc 45 (.agg [.zi 71,.zi CE.AF]),(.plain (Ch.CS (⟨71,CE.AF⟩:Dg)))⟩] [bp (CI.pl p)] (Ae 300 (o1++[An (As (Am (p:=p) (err:=71) (at_:=CE.AF) rfl) 0)])) (by kernel_rfl) .body;subst La;rintro⟨⟩;exact BJ Hd.Ab _ [gD K5] [bp (CI.pl p)] (Ae 300 [An (Av (Ao Cg) 0)]) (by kernel_rfl) .body
def Et(p:Pr):Option ((Tk⊕Dg)×Int):=(AD p).bind λy1=>Sum.elim (λ(CE:Tk)=>(EQ CE).bind λy2=>cond y2 (some ((Sum.inl CE:(Tk⊕Dg)),(BQ p.Jr 1))) (some ((Sum.inr (⟨71,CE.AF⟩:Dg):(Tk⊕Dg)),p.Jr))) (λ(K5:Dg)=>some ((Sum.inr K5:(Tk⊕Dg)),p.Jr)) y1
def Hx{p:Pr}{yR:(Tk⊕Dg)}{Ah:Int}(h:Et  p=some (yR,Ah)):pR mx 118 [.ptr 0 0,.fn (.func 121) [] []] p (Iz eT eD yR) Ah:=by
 unfold Et at h;refine BW Hd.mixed (Ay Tryz.func118 aF ?_);revert h;refine AA λy1 Cg=>?_;refine R7 (λCE La=>?_) λK5 La=>?_;subst La;refine AA λy2 Ej=>?_;let o1:List (PC P (G mx)):=[Af (Av (Ao Cg) 0),Be (S2 Ej)];refine Ak (λhv=>?_) λhv=>?_;subst hv;rintro⟨⟩;exact Au Hd.Ab _ _ [⟨.agg (Ii CE),.agg (Ii CE),(.plain (DZ.CS CE))⟩] [pW p (BQ p.Jr 1)] (Ae 300 (o1++[pk])) (by kernel_rfl) .body;subst hv;rintro⟨⟩;exact BJ Hd.Ab _ [⟨.ifc 45 (.agg [.zi 71,.zi CE.AF]),.ifc 45 (.agg [.zi 71,.zi CE.AF]),(.plain (Ch.CS (⟨71,CE.AF⟩:Dg)))⟩] [bp (CI.pl p)] (Ae 300 (o1++[An (As (Am (p:=p) (err:=71) (at_:=CE.AF) rfl) 0)])) (by kernel_rfl) .body;subst La;rintro⟨⟩;exact BJ Hd.Ab _ [gD K5] [bp (CI.pl p)] (Ae 300 [An (Av (Ao Cg) 0)]) (by kernel_rfl) .body
def FM(p:Pr):Option ((Tk⊕Dg)×Int):=(AD p).bind λy1=>Sum.elim (λ(CE:Tk)=>(BS CE).bind λy2=>cond y2 (some ((Sum.inl CE:(Tk⊕Dg)),(BQ p.Jr 1))) (some ((Sum.inr (⟨71,CE.AF⟩:Dg):(Tk⊕Dg)),p.Jr))) (λ(K5:Dg)=>some ((Sum.inr K5:(Tk⊕Dg)),p.Jr)) y1
def Ji{p:Pr}{yR:(Tk⊕Dg)}{Ah:Int}(h:FM  p=some (yR,Ah)):pR mx 118 [.ptr 0 0,.fn (.func 123) [] []] p (Iz eT eD yR) Ah:=by
 unfold FM at h;refine BW Hd.mixed (Ay Tryz.func118 aF ?_);revert h;refine AA λy1 Cg=>?_;refine R7 (λCE La=>?_) λK5 La=>?_;subst La;refine AA λy2 Ej=>?_;let o1:List (PC P (G mx)):=[Af (Av (Ao Cg) 0),Be (KS Ej)];refine Ak (λhv=>?_) λhv=>?_;subst hv;rintro⟨⟩;exact Au Hd.Ab _ _ [⟨.agg (Ii CE),.agg (Ii CE),(.plain (DZ.CS CE))⟩] [pW p (BQ p.Jr 1)] (Ae 300 (o1++[pk])) (by kernel_rfl) .body;subst hv;rintro⟨⟩;exact BJ Hd.Ab _ [⟨.ifc 45 (.agg [.zi 71,.zi CE.AF]),.ifc 45 (.agg [.zi 71,.zi CE.AF]),(.plain (Ch.CS (⟨71,CE.AF⟩:Dg)))⟩] [bp (CI.pl p)] (Ae 300 (o1++[An (As (Am (p:=p) (err:=71) (at_:=CE.AF) rfl) 0)])) (by kernel_rfl) .body;subst La;rintro⟨⟩;exact BJ Hd.Ab _ [gD K5] [bp (CI.pl p)] (Ae 300 [An (Av (Ao Cg) 0)]) (by kernel_rfl) .body
def B70:Code:=Bj Tryz.f70
def b70:Tryz.f70.body=some B70:=by kernel_rfl
def Dq(p:Pr):Option ((Nd⊕Dg)×Int):=(AD p).bind λy1=>Sum.elim (λ(CE:Tk)=>(Dr (⟨p.Bq,(BQ p.Jr 1),p.Dy⟩:Pr)).bind λ(IX,Eu)=>Sum.elim (λ(CT:Tk)=>(Aj (⟨p.Bq,Eu,p.Dy⟩:Pr) iD).bind λ(Py,E5)=>Sum.elim (λ(CG:Tk)=>(Et (⟨p.Bq,E5,p.Dy⟩:Pr)).bind λ(Vk,I1)=>Sum.elim (λ(C8:Tk)=>cond (BY CE.text.data.toList N9.data.toList) ((FM (⟨p.Bq,I1,p.Dy⟩:Pr)).bind λ(Tw,Hj)=>Sum.elim (λ(H7:Tk)=>(Ef H7.text).bind λy6=>(Aj (⟨p.Bq,Hj,p.Dy⟩:Pr) V1).bind λ(y7a,RS)=>Sum.elim (λ(UA:Tk)=>some ((Sum.inl (⟨3,CT.text,C8.text,y6,0,0,0,(⟨0,[]⟩:Fn),[],CE.AF⟩:Nd):(Nd⊕Dg)),RS)) (λ(OQ:Dg)=>some ((Sum.inr OQ:(Nd⊕Dg)),RS)) y7a) (λ(GJ:Dg)=>some ((Sum.inr GJ:(Nd⊕Dg)),Hj)) Tw) ((Aj (⟨p.Bq,I1,p.Dy⟩:Pr) V1).bind λ(Yz,K2)=>Sum.elim (λ(GC:Tk)=>some ((Sum.inl (⟨2,CT.text,C8.text,0,0,0,0,(⟨0,[]⟩:Fn),[],CE.AF⟩:Nd):(Nd⊕Dg)),K2)) (λ(K1:Dg)=>some ((Sum.inr K1:(Nd⊕Dg)),K2)) Yz)) (λ(H6:Dg)=>some ((Sum.inr H6:(Nd⊕Dg)),I1)) Vk) (λ(Ei:Dg)=>some ((Sum.inr Ei:(Nd⊕Dg)),E5)) Py) (λ(GI:Dg)=>some ((Sum.inr GI:(Nd⊕Dg)),Eu)) IX) (λ(K5:Dg)=>some ((Sum.inr K5:(Nd⊕Dg)),p.Jr)) y1
def DQ{p:Pr}{yR:(Nd⊕Dg)}{Ah:Int}(h:Dq  p=some (yR,Ah)):pR mx 70 [.ptr 0 0] p (Iz eN eD yR) Ah:=by
 unfold Dq at h;refine BW Hd.mixed (Ay Tryz.func70 b70 ?_);revert h;refine AA λy1 Cg=>?_;refine R7 (λCE La=>?_) λK5 La=>?_;subst La;let o1:List (PC P (G mx)):=[Af (Av (Ao Cg) 0),pk];refine BP (λCT Eu Ej=>?_) λGI Eu Ej=>?_;let o2:List (PC P (G mx)):=o1++[Af (Hp (DS Ej) 0)];refine BP (λCG E5 Gj=>?_) λEi E5 Gj=>?_;let o3:List (PC P (G mx)):=o2++[Af (Hp (Aa Gj) 0)];refine BP (λC8 I1 JK=>?_) λH6 I1 JK=>?_;let o4:List (PC P (G mx)):=o3++[Af (Hp (Hx JK) 0)];refine Ak (λBp=>?_) λBp=>?_;refine BP (λH7 Hj JR=>?_) λGJ Hj JR=>?_;refine AA λy6 Mz=>?_;let o5:List (PC P (G mx)):=o4++[pb Bp,Af (Hp (Ji JR) 0),Be (Ke Mz)];refine BP (λUA RS RF=>?_) λOQ RS RF=>?_;refine Eg ?_;rintro rfl rfl;exact Au Hd.Ab _ _ [⟨.agg [.zi 3,.zs CT.text,.zs C8.text,.zi y6,.zi 0,.zi 0,.zi 0,.zi 0,.sl .full 0 [],.sl .full 0 [],.zi CE.AF],.agg [.zi 3,.zs CT.text,.zs C8.text,.zi y6,.zi 0,.zi 0,.zi 0,.zi 0,.sl .lost ([].length) (rows Hz []),.sl .lost ([].length) (Bd []),.zi CE.AF],(.wn (.g (.r (.r (.r (.r (.r (.r (.r (.r (.z (.z (.r .nil))))))))))) .nil) (AB.CS (⟨3,CT.text,C8.text,y6,0,0,0,(⟨0,[]⟩:Fn),[],CE.AF⟩:Nd)))⟩] [pW p RS] (Ae 300 (o5++[Af (Hp (Aa RF) 0)])) (by kernel_rfl) .body;refine Eg ?_;rintro rfl rfl;exact Hk OQ p RS (o5++[An (Hp (Aa RF) 0)]) .body;refine Eg ?_;rintro rfl rfl;exact Hk GJ p Hj (o4++[pb Bp,An (Hp (Ji JR) 0)]) .body;refine BP (λGC K2 N6=>?_) λK1 K2 N6=>?_;refine Eg ?_;rintro rfl rfl;exact Au Hd.Ab _ _ [⟨.agg [.zi 2,.zs CT.text,.zs C8.text,.zi 0,.zi 0,.zi 0,.zi 0,.zi 0,.sl .full 0 [],.sl .full 0 [],.zi CE.AF],.agg [.zi 2,.zs CT.text,.zs C8.text,.zi 0,.zi 0,.zi 0,.zi 0,.zi 0,.sl .lost ([].length) (rows Hz []),.sl .lost ([].length) (Bd []),.zi CE.AF],(.wn (.g (.r (.r (.r (.r (.r (.r (.r (.r (.z (.z (.r .nil))))))))))) .nil) (AB.CS (⟨2,CT.text,C8.text,0,0,0,0,(⟨0,[]⟩:Fn),[],CE.AF⟩:Nd)))⟩] [pW p K2] (Ae 300 (o4++[pb Bp,Af (Hp (Aa N6) 0)])) (by kernel_rfl) .body;refine Eg ?_;rintro rfl rfl;exact Hk K1 p K2 (o4++[pb Bp,An (Hp (Aa N6) 0)]) .body;refine Eg ?_;rintro rfl rfl;exact Hk H6 p I1 (o3++[An (Hp (Hx JK) 0)]) .body;refine Eg ?_;rintro rfl rfl;exact Hk Ei p E5 (o2++[An (Hp (Aa Gj) 0)]) .body;refine Eg ?_;rintro rfl rfl;exact Hk GI p Eu (o1++[An (Hp (DS Ej) 0)]) .body;subst La;refine Eg ?_;rintro rfl rfl;exact BJ Hd.Ab _ [gD K5] [bp (CI.pl p)] (Ae 300 [An (Av (Ao Cg) 0)]) (by kernel_rfl) .body
def aEC:Code:=Bj Tryz.f172
def aFP:Tryz.f172.body=some aEC:=by kernel_rfl
def Ea(token:Tk):Option Bool:=cond (DV token.kind 3) (some true) (some false)
def MH{token:Tk}{yR:Bool}(h:Ea  token=some yR):Pure P (G mx) 172 [.agg (Ii token)] (.zb yR):=by
 unfold Ea at h;refine D2 Hd.mixed Hd.Ab (Ay Tryz.func172 aFP ?_) (BE (DZ.CS token) rfl) rfl;revert h;refine Ak (λBp=>?_) λBp=>?_;rintro⟨⟩;exact rT [pb Bp];rintro⟨⟩;exact rT [pb Bp]
def Ha(p:Pr):Option ((Tk⊕Dg)×Int):=(AD p).bind λy1=>Sum.elim (λ(CE:Tk)=>(Ea CE).bind λy2=>cond y2 (some ((Sum.inl CE:(Tk⊕Dg)),(BQ p.Jr 1))) (some ((Sum.inr (⟨71,CE.AF⟩:Dg):(Tk⊕Dg)),p.Jr))) (λ(K5:Dg)=>some ((Sum.inr K5:(Tk⊕Dg)),p.Jr)) y1
def IU{p:Pr}{yR:(Tk⊕Dg)}{Ah:Int}(h:Ha  p=some (yR,Ah)):pR mx 118 [.ptr 0 0,.fn (.func 172) [] []] p (Iz eT eD yR) Ah:=by
 unfold Ha at h;refine BW Hd.mixed (Ay Tryz.func118 aF ?_);revert h;refine AA λy1 Cg=>?_;refine R7 (λCE La=>?_) λK5 La=>?_;subst La;refine AA λy2 Ej=>?_;let o1:List (PC P (G mx)):=[Af (Av (Ao Cg) 0),Be (MH Ej)];refine Ak (λhv=>?_) λhv=>?_;subst hv;rintro⟨⟩;exact Au Hd.Ab _ _ [⟨.agg (Ii CE),.agg (Ii CE),(.plain (DZ.CS CE))⟩] [pW p (BQ p.Jr 1)] (Ae 300 (o1++[pk])) (by kernel_rfl) .body;subst hv;rintro⟨⟩;exact BJ Hd.Ab _ [⟨.ifc 45 (.agg [.zi 71,.zi CE.AF]),.ifc 45 (.agg [.zi 71,.zi CE.AF]),(.plain (Ch.CS (⟨71,CE.AF⟩:Dg)))⟩] [bp (CI.pl p)] (Ae 300 (o1++[An (As (Am (p:=p) (err:=71) (at_:=CE.AF) rfl) 0)])) (by kernel_rfl) .body;subst La;rintro⟨⟩;exact BJ Hd.Ab _ [gD K5] [bp (CI.pl p)] (Ae 300 [An (Av (Ao Cg) 0)]) (by kernel_rfl) .body
def aDX:Code:=Bj Tryz.f155
def aFK:Tryz.f155.body=some aDX:=by kernel_rfl
def EA(p:Pr):Option (((Int×Int)⊕Dg)×Int):=(Ha p).bind λ(Ed,Bh)=>Sum.elim (λ(Aw:Tk)=>(QX Aw.text).bind λ(IX,Eu)=>some ((Sum.inl (IX,Aw.AF):((Int×Int)⊕Dg)),Bh)) (λ(CM:Dg)=>some ((Sum.inr CM:((Int×Int)⊕Dg)),Bh)) Ed
def EV{p:Pr}{yR:((Int×Int)⊕Dg)}{Ah:Int}(h:EA  p=some (yR,Ah)):pR mx 155 [.ptr 0 0] p (Iz eJ eD yR) Ah:=by
 unfold EA at h;refine BW Hd.mixed (Ay Tryz.func155 aFK ?_);revert h;refine BP (λAw Bh Cg=>?_) λCM Bh Cg=>?_;refine AA ?_;rintro⟨IX,Eu⟩ Ej;dsimp only;refine Eg ?_;rintro rfl rfl;exact Au Hd.Ab _ _ [⟨.Df [.zi IX,.zi Aw.AF],.Df [.zi IX,.zi Aw.AF],(.plain (BE rfl (BE rfl rfl)))⟩] [pW p Bh] (Ae 300 [Af (Hp (IU Cg) 0),Be (oP Ej)]) (by kernel_rfl) .body;refine Eg ?_;rintro rfl rfl;exact Hk CM p Bh [An (Hp (IU Cg) 0)] .body
def aDN:Code:=Bj Tryz.f124
def aEZ:Tryz.f124.body=some aDN:=by kernel_rfl
def AJ(p:Pr)(least:Int):Option (((Int×Int)⊕Dg)×Int):=(EA p).bind λ(Ed,Bh)=>Sum.elim (λ(Aw:(Int×Int))=>cond (EK Aw.1 least) (some ((Sum.inr (⟨3,Aw.2⟩:Dg):((Int×Int)⊕Dg)),Bh)) (cond (EK 1000000 Aw.1) (some ((Sum.inr (⟨3,Aw.2⟩:Dg):((Int×Int)⊕Dg)),Bh)) (some ((Sum.inl (Aw.1,Aw.2):((Int×Int)⊕Dg)),Bh)))) (λ(CM:Dg)=>some ((Sum.inr CM:((Int×Int)⊕Dg)),Bh)) Ed
def Al{p:Pr}{least:Int}{yR:((Int×Int)⊕Dg)}{Ah:Int}(h:AJ  p least=some (yR,Ah)):pR mx 124 [.ptr 0 0,.zi least] p (Iz eJ eD yR) Ah:=by
 unfold AJ at h;refine BW Hd.mixed (Ay Tryz.func124 aEZ ?_);revert h;refine BP (λAw Bh Cg=>?_) λCM Bh Cg=>?_;let o1:List (PC P (G mx)):=[Af (Mq (EV Cg) 0)];refine Ak (λBp=>?_) λBp=>?_;refine Eg ?_;rintro rfl rfl;exact BJ Hd.Ab _ [⟨.ifc 45 (.agg [.zi 3,.zi Aw.2]),.ifc 45 (.agg [.zi 3,.zi Aw.2]),(.plain (Ch.CS (⟨3,Aw.2⟩:Dg)))⟩] [pW p Bh] (Ae 300 (o1++[pb Bp,An (As (Am (p:=(⟨p.Bq,Bh,p.Dy⟩:Pr)) (err:=3) (at_:=Aw.2) rfl) 0)])) (by kernel_rfl) .body;refine Ak (λhb2=>?_) λhb2=>?_;refine Eg ?_;rintro rfl rfl;exact BJ Hd.Ab _ [⟨.ifc 45 (.agg [.zi 3,.zi Aw.2]),.ifc 45 (.agg [.zi 3,.zi Aw.2]),(.plain (Ch.CS (⟨3,Aw.2⟩:Dg)))⟩] [pW p Bh] (Ae 300 (o1++[pb Bp,pb hb2,An (As (Am (p:=(⟨p.Bq,Bh,p.Dy⟩:Pr)) (err:=3) (at_:=Aw.2) rfl) 0)])) (by kernel_rfl) .body;refine Eg ?_;rintro rfl rfl;exact Au Hd.Ab _ _ [⟨.Df [.zi Aw.1,.zi Aw.2],.Df [.zi Aw.1,.zi Aw.2],(.plain (BE rfl (BE rfl rfl)))⟩] [pW p Bh] (Ae 300 (o1++[pb Bp,pb hb2])) (by kernel_rfl) .body;refine Eg ?_;rintro rfl rfl;exact Hk CM p Bh [An (Mq (EV Cg) 0)] .body
def B37:Code:=Bj Tryz.f37
def b37:Tryz.f37.body=some B37:=by kernel_rfl
def Aq(p:Pr)(text:ByteArray):Option Bool:=cond (EK p.Jr ((p.Bq.length:Nat):Int)) ((L9 p.Bq p.Jr).bind λx1=>(some (BY x1.text.data.toList text.data.toList)).bind λq2=>some q2) (some false)
def Ag{p:Pr}{text:ByteArray}{yR:Bool}(h:Aq  p text=some yR):Sound P (G mx) (.call 37 [.ptr 0 0,.zs text] (pZ p) (.ret (.zb yR)) (pZ p)):=by
 unfold Aq at h;refine BW Hd.mixed (Ay Tryz.func37 b37 ?_);revert h;refine Ak (λBp=>?_) λBp=>?_;refine AA λx1 uR=>?_;refine AA λq2 YD=>?_;rintro⟨⟩;exact Au Hd.Ab _ _ [] [bp (CI.pl p)] (Ae 300 [pb Bp,IE (acI .lost uR),Pk (aDE YD (.tmp 26) (.tmp 27))]) (by kernel_rfl) .body;rintro⟨⟩;exact Au Hd.Ab _ _ [] [bp (CI.pl p)] (Ae 300 [pb Bp]) (by kernel_rfl) .body
def aED:Code:=Bj Tryz.f174
def aFQ:Tryz.f174.body=some aED:=by kernel_rfl
def Ez(token:Tk):Option Bool:=cond (DV token.kind 5) (some true) (some false)
def NV{token:Tk}{yR:Bool}(h:Ez  token=some yR):Pure P (G mx) 174 [.agg (Ii token)] (.zb yR):=by
 unfold Ez at h;refine D2 Hd.mixed Hd.Ab (Ay Tryz.func174 aFQ ?_) (BE (DZ.CS token) rfl) rfl;revert h;refine Ak (λBp=>?_) λBp=>?_;rintro⟨⟩;exact rT [pb Bp];rintro⟨⟩;exact rT [pb Bp]
def aEH:Code:=Bj Tryz.f212
def aFW:Tryz.f212.body=some aEH:=by kernel_rfl
def FX(year:Int)(month:Int):Option Int:=(L9 beforeL (BQ month 1)).bind λx1=>(L9 beforeL month).bind λx2=>cond (DV month 1) (cond (DV (jM year 4) 0) (some (BQ (R8 x1 x2) 1)) (some (R8 x1 x2))) (some (R8 x1 x2))
def PJ{year:Int}{month:Int}{yR:Int}(h:FX  year month=some yR):Pure P (G mx) 212 [.zi year,.zi month] (.zi yR):=by
 unfold FX at h;refine D2 Hd.mixed Hd.Ab (Ay Tryz.func212 aFW ?_) (BE rfl (BE rfl rfl)) rfl;revert h;refine AA λx1 uR=>?_;refine AA λx2 xG=>?_;let o1:List (PC P (G mx)):=[pk,IE (mP uR),IE (mP xG),pk];refine Ak (λBp=>?_) λBp=>?_;refine Ak (λhb2=>?_) λhb2=>?_;rintro⟨⟩;exact rT (o1++[pb Bp,pk,pb hb2,pk]);rintro⟨⟩;exact rT (o1++[pb Bp,pk,pb hb2]);rintro⟨⟩;exact rT (o1++[pb Bp])
def aEL:Code:=Bj Tryz.f227
def aGB:Tryz.f227.body=some aEL:=by kernel_rfl
def I7(year:Int):Option Int:=some (BQ (BM (R8 year 2000) 365) (wU (BQ (R8 year 2000) 3) 4))
def O1{year:Int}{yR:Int}(h:I7  year=some yR):Pure P (G mx) 227 [.zi year] (.zi yR):=by
 unfold I7 at h;refine D2 Hd.mixed Hd.Ab (Ay Tryz.func227 aGB ?_) (BE rfl rfl) rfl;revert h;rintro⟨⟩;exact rT [pk,pk,pk,pk,pk]
def aEI:Code:=Bj Tryz.f213
def aFX:Tryz.f213.body=some aEI:=by kernel_rfl
def Hr(month:Int):Option Int:=cond (EK month 0) (some (-1)) (cond (EK 1199 month) (some (-1)) ((I7 (BQ 2000 (wU month 12))).bind λy1=>(L9 beforeL (jM month 12)).bind λx2=>cond (EK 1 (jM month 12)) (cond (DV (jM (BQ 2000 (wU month 12)) 4) 0) (some (BQ (BQ y1 x2) 1)) (some (BQ y1 x2))) (some (BQ y1 x2))))
def RU{month:Int}{yR:Int}(h:Hr  month=some yR):Pure P (G mx) 213 [.zi month] (.zi yR):=by
 unfold Hr at h;refine D2 Hd.mixed Hd.Ab (Ay Tryz.func213 aFX ?_) (BE rfl rfl) rfl;revert h;refine Ak (λBp=>?_) λBp=>?_;rintro⟨⟩;exact rT [pb Bp];refine Ak (λhb2=>?_) λhb2=>?_;rintro⟨⟩;exact rT [pb Bp,pb hb2];refine AA λy1 Cg=>?_;refine AA λx2 xG=>?_;let o1:List (PC P (G mx)):=[pb Bp,pb hb2,pk,pk,Be (O1 Cg),pk,IE (mP xG),pk,pk];refine Ak (λhb3=>?_) λhb3=>?_;refine Ak (λF3=>?_) λF3=>?_;rintro⟨⟩;exact rT (o1++[pb hb3,pk,pb F3,pk]);rintro⟨⟩;exact rT (o1++[pb hb3,pk,pb F3]);rintro⟨⟩;exact rT (o1++[pb hb3])
def aEF:Code:=Bj Tryz.f195
def aFU:Tryz.f195.body=some aEF:=by kernel_rfl
def I6(year:Int)(month:Int)(day:Int):Option (Int×Int):=cond (EK year 2000) (some (0,21)) (cond (EK 2099 year) (some (0,21)) (cond (EK month 1) (some (0,21)) (cond (EK 12 month) (some (0,21)) (cond (EK day 1) (some (0,21)) ((FX year (R8 month 1)).bind λy1=>cond (EK y1 day) (some (0,21)) ((Hr (R8 (BQ (BM (R8 year 2000) 12) month) 1)).bind λy2=>some ((R8 (BQ y2 day) 1),0)))))))
def TL{year:Int}{month:Int}{day:Int}{yR:(Int×Int)}(h:I6  year month day=some yR):Pure P (G mx) 195 [.zi year,.zi month,.zi day] (.Df [.zi yR.1,.zi yR.2]):=by
 unfold I6 at h;refine D2 Hd.mixed Hd.Ab (Ay Tryz.func195 aFU ?_) (BE rfl (BE rfl (BE rfl rfl))) (BE rfl (BE rfl rfl));revert h;refine Ak (λBp=>?_) λBp=>?_;rintro⟨⟩;exact Bc _ _ (Ae 300 [pb Bp]) (by kernel_rfl) .body (.plain (BE rfl (BE rfl rfl)));refine Ak (λhb2=>?_) λhb2=>?_;rintro⟨⟩;exact Bc _ _ (Ae 300 [pb Bp,pb hb2]) (by kernel_rfl) .body (.plain (BE rfl (BE rfl rfl)));refine Ak (λhb3=>?_) λhb3=>?_;rintro⟨⟩;exact Bc _ _ (Ae 300 [pb Bp,pb hb2,pb hb3]) (by kernel_rfl) .body (.plain (BE rfl (BE rfl rfl)));refine Ak (λF3=>?_) λF3=>?_;rintro⟨⟩;exact Bc _ _ (Ae 300 [pb Bp,pb hb2,pb hb3,pb F3]) (by kernel_rfl) .body (.plain (BE rfl (BE rfl rfl)));refine Ak (λIP=>?_) λIP=>?_;rintro⟨⟩;exact Bc _ _ (Ae 300 [pb Bp,pb hb2,pb hb3,pb F3,pb IP]) (by kernel_rfl) .body (.plain (BE rfl (BE rfl rfl)));refine AA λy1 Cg=>?_;let o1:List (PC P (G mx)):=[pb Bp,pb hb2,pb hb3,pb F3,pb IP,pk,Be (PJ Cg)];refine Ak (λJa=>?_) λJa=>?_;rintro⟨⟩;exact Bc _ _ (Ae 300 (o1++[pb Ja])) (by kernel_rfl) .body (.plain (BE rfl (BE rfl rfl)));refine AA λy2 Ej=>?_;rintro⟨⟩;exact Bc _ _ (Ae 300 (o1++[pb Ja,pk,pk,pk,pk,Be (RU Ej),pk,pk])) (by kernel_rfl) .body (.plain (BE rfl (BE rfl rfl)))
def asQ:Code:=Bj Tryz.f175
def aFR:Tryz.f175.body=some asQ:=by kernel_rfl
def B5(i0:Nat)(e0:UInt8)(Kq:Int)(EL:Int)(By:Int)(Uu:Int):Option (Lp (Int×Int×Int×Int) (Int×Int×Int) (Int×Int)):=cond (DV ((i0:Nat):Int) 4) (cond (DV ((e0.toNat:Nat):Int) 45) (some (.nx ((BQ Kq 1),EL,By,Uu))) (some (.rt (0,12)))) (cond (DV ((i0:Nat):Int) 7) (cond (DV ((e0.toNat:Nat):Int) 45) (some (.nx ((BQ Kq 1),EL,By,Uu))) (some (.rt (0,12)))) (cond (EK ((e0.toNat:Nat):Int) 48) (some (.rt (0,12))) (cond (EK 57 ((e0.toNat:Nat):Int)) (some (.rt (0,12))) (cond (DV Kq 0) (some (.nx (Kq,(BQ (BM EL 10) (w64 (Ms .u8 (cP ((e0.toNat:Nat):Int) 48)))),By,Uu))) (cond (DV Kq 1) (some (.nx (Kq,EL,(BQ (BM By 10) (w64 (Ms .u8 (cP ((e0.toNat:Nat):Int) 48)))),Uu))) (cond (DV Kq 2) (some (.nx (Kq,EL,By,(BQ (BM Uu 10) (w64 (Ms .u8 (cP ((e0.toNat:Nat):Int) 48))))))) (none)))))))
def E6(text:ByteArray):Option (Int×Int):=cond (DV ((text.data.toList.length:Nat):Int) 10) ((Sx text.data.toList.length (Dh (λi y x=>B5   i y x.1 x.2.1 x.2.2.1 x.2.2.2) (λx=>(x.2.1,x.2.2.1,x.2.2.2)) (text.data.toList.drop 0) 0 (0,0,0,0))).bind (PD (λ((agW,agX,agZ):(Int×Int×Int))=>(I6 agW agX agZ).bind λ(IX,Eu)=>some (IX,Eu)) (λv=>some v))) (some (0,12))
def RV{text:ByteArray}{yR:(Int×Int)}(h:E6  text=some yR):Pure P (G mx) 175 [.zs text] (.Df [.zi yR.1,.zi yR.2]):=by
 unfold E6 at h;refine D2 Hd.mixed Hd.Ab (Ay Tryz.func175 aFR ?_) (BE rfl rfl) (BE rfl (BE rfl rfl));revert h;refine Ak (λBp=>?_) λBp=>?_;refine QW (λQ v=>MZ P Tryz.f175 0 Q (.Df [.zi v.1,.zi v.2])) (λi0 ((Kq,EL,By,Uu):(Int×Int×Int×Int)) (j0:List Value)=>fr 58 [(0,.zs text),(4,.ptr 0 0),(5,.zi Kq),(13,.zi ((text.data.toList.length:Nat):Int)),(14,.zi ((i0:Nat):Int))] [10,15,30,32,33,35,36,38,41,43,44,46,47] j0) (λ((Kq,EL,By,Uu):(Int×Int×Int×Int))=>⟨[(0,.cells [.zi EL,.zi By,.zi Uu])],1,[],0⟩) (λ((EL,By,Uu):(Int×Int×Int)) (jx:List Value)=>fr 58 [(4,.ptr 0 0)] [10,15,30,32,33,35,36,38,41,43,44,46,47] jx) (λ((EL,By,Uu):(Int×Int×Int))=>⟨[(0,.cells [.zi EL,.zi By,.zi Uu])],1,[],0⟩) [bF] (IA [] 0 (sb asQ 500) [.code (sb asQ 63)] (Ae 300 [pn Bp]) (by kernel_rfl)) ?_ ?_ ?_ (λv h=>by cases h;exact .outer .body);rintro i0 ⟨Kq,EL,By,Uu⟩ j0 hge hq;exact Fi (Ae 300 [pb (dM hge)]) (by kernel_rfl) (hq (js 13 j0 [(1,bF)]));rintro i0 e0 ⟨Kq,EL,By,Uu⟩ j0 r PP OV PE k;show B5   i0 e0 Kq EL By Uu=some r->_;unfold B5;let o1:List (PC P (G mx)):=[pb (Wl OV),pst (XA PP)];refine Ak (λhb2=>?_) λhb2=>?_;refine Ak (λhb3=>?_) λhb3=>?_;rintro⟨⟩;exact K6 (Ae 300 (o1++[pb hb2,pn hb3,pk,pi PE])) (by kernel_rfl) (k (js 13 j0 [(1,bT),(2,bT),(3,bT),(4,bT),(5,undef),(6,bT),(7,bF)]));rintro⟨⟩;exact Bc _ _ (Ae 300 (o1++[pb hb2,pn hb3])) (by kernel_rfl) (.GB k) (.plain (BE rfl (BE rfl rfl)));refine Ak (λF3=>?_) λF3=>?_;refine Ak (λIP=>?_) λIP=>?_;rintro⟨⟩;exact K6 (Ae 300 (o1++[pb hb2,pb F3,pn IP,pk,pi PE])) (by kernel_rfl) (k (js 13 j0 [(1,bT),(2,bT),(3,bF),(4,bF),(5,bT),(6,bT),(7,bF)]));rintro⟨⟩;exact Bc _ _ (Ae 300 (o1++[pb hb2,pb F3,pn IP])) (by kernel_rfl) (.GB k) (.plain (BE rfl (BE rfl rfl)));refine Ak (λJa=>?_) λJa=>?_;rintro⟨⟩;exact Bc _ _ (Ae 300 (o1++[pb hb2,pb F3,pb Ja])) (by kernel_rfl) (.GB k) (.plain (BE rfl (BE rfl rfl)));refine Ak (λJI=>?_) λJI=>?_;rintro⟨⟩;exact Bc _ _ (Ae 300 (o1++[pb hb2,pb F3,pb Ja,pb JI])) (by kernel_rfl) (.GB k) (.plain (BE rfl (BE rfl rfl)));refine Ak (λLd=>?_) λLd=>?_;rintro⟨⟩;exact K6 (Ae 300 (o1++[pb hb2,pb F3,pb Ja,pb JI,IE (t:=173) (a:=.ptr 0 0) (b:=.zi Kq) (v:=.ptr 0 0) (by rw[Fo Ld];kernel_rfl),pk,pk,pk,IE (t:=173) (a:=.ptr 0 0) (b:=.zi Kq) (v:=.ptr 0 0) (by rw[Fo Ld];kernel_rfl),pi PE])) (by kernel_rfl) (k [(jv j0 0),bT,bF,bF,bF,bF,bF,(jv j0 7),bF,bF,bF,bF,bF]);refine Ak (λKa=>?_) λKa=>?_;rintro⟨⟩;exact K6 (Ae 300 (o1++[pb hb2,pb F3,pb Ja,pb JI,IE (t:=173) (a:=.ptr 0 0) (b:=.zi Kq) (v:=.ptr 0 1) (by rw[Fo Ka];kernel_rfl),pk,pk,pk,IE (t:=173) (a:=.ptr 0 0) (b:=.zi Kq) (v:=.ptr 0 1) (by rw[Fo Ka];kernel_rfl),pi PE])) (by kernel_rfl) (k [(jv j0 0),bT,bF,bF,bF,bF,bF,(jv j0 7),bF,bF,bF,bF,bF]);refine Ak (λG8=>?_) λG8=>?_;rintro⟨⟩;exact K6 (Ae 300 (o1++[pb hb2,pb F3,pb Ja,pb JI,IE (t:=173) (a:=.ptr 0 0) (b:=.zi Kq) (v:=.ptr 0 2) (by rw[Fo G8];kernel_rfl),pk,pk,pk,IE (t:=173) (a:=.ptr 0 0) (b:=.zi Kq) (v:=.ptr 0 2) (by rw[Fo G8];kernel_rfl),pi PE])) (by kernel_rfl) (k [(jv j0 0),bT,bF,bF,bF,bF,bF,(jv j0 7),bF,bF,bF,bF,bF]);exact bN;rintro⟨agW,agX,agZ⟩ aJA;dsimp only;refine AA ?_;rintro⟨IX,Eu⟩ Ej;dsimp only;rintro⟨⟩;exact Bc _ _ (KW 300 [pk,pk,pk,Be (TL Ej)]) (by kernel_rfl) .body (.plain (BE rfl (BE rfl rfl)));rintro⟨⟩;exact Bc _ _ (Ae 300 [pn Bp]) (by kernel_rfl) .body (.plain (BE rfl (BE rfl rfl)))
def GG(p:Pr):Option ((Tk⊕Dg)×Int):=(AD p).bind λy1=>Sum.elim (λ(CE:Tk)=>(Ez CE).bind λy2=>cond y2 (some ((Sum.inl CE:(Tk⊕Dg)),(BQ p.Jr 1))) (some ((Sum.inr (⟨71,CE.AF⟩:Dg):(Tk⊕Dg)),p.Jr))) (λ(K5:Dg)=>some ((Sum.inr K5:(Tk⊕Dg)),p.Jr)) y1
def Iv{p:Pr}{yR:(Tk⊕Dg)}{Ah:Int}(h:GG  p=some (yR,Ah)):pR mx 118 [.ptr 0 0,.fn (.func 174) [] []] p (Iz eT eD yR) Ah:=by
 unfold GG at h;refine BW Hd.mixed (Ay Tryz.func118 aF ?_);revert h;refine AA λy1 Cg=>?_;refine R7 (λCE La=>?_) λK5 La=>?_;subst La;refine AA λy2 Ej=>?_;let o1:List (PC P (G mx)):=[Af (Av (Ao Cg) 0),Be (NV Ej)];refine Ak (λhv=>?_) λhv=>?_;subst hv;rintro⟨⟩;exact Au Hd.Ab _ _ [⟨.agg (Ii CE),.agg (Ii CE),(.plain (DZ.CS CE))⟩] [pW p (BQ p.Jr 1)] (Ae 300 (o1++[pk])) (by kernel_rfl) .body;subst hv;rintro⟨⟩;exact BJ Hd.Ab _ [⟨.ifc 45 (.agg [.zi 71,.zi CE.AF]),.ifc 45 (.agg [.zi 71,.zi CE.AF]),(.plain (Ch.CS (⟨71,CE.AF⟩:Dg)))⟩] [bp (CI.pl p)] (Ae 300 (o1++[An (As (Am (p:=p) (err:=71) (at_:=CE.AF) rfl) 0)])) (by kernel_rfl) .body;subst La;rintro⟨⟩;exact BJ Hd.Ab _ [gD K5] [bp (CI.pl p)] (Ae 300 [An (Av (Ao Cg) 0)]) (by kernel_rfl) .body
def aDY:Code:=Bj Tryz.f156
def aFL:Tryz.f156.body=some aDY:=by kernel_rfl
def DI(p:Pr)(least:Int):Option ((Int⊕Dg)×Int):=(GG p).bind λ(Ed,Bh)=>Sum.elim (λ(Aw:Tk)=>(E6 Aw.text).bind λ(IX,Eu)=>cond (DV Eu 0) (cond (EK IX least) (some ((Sum.inr (⟨21,Aw.AF⟩:Dg):(Int⊕Dg)),Bh)) (some ((Sum.inl IX:(Int⊕Dg)),Bh))) (some ((Sum.inr (⟨21,Aw.AF⟩:Dg):(Int⊕Dg)),Bh))) (λ(CM:Dg)=>some ((Sum.inr CM:(Int⊕Dg)),Bh)) Ed
def Cw{p:Pr}{least:Int}{yR:(Int⊕Dg)}{Ah:Int}(h:DI  p least=some (yR,Ah)):pR mx 156 [.ptr 0 0,.zi least] p (Iz eI eD yR) Ah:=by
 unfold DI at h;refine BW Hd.mixed (Ay Tryz.func156 aFL ?_);revert h;refine BP (λAw Bh Cg=>?_) λCM Bh Cg=>?_;refine AA ?_;rintro⟨IX,Eu⟩ Ej;dsimp only;let o1:List (PC P (G mx)):=[Af (Hp (Iv Cg) 0),Be (RV Ej)];refine Ak (λBp=>?_) λBp=>?_;refine Ak (λhb2=>?_) λhb2=>?_;refine Eg ?_;rintro rfl rfl;exact BJ Hd.Ab _ [⟨.ifc 45 (.agg [.zi 21,.zi Aw.AF]),.ifc 45 (.agg [.zi 21,.zi Aw.AF]),(.plain (Ch.CS (⟨21,Aw.AF⟩:Dg)))⟩] [pW p Bh] (Ae 300 (o1++[pn Bp,pb hb2,An (As (Am (p:=(⟨p.Bq,Bh,p.Dy⟩:Pr)) (err:=21) (at_:=Aw.AF) rfl) 0)])) (by kernel_rfl) .body;refine Eg ?_;rintro rfl rfl;exact Au Hd.Ab _ _ [] [pW p Bh] (Ae 300 (o1++[pn Bp,pb hb2])) (by kernel_rfl) .body;refine Eg ?_;rintro rfl rfl;exact BJ Hd.Ab _ [⟨.ifc 45 (.agg [.zi 21,.zi Aw.AF]),.ifc 45 (.agg [.zi 21,.zi Aw.AF]),(.plain (Ch.CS (⟨21,Aw.AF⟩:Dg)))⟩] [pW p Bh] (Ae 300 (o1++[pn Bp,An (As (Am (p:=(⟨p.Bq,Bh,p.Dy⟩:Pr)) (err:=21) (at_:=Aw.AF) rfl) 0)])) (by kernel_rfl) .body;refine Eg ?_;rintro rfl rfl;exact Hk CM p Bh [An (Hp (Iv Cg) 0)] .body
def aDO:Code:=Bj Tryz.f125
def aFA:Tryz.f125.body=some aDO:=by kernel_rfl
def GS(p:Pr):Option ((Nd⊕Dg)×Int):=(Aj p rF).bind λ(Ed,Bh)=>Sum.elim (λ(Aw:Tk)=>(AJ (⟨p.Bq,Bh,p.Dy⟩:Pr) 0).bind λ(IX,Eu)=>Sum.elim (λ(CT:(Int×Int))=>(Aj (⟨p.Bq,Eu,p.Dy⟩:Pr) pI).bind λ(Py,E5)=>Sum.elim (λ(CG:Tk)=>(DI (⟨p.Bq,E5,p.Dy⟩:Pr) 0).bind λ(Vk,I1)=>Sum.elim (λ(C8:Int)=>(Aq (⟨p.Bq,I1,p.Dy⟩:Pr) toS).bind λy5=>cond y5 ((DI (⟨p.Bq,(BQ I1 1),p.Dy⟩:Pr) (BQ C8 1)).bind λ(kF,NQ)=>Sum.elim (λ(IJ:Int)=>(Aj (⟨p.Bq,NQ,p.Dy⟩:Pr) US).bind λ(y7a,RS)=>Sum.elim (λ(UA:Tk)=>(DI (⟨p.Bq,RS,p.Dy⟩:Pr) 0).bind λ(Yz,K2)=>Sum.elim (λ(GC:Int)=>some ((Sum.inl (⟨5,ByteArray.empty,ByteArray.empty,CT.1,C8,IJ,GC,(⟨0,[]⟩:Fn),[],Aw.AF⟩:Nd):(Nd⊕Dg)),K2)) (λ(K1:Dg)=>some ((Sum.inr K1:(Nd⊕Dg)),K2)) Yz) (λ(OQ:Dg)=>some ((Sum.inr OQ:(Nd⊕Dg)),RS)) y7a) (λ(Mj:Dg)=>some ((Sum.inr Mj:(Nd⊕Dg)),NQ)) kF) ((Aj (⟨p.Bq,I1,p.Dy⟩:Pr) US).bind λ(y9a,YB)=>Sum.elim (λ(V8:Tk)=>(DI (⟨p.Bq,YB,p.Dy⟩:Pr) 0).bind λ(Yv,Kg)=>Sum.elim (λ(Jq:Int)=>some ((Sum.inl (⟨5,ByteArray.empty,ByteArray.empty,CT.1,C8,36525,Jq,(⟨0,[]⟩:Fn),[],Aw.AF⟩:Nd):(Nd⊕Dg)),Kg)) (λ(Yw:Dg)=>some ((Sum.inr Yw:(Nd⊕Dg)),Kg)) Yv) (λ(YA:Dg)=>some ((Sum.inr YA:(Nd⊕Dg)),YB)) y9a)) (λ(H6:Dg)=>some ((Sum.inr H6:(Nd⊕Dg)),I1)) Vk) (λ(Ei:Dg)=>some ((Sum.inr Ei:(Nd⊕Dg)),E5)) Py) (λ(GI:Dg)=>some ((Sum.inr GI:(Nd⊕Dg)),Eu)) IX) (λ(CM:Dg)=>some ((Sum.inr CM:(Nd⊕Dg)),Bh)) Ed
def Ko{p:Pr}{yR:(Nd⊕Dg)}{Ah:Int}(h:GS  p=some (yR,Ah)):pR mx 125 [.ptr 0 0] p (Iz eN eD yR) Ah:=by
 unfold GS at h;refine BW Hd.mixed (Ay Tryz.func125 aFA ?_);revert h;refine BP (λAw Bh Cg=>?_) λCM Bh Cg=>?_;let o1:List (PC P (G mx)):=[Af (Hp (Aa Cg) 0)];refine BP (λCT Eu Ej=>?_) λGI Eu Ej=>?_;let o2:List (PC P (G mx)):=o1++[Af (Mq (Al Ej) 0)];refine BP (λCG E5 Gj=>?_) λEi E5 Gj=>?_;let o3:List (PC P (G mx)):=o2++[Af (Hp (Aa Gj) 0)];refine BP (λC8 I1 JK=>?_) λH6 I1 JK=>?_;refine AA λy5 JR=>?_;let o4:List (PC P (G mx)):=o3++[Af (ZC (Cw JK) 0),Af (NC (Ag JR) 0)];refine Ak (λhv=>?_) λhv=>?_;subst hv;refine BP (λIJ NQ Mz=>?_) λMj NQ Mz=>?_;let o5:List (PC P (G mx)):=o4++[pk,pk,Af (ZC (Cw Mz) 0)];refine BP (λUA RS RF=>?_) λOQ RS RF=>?_;refine BP (λGC K2 N6=>?_) λK1 K2 N6=>?_;refine Eg ?_;rintro rfl rfl;exact Au Hd.Ab _ _ [⟨.agg [.zi 5,.zs ByteArray.empty,.zs ByteArray.empty,.zi CT.1,.zi C8,.zi IJ,.zi GC,.zi 0,.sl .full 0 [],.sl .full 0 [],.zi Aw.AF],.agg [.zi 5,.zs ByteArray.empty,.zs ByteArray.empty,.zi CT.1,.zi C8,.zi IJ,.zi GC,.zi 0,.sl .lost ([].length) (rows Hz []),.sl .lost ([].length) (Bd []),.zi Aw.AF],(.wn (.g (.r (.r (.r (.r (.r (.r (.r (.r (.z (.z (.r .nil))))))))))) .nil) (AB.CS (⟨5,ByteArray.empty,ByteArray.empty,CT.1,C8,IJ,GC,(⟨0,[]⟩:Fn),[],Aw.AF⟩:Nd)))⟩] [pW p K2] (Ae 300 (o5++[Af (Hp (Aa RF) 0),Af (ZC (Cw N6) 0)])) (by kernel_rfl) .body;refine Eg ?_;rintro rfl rfl;exact Hk K1 p K2 (o5++[Af (Hp (Aa RF) 0),An (ZC (Cw N6) 0)]) .body;refine Eg ?_;rintro rfl rfl;exact Hk OQ p RS (o5++[An (Hp (Aa RF) 0)]) .body;refine Eg ?_;rintro rfl rfl;exact Hk Mj p NQ (o4++[pk,pk,An (ZC (Cw Mz) 0)]) .body;subst hv;refine BP (λV8 YB Vv=>?_) λYA YB Vv=>?_;refine BP (λJq Kg O8=>?_) λYw Kg O8=>?_;refine Eg ?_;rintro rfl rfl;exact Au Hd.Ab _ _ [⟨.agg [.zi 5,.zs ByteArray.empty,.zs ByteArray.empty,.zi CT.1,.zi C8,.zi 36525,.zi Jq,.zi 0,.sl .full 0 [],.sl .full 0 [],.zi Aw.AF],.agg [.zi 5,.zs ByteArray.empty,.zs ByteArray.empty,.zi CT.1,.zi C8,.zi 36525,.zi Jq,.zi 0,.sl .lost ([].length) (rows Hz []),.sl .lost ([].length) (Bd []),.zi Aw.AF],(.wn (.g (.r (.r (.r (.r (.r (.r (.r (.r (.z (.z (.r .nil))))))))))) .nil) (AB.CS (⟨5,ByteArray.empty,ByteArray.empty,CT.1,C8,36525,Jq,(⟨0,[]⟩:Fn),[],Aw.AF⟩:Nd)))⟩] [pW p Kg] (Ae 300 (o4++[Af (Hp (Aa Vv) 0),Af (ZC (Cw O8) 0)])) (by kernel_rfl) .body;refine Eg ?_;rintro rfl rfl;exact Hk Yw p Kg (o4++[Af (Hp (Aa Vv) 0),An (ZC (Cw O8) 0)]) .body;refine Eg ?_;rintro rfl rfl;exact Hk YA p YB (o4++[An (Hp (Aa Vv) 0)]) .body;refine Eg ?_;rintro rfl rfl;exact Hk H6 p I1 (o3++[An (ZC (Cw JK) 0)]) .body;refine Eg ?_;rintro rfl rfl;exact Hk Ei p E5 (o2++[An (Hp (Aa Gj) 0)]) .body;refine Eg ?_;rintro rfl rfl;exact Hk GI p Eu (o1++[An (Mq (Al Ej) 0)]) .body;refine Eg ?_;rintro rfl rfl;exact Hk CM p Bh [An (Hp (Aa Cg) 0)] .body
def aDZ:Code:=Bj Tryz.f160
def aFM:Tryz.f160.body=some aDZ:=by kernel_rfl
def DP(token:Tk):Option Bool:=cond (DV token.kind 4) (some true) (some false)
def NU{token:Tk}{yR:Bool}(h:DP  token=some yR):Pure P (G mx) 160 [.agg (Ii token)] (.zb yR):=by
 unfold DP at h;refine D2 Hd.mixed Hd.Ab (Ay Tryz.func160 aFM ?_) (BE (DZ.CS token) rfl) rfl;revert h;refine Ak (λBp=>?_) λBp=>?_;rintro⟨⟩;exact rT [pb Bp];rintro⟨⟩;exact rT [pb Bp]
def aEA:Code:=Bj Tryz.f161
def aFN:Tryz.f161.body=some aEA:=by kernel_rfl
def Cl(token:Tk):Option Int:=(Jl token.text awX ByteArray.empty 1).bind λy1=>(QX y1).bind λ(IX,Eu)=>some IX
def Oc{token:Tk}{yR:Int}(h:Cl  token=some yR):Pure P (G mx) 161 [.agg (Ii token)] (.zi yR):=by
 unfold Cl at h;refine D2 Hd.mixed Hd.Ab (Ay Tryz.func161 aFN ?_) (BE (DZ.CS token) rfl) rfl;revert h;refine AA λy1 Cg=>?_;refine AA ?_;rintro⟨IX,Eu⟩ Ej;dsimp only;rintro⟨⟩;exact rT [Be (cC Cg),Be (oP Ej)]
def aEM:Code:=Bj Tryz.f228
def aGC:Tryz.f228.body=some aEM:=by kernel_rfl
def C6(token:Tk):Option Bool:=cond (DV token.kind 4) (some true) (cond (DV token.kind 3) (some true) (some false))
def NB{token:Tk}{yR:Bool}(h:C6  token=some yR):Pure P (G mx) 228 [.agg (Ii token)] (.zb yR):=by
 unfold C6 at h;refine D2 Hd.mixed Hd.Ab (Ay Tryz.func228 aGC ?_) (BE (DZ.CS token) rfl) rfl;revert h;refine Ak (λBp=>?_) λBp=>?_;rintro⟨⟩;exact rT [pb Bp];refine Ak (λhb2=>?_) λhb2=>?_;rintro⟨⟩;exact rT [pb Bp,pb hb2];rintro⟨⟩;exact rT [pb Bp,pb hb2]
def Gp(p:Pr):Option ((Tk⊕Dg)×Int):=(AD p).bind λy1=>Sum.elim (λ(CE:Tk)=>(C6 CE).bind λy2=>cond y2 (some ((Sum.inl CE:(Tk⊕Dg)),(BQ p.Jr 1))) (some ((Sum.inr (⟨71,CE.AF⟩:Dg):(Tk⊕Dg)),p.Jr))) (λ(K5:Dg)=>some ((Sum.inr K5:(Tk⊕Dg)),p.Jr)) y1
def Ie{p:Pr}{yR:(Tk⊕Dg)}{Ah:Int}(h:Gp  p=some (yR,Ah)):pR mx 118 [.ptr 0 0,.fn (.func 228) [] []] p (Iz eT eD yR) Ah:=by
 unfold Gp at h;refine BW Hd.mixed (Ay Tryz.func118 aF ?_);revert h;refine AA λy1 Cg=>?_;refine R7 (λCE La=>?_) λK5 La=>?_;subst La;refine AA λy2 Ej=>?_;let o1:List (PC P (G mx)):=[Af (Av (Ao Cg) 0),Be (NB Ej)];refine Ak (λhv=>?_) λhv=>?_;subst hv;rintro⟨⟩;exact Au Hd.Ab _ _ [⟨.agg (Ii CE),.agg (Ii CE),(.plain (DZ.CS CE))⟩] [pW p (BQ p.Jr 1)] (Ae 300 (o1++[pk])) (by kernel_rfl) .body;subst hv;rintro⟨⟩;exact BJ Hd.Ab _ [⟨.ifc 45 (.agg [.zi 71,.zi CE.AF]),.ifc 45 (.agg [.zi 71,.zi CE.AF]),(.plain (Ch.CS (⟨71,CE.AF⟩:Dg)))⟩] [bp (CI.pl p)] (Ae 300 (o1++[An (As (Am (p:=p) (err:=71) (at_:=CE.AF) rfl) 0)])) (by kernel_rfl) .body;subst La;rintro⟨⟩;exact BJ Hd.Ab _ [gD K5] [bp (CI.pl p)] (Ae 300 [An (Av (Ao Cg) 0)]) (by kernel_rfl) .body
def aEJ:Code:=Bj Tryz.f214
def aFY:Tryz.f214.body=some aEJ:=by kernel_rfl
def BN(p:Pr):Option (((Int×Int)⊕Dg)×Int):=(Gp p).bind λ(Ed,Bh)=>Sum.elim (λ(Aw:Tk)=>(Cl Aw).bind λy2=>cond (DV Aw.kind 3) (cond (DV y2 0) (some ((Sum.inl (y2,Aw.AF):((Int×Int)⊕Dg)),Bh)) (some ((Sum.inr (⟨3,Aw.AF⟩:Dg):((Int×Int)⊕Dg)),Bh))) (some ((Sum.inl (y2,Aw.AF):((Int×Int)⊕Dg)),Bh))) (λ(CM:Dg)=>some ((Sum.inr CM:((Int×Int)⊕Dg)),Bh)) Ed
def Bk{p:Pr}{yR:((Int×Int)⊕Dg)}{Ah:Int}(h:BN  p=some (yR,Ah)):pR mx 214 [.ptr 0 0] p (Iz eJ eD yR) Ah:=by
 unfold BN at h;refine BW Hd.mixed (Ay Tryz.func214 aFY ?_);revert h;refine BP (λAw Bh Cg=>?_) λCM Bh Cg=>?_;refine AA λy2 Ej=>?_;let o1:List (PC P (G mx)):=[Af (Hp (Ie Cg) 0),Be (Oc Ej)];refine Ak (λBp=>?_) λBp=>?_;refine Ak (λhb2=>?_) λhb2=>?_;refine Eg ?_;rintro rfl rfl;exact Au Hd.Ab _ _ [⟨.Df [.zi y2,.zi Aw.AF],.Df [.zi y2,.zi Aw.AF],(.plain (BE rfl (BE rfl rfl)))⟩] [pW p Bh] (Ae 300 (o1++[pb Bp,pn hb2])) (by kernel_rfl) .body;refine Eg ?_;rintro rfl rfl;exact BJ Hd.Ab _ [⟨.ifc 45 (.agg [.zi 3,.zi Aw.AF]),.ifc 45 (.agg [.zi 3,.zi Aw.AF]),(.plain (Ch.CS (⟨3,Aw.AF⟩:Dg)))⟩] [pW p Bh] (Ae 300 (o1++[pb Bp,pn hb2,An (As (Am (p:=(⟨p.Bq,Bh,p.Dy⟩:Pr)) (err:=3) (at_:=Aw.AF) rfl) 0)])) (by kernel_rfl) .body;refine Eg ?_;rintro rfl rfl;exact Au Hd.Ab _ _ [⟨.Df [.zi y2,.zi Aw.AF],.Df [.zi y2,.zi Aw.AF],(.plain (BE rfl (BE rfl rfl)))⟩] [pW p Bh] (Ae 300 (o1++[pb Bp])) (by kernel_rfl) .body;refine Eg ?_;rintro rfl rfl;exact Hk CM p Bh [An (Hp (Ie Cg) 0)] .body
def aEN:Code:=Bj Tryz.f229
def aGD:Tryz.f229.body=some aEN:=by kernel_rfl
def EC(token:Tk):Option Bool:=cond (BY token.text.data.toList Rj.data.toList) (some true) (cond (BY token.text.data.toList ML.data.toList) (some true) (some false))
def NW{token:Tk}{yR:Bool}(h:EC  token=some yR):Pure P (G mx) 229 [.agg (Ii token)] (.zb yR):=by
 unfold EC at h;refine D2 Hd.mixed Hd.Ab (Ay Tryz.func229 aGD ?_) (BE (DZ.CS token) rfl) rfl;revert h;refine Ak (λBp=>?_) λBp=>?_;rintro⟨⟩;exact rT [pb Bp];refine Ak (λhb2=>?_) λhb2=>?_;rintro⟨⟩;exact rT [pb Bp,pb hb2];rintro⟨⟩;exact rT [pb Bp,pb hb2]
end Mo
end Go.Proofs.YtpbkhogolfegfaaGreatDoor
