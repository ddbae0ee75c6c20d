/- Part of a proof: see the last text. -/
import Derived.Test.YtpbkhogolfegfaaGreatDoorPgo
import Derived.Test.YtpbkhogolfegfaaGreatDoorCards
import Derived.Test.YtpbkhogolfegfaaGreatDoorTie
import Derived.Lib.LaidTab
import Derived.Lib.LaidIn
import Derived.Shelf.Vars
set_option linter.unusedVariables false
set_option linter.unusedSimpArgs false
set_option linter.defProp false
noncomputable section
namespace Go.Proofs.YtpbkhogolfegfaaGreatDoor
open AI Go Go.RowKit LexS
def chunks{α:Type}{V:α->List Value}{k:Nat}:∀{l:List α} {cs:List Value},cs.length=l.length*k->(∀y,(V y).length=k)->(∀(i:Nat) y,l[i]?=some y->(cs.drop (i*k)).take k=V y)->cs=l.flatMap V
 | [],cs,h,_,_=>by
   simp only[List.length_nil,Nat.zero_mul] at h;rw[List.eq_nil_of_length_eq_zero h];rfl
 | a::l,cs,h,hV,hc=>by
   have h0:=hc 0 a rfl;rw[Nat.zero_mul,List.drop_zero] at h0
   have ih:=chunks (V:=V) (k:=k) (l:=l) (cs:=cs.drop k) (by rw[List.length_drop,h,List.length_cons,Nat.succ_mul];omega) hV λi y hy=>by
     rw[List.drop_drop];have:=hc (i+1) y (by simpa using hy)
     rwa[Nat.succ_mul,Nat.add_comm] at this
   rw[List.flatMap_cons,<- h0,<- ih,List.take_append_drop]
def NP{α H:Type}{enc:TypeId×Value->H}{P:Program}{w:World}{base:Nat}{sp:Nat->Bool}{held:Bool}{fuel:Nat}{t e:TypeId}{n k:Nat}{cs:List Value}{l:List α}{p:List MemPlace}(D:α->DataW H)(V:α->List Value)(hV:∀y,(V y).length=k)
   (Oa:∀f c y q,DataW.trod enc P w base sp held f e c=some (D y,q)->c=V y)
   (ht:P.underlying t=some (.array n e)) (hce:P.cellsOf e=k) (hct:P.cellsOf t=n*k) (h:DataW.trod enc P w base sp held fuel t cs=some (.agg (l.map D),p)):cs=l.flatMap V:=by
 obtain⟨xs,m,_,hx,hl,hxl,TX⟩:=DataW.trod_array ht h
 have hd:l.map D=xs.map (·.1):=by
   have:=congrArg Prod.fst hx;simpa using this
 have pL:l.length=n:=by
   have:=congrArg List.length hd;simp at this;omega
 rw[hct] at hl;rw[hce] at TX;refine chunks (by rw[hl,pL]) hV λi y hy=>?_;have hi:i < n:=by have:=(List.getElem?_eq_some_iff.1 hy).1;omega
 have h2:=TX i hi;have hxi:xs[i]?=some xs[i]:=List.getElem?_eq_getElem (by omega);rw[hxi] at h2;have h3:(l.map D)[i]?=(xs.map (·.1))[i]?:=by rw[hd]
 rw[List.getElem?_map,List.getElem?_map,hy,hxi] at h3;simp only[Option.map_some,Option.some.injEq] at h3;refine Oa m _ y xs[i].2 ?_;rw[h2,h3]
def Y5{H:Type}{enc:TypeId×Value->H}{w:World}{base:Nat}{sp:Nat->Bool}{held:Bool}(f:Nat)(c:List Value)(y:List UInt8)(q:List MemPlace)(hh:DataW.trod enc Tryz.prog w base sp held f 9 c=some (.lit (.string y),q)):c=[.string ⟨y.toArray⟩]:=by
 obtain⟨z,hc,hz,_⟩:=DataW.trod_string Tryz.underlying9 hh;simp only[Prod.mk.injEq,DataW.lit.injEq,Lit.string.injEq] at hz;rw[hc,hz.1]
def Qw{W:World}{n:String}{g:Nat}{cs:Array Value}(hg:Tryz.prog.globalNamed n=some g)(h:W.var? Tryz.prog n=some cs):∃t fr,W.heap[g]?=some (.cells cs t fr):=by
 unfold World.var? at h;rw[hg] at h;simp only[Option.bind_some] at h;split at h;rename_i c t fr hh;injection h with h
 subst h;exact⟨t,fr,hh⟩;cases h
def gB:Tryz.prog.globalNamed "wageoffice/calendar.before"=some 12:=by kernel_rfl
def gC:Tryz.prog.globalNamed "wageoffice/lexer.classes"=some 3:=by kernel_rfl
def gS:Tryz.prog.globalNamed "wageoffice/lexer.symbols"=some 0:=by kernel_rfl
def gO:Tryz.prog.globalNamed "wageoffice/parser.operators"=some 2:=by kernel_rfl
def gR:Tryz.prog.globalNamed "wageoffice/parser.roles"=some 1:=by kernel_rfl
def gP:Tryz.prog.globalNamed "internal/strconv.uint64pow10"=some 4:=by kernel_rfl
def gPT:(Tryz.prog.globals[(4:Nat)]?).map (·.type)=some 167:=by kernel_rfl
def zW:Tryz.prog.cellsOf 146=1:=by kernel_rfl
def zP:Tryz.prog.cellsOf 167=20*1:=by kernel_rfl
def gBT:(Tryz.prog.globals[(12:Nat)]?).map (·.type)=some 203:=by kernel_rfl
def gCT:(Tryz.prog.globals[(3:Nat)]?).map (·.type)=some 151:=by kernel_rfl
def gST:(Tryz.prog.globals[(0:Nat)]?).map (·.type)=some 134:=by kernel_rfl
def gOT:(Tryz.prog.globals[(2:Nat)]?).map (·.type)=some 143:=by kernel_rfl
def gRT:(Tryz.prog.globals[(1:Nat)]?).map (·.type)=some 135:=by kernel_rfl
def zI:Tryz.prog.cellsOf 3=1:=by kernel_rfl
def zU:Tryz.prog.cellsOf 5=1:=by kernel_rfl
def zS:Tryz.prog.cellsOf 9=1:=by kernel_rfl
def zB:Tryz.prog.cellsOf 203=13*1:=by kernel_rfl
def zC:Tryz.prog.cellsOf 151=128*1:=by kernel_rfl
def zY:Tryz.prog.cellsOf 134=17*1:=by kernel_rfl
def z6:Tryz.prog.cellsOf 142=6*1:=by kernel_rfl
def zO:Tryz.prog.cellsOf 143=6*6:=by kernel_rfl
def zR:Tryz.prog.cellsOf 135=5*1:=by kernel_rfl
def aDO:List Int:=[0,31,59,90,120,151,181,212,243,273,304,334,365]
def aHA:List (List UInt8):=[[],[101,97,114,110],[100,101,100,117,99,116],[102,108,111,111,114],[105,110,102,111]]
def opsL:List (List (List UInt8)):=[[[111,114],[],[],[],[],[]],[[97,110,100],[],[],[],[],[]],[[],[],[],[],[],[]],[[61,61],[33,61],[60],[60,61],[62],[62,61]],[[43],[45],[],[],[],[]],[[42],[47],[97,116],[],[],[]]]
abbrev eX(y:List UInt8):DataW Unit:=.lit (.string y)
def aLT:(Rows.laid_wageoffice_calendar_before:DataW Unit)=.agg (aDO.map λz=>.lit (.int .i64 z)):=by rfl
def aLW:(Rows.laid_internal_strconv_uint64pow10:DataW Unit)=.agg (Lib.pow10Tab.map λz=>.lit (.int .u64 z)):=by kernel_rfl
def aLU:(Rows.laid_wageoffice_lexer_classes:DataW Unit)=.agg ((List.range 128).map λi=>.lit (.int .u8 (K1 i:Nat))):=by rfl
def aLY:(Rows.laid_wageoffice_lexer_symbols:DataW Unit)=.agg (Gk.map eX):=by rfl
def aLV:(Rows.laid_wageoffice_parser_operators:DataW Unit)=.agg (opsL.map λl=>.agg (l.map eX)):=by rfl
def aLX:(Rows.laid_wageoffice_parser_roles:DataW Unit)=.agg (aHA.map eX):=by rfl
def aPK:((begin Tryz.prog (λ_ _=>0) default).world.heap[(5:Nat)]?).bind Obj.row?=some (#[.int .i64 0],3):=by kernel_rfl
def aAR{W:World}(h:W.ShapedOpen Tryz.prog):∃m,W.cell? ⟨5,0,none⟩=some (.int .i64 m):=by
 obtain⟨m,hm⟩:=cell_of_shapedOpen_int h (g:=5) (by decide +kernel) aPK rfl (by kernel_rfl) (by kernel_rfl) Tryz.underlying3;exact⟨m,hm⟩
def Xz(c:Cx)(w:World):∀l:List (List UInt8),CG c w (l.map GL) (l.flatMap λy=>[.string ⟨y.toArray⟩])
 | []=>.nil
 | _::l=>.cons (.sc rfl) (Xz c w l)
def vP(c:Cx)(w:World):∀l:List Int,CG c w (l.map Hd.int) (l.flatMap λy=>[.int .i64 y])
 | []=>.nil
 | _::l=>.cons (.sc rfl) (vP c w l)
def aiF(c:Cx)(w:World):∀l:List Int,CG c w (l.map Hd.asV) (l.flatMap λy=>[.int .u64 y])
 | []=>.nil
 | _::l=>.cons (.sc rfl) (aiF c w l)
def ahZ(c:Cx)(w:World):∀l:List Nat,CG c w (l.map λi=>.sc (.int .u8 (K1 i:Nat))) (l.flatMap λi=>[.int .u8 (K1 i:Nat)])
 | []=>.nil
 | _::l=>.cons (.sc rfl) (ahZ c w l)
def lT(c:Cx)(w:World):∀l:List (List (List UInt8)),CG c w (l.flatMap λy=>y.map GL) (l.flatMap λy=>y.flatMap λz=>[.string ⟨z.toArray⟩])
 | []=>.nil
 | a::l=>(Xz c w a).append (lT c w l)
def VH{W:World}{g:Nat}{l:List AV}{cs:Array Value}(h:∃t fr,W.heap[g]?=some (.cells cs t fr))(hr:CG (Mo.Xf W) W l cs.toList):Be (Mo.Xf W) W g 0 l:=by
 obtain⟨t,fr,h⟩:=h;refine Be.O6 hr λi v hi=>Mo.aCY ?_;rw[Nat.zero_add,cell_of_row W g i cs t fr h];rwa[Array.getElem?_toList] at hi
def rQ{W:World}(h:laidMetH Tryz.prog Rows.parserTreesRow.laid W)(GP:W.ShapedOpen Tryz.prog):∃mx,St (Hd.G mx) (Mo.Xf W) W s0:=by
 have h:laidMet Tryz.prog [("math/bits.deBruijn32tab",Rows.laid_math_bits_deBruijn32tab),("math/bits.deBruijn64tab",Rows.laid_math_bits_deBruijn64tab),("internal/strconv.uint64pow10",Rows.laid_internal_strconv_uint64pow10),("unicode/utf8.acceptRanges",Rows.laid_unicode_utf8_acceptRanges),("strconv.ErrRange",Rows.laid_strconv_ErrRange),("strconv.ErrSyntax",Rows.laid_strconv_ErrSyntax),("wageoffice/calendar.before",Rows.laid_wageoffice_calendar_before),("wageoffice/lexer.classes",Rows.laid_wageoffice_lexer_classes),("wageoffice/lexer.symbols",Rows.laid_wageoffice_lexer_symbols),("wageoffice/parser.operators",Rows.laid_wageoffice_parser_operators),("wageoffice/parser.roles",Rows.laid_wageoffice_parser_roles),("unicode/utf8.first",Rows.laid_unicode_utf8_first)] W:=h
 obtain⟨ps,⟨_,_,_,_,_,_,_,_,_,_,⟨_,_,_,_,_,_,_,_,_,_,⟨g3,t3,cs3,f3,p3,q3,hg3,ht3,hv3,hd3,⟨_,_,_,_,_,_,_,_,_,_,⟨_,_,_,_,_,_,_,_,_,_,⟨_,_,_,_,_,_,_,_,_,_,⟨g7,t7,cs7,f7,p7,q7,hg7,ht7,hv7,hd7,⟨g8,t8,cs8,f8,p8,q8,hg8,ht8,hv8,hd8,⟨g9,t9,cs9,f9,p9,q9,hg9,ht9,hv9,hd9,⟨g10,t10,aDU,f10,p10,q10,aNB,aNW,aNY,hd10,⟨g11,t11,aQQ,f11,p11,q11,aNC,aNX,aNZ,aEZ,_⟩,_⟩,_⟩,_⟩,_⟩,_⟩,_⟩,_⟩,_⟩,_⟩,_⟩,_⟩:=h;obtain rfl:=Option.some.inj (gP.symm.trans hg3);obtain rfl:=Option.some.inj (gPT.symm.trans ht3);rw[aLW] at hd3;obtain rfl:=Option.some.inj (gB.symm.trans hg7);obtain rfl:=Option.some.inj (gC.symm.trans hg8);obtain rfl:=Option.some.inj (gS.symm.trans hg9);obtain rfl:=Option.some.inj (gO.symm.trans aNB);obtain rfl:=Option.some.inj (gR.symm.trans aNC);obtain rfl:=Option.some.inj (gBT.symm.trans ht7);obtain rfl:=Option.some.inj (gCT.symm.trans ht8);obtain rfl:=Option.some.inj (gST.symm.trans ht9);obtain rfl:=Option.some.inj (gOT.symm.trans aNW);obtain rfl:=Option.some.inj (gRT.symm.trans aNX);rw[aLT] at hd7;rw[aLU] at hd8;rw[aLY] at hd9;rw[aLV] at hd10;rw[aLX] at aEZ
 have e3:=NP (k:=1) (λz:Int=>(DataW.lit (.int .u64 z):DataW Unit)) (λz=>[.int .u64 z]) (λ_=>rfl)
   (λf c y q hh=>by obtain⟨z,hc,hz,_⟩:=DataW.trod_int Tryz.underlying146 hh;simp only[Prod.mk.injEq,DataW.lit.injEq,Lit.int.injEq,true_and] at hz;rw[hc,hz.1]) Tryz.underlying167 zW zP hd3
 have e7:=NP (k:=1) (λz:Int=>(DataW.lit (.int .i64 z):DataW Unit)) (λz=>[.int .i64 z]) (λ_=>rfl)
   (λf c y q hh=>by obtain⟨z,hc,hz,_⟩:=DataW.trod_int Tryz.underlying3 hh;simp only[Prod.mk.injEq,DataW.lit.injEq,Lit.int.injEq,true_and] at hz;rw[hc,hz.1]) Tryz.underlying203 zI zB hd7
 have e8:=NP (k:=1) (λi:Nat=>(DataW.lit (.int .u8 (K1 i:Nat)):DataW Unit)) (λi=>[.int .u8 (K1 i:Nat)]) (λ_=>rfl)
   (λf c y q hh=>by obtain⟨z,hc,hz,_⟩:=DataW.trod_int Tryz.underlying5 hh;simp only[Prod.mk.injEq,DataW.lit.injEq,Lit.int.injEq,true_and] at hz;rw[hc,hz.1]) Tryz.underlying151 zU zC hd8
 have e9:=NP (k:=1) eX (λy=>[.string ⟨y.toArray⟩]) (λ_=>rfl) Y5 Tryz.underlying134 zS zY hd9;have e11:=NP (k:=1) eX (λy=>[.string ⟨y.toArray⟩]) (λ_=>rfl) Y5 Tryz.underlying135 zS zR aEZ
 have e10:aDU.toList=opsL.flatMap λy=>y.flatMap λz=>[.string ⟨z.toArray⟩]:=by
   obtain⟨xs,m,_,hx,hl,hxl,TX⟩:=DataW.trod_array Tryz.underlying143 hd10
   have hd:(opsL.map λl=>(DataW.agg (l.map eX):DataW Unit))=xs.map (·.1):=by
     have:=congrArg Prod.fst hx;simpa using this
   rw[zO] at hl;rw[z6] at TX;have aOY:∀y∈opsL,(y.flatMap λz=>[(Value.string ⟨z.toArray⟩:Value)]).length=6:=by decide
   have Px:∀(i:Nat) y,opsL[i]?=some y->(aDU.toList.drop (i*6)).take 6=y.flatMap λz=>[.string ⟨z.toArray⟩]:=by
     intro i y hy;have hi:i < 6:=(List.getElem?_eq_some_iff.1 hy).1;have h2:=TX i hi;have hxi:xs[i]?=some xs[i]:=List.getElem?_eq_getElem (by omega);rw[hxi] at h2;have h3:(opsL.map λl=>(DataW.agg (l.map eX):DataW Unit))[i]?=(xs.map (·.1))[i]?:=by rw[hd]
     rw[List.getElem?_map,List.getElem?_map,hy,hxi] at h3;simp only[Option.map_some,Option.some.injEq] at h3;have h4:xs[i]=(.agg (y.map eX),xs[i].2):=Prod.ext h3.symm rfl;rw[h4] at h2;exact NP (k:=1) eX (λy=>[.string ⟨y.toArray⟩]) (λ_=>rfl) Y5 Tryz.underlying142 zS z6 h2
   have l6:∀{l:List (List (List UInt8))} {cs:List Value},(∀y∈l,(y.flatMap λz=>[(Value.string ⟨z.toArray⟩:Value)]).length=6)->cs.length=l.length*6->(∀(i:Nat) y,l[i]?=some y->(cs.drop (i*6)).take 6=y.flatMap λz=>[.string ⟨z.toArray⟩])->cs=l.flatMap λy=>y.flatMap λz=>[.string ⟨z.toArray⟩]:=by
     intro l
     induction l with
     | nil=>intro cs _ h _;exact List.eq_nil_of_length_eq_zero (by simpa using h)
     | cons a l ih =>
       intro cs hq h hc;have h0:=hc 0 a rfl;rw[Nat.zero_mul,List.drop_zero] at h0
       have:=ih (cs:=cs.drop 6) (λy hy=>hq y (by simp[hy])) (by rw[List.length_drop,h,List.length_cons,Nat.succ_mul];omega) λi y hy=>by
         rw[List.drop_drop];have:=hc (i+1) y (by simpa using hy)
         rwa[Nat.succ_mul,Nat.add_comm] at this
       rw[List.flatMap_cons,<- h0,<- this,List.take_append_drop]
   exact l6 aOY (by rw[hl];rfl) Px
 obtain⟨mx,hm⟩:=aAR GP;have Gm:=Mo.stW W;refine⟨mx,Gm.len,Gm.desc,Gm.nodup,Gm.low,Gm.box,Gm.I2,Gm.row,Gm.Je,Gm.MM,Gm.M0,Gm.IX,λg cs h=>?_,Gm.QB⟩;unfold Hd.G at h;split at h;rename_i hg;cases h;rw[beq_true hg];exact VH (Qw gO aNY) (by rw[e10];exact lT _ _ opsL);split at h;rename_i hg;cases h;rw[beq_true hg];exact VH (Qw gR aNZ) (by rw[e11];exact Xz _ _ aHA);split at h;rename_i hg;cases h;rw[beq_true hg];exact VH (Qw gB hv7) (by rw[e7];exact vP _ _ aDO);split at h;rename_i hg;cases h;rw[beq_true hg];exact VH (Qw gC hv8) (by rw[e8];exact ahZ _ _ _);split at h;rename_i hg;cases h;rw[beq_true hg];exact VH (Qw gS hv9) (by rw[e9];exact Xz _ _ _);split at h;rename_i hg;cases h;rw[beq_true hg];exact .cons (Mo.aCY hm) (.sc rfl) .nil;split at h;rename_i hg;cases h;rw[beq_true hg];exact VH (Qw gP hv3) (by rw[e3];exact aiF _ _ _);cases h
def qC{mx:Int}{f:FuncId}{args:List AV}{vs:List Value}{W:World}(Gm:St (Hd.G mx) (Mo.Xf W) W s0)(h:Pure Tryz.prog (Hd.G mx) f args (.sc (.bool true)))(ha:CG (Mo.Xf W) W args vs):Calls Tryz.prog f vs.toArray W λe W'=>e=.returned (.bool true)/\Below W.heap.size W W':=by
 refine(h s0 (Mo.Xf W) W vs Gm ha).mono ?_;rintro e w' ⟨c',hx,_,u,rfl,hu⟩;cases hu;exact⟨rfl,hx.below⟩
def aAM:DataW Unit->List Value
 | .lit l=>[l.value]
 | _=>[]
def aEE:DataW Unit->List Value
 | .agg l=>l.flatMap aAM
 | d=>aAM d
def Tu:DataW Unit->Array Value
 | .agg l=>(l.flatMap aEE).toArray
 | d=>(aAM d).toArray
def putCells(cs:Array Value):Obj->Obj
 | .cells _ t frozen=>.cells cs t frozen
 | o=>o
def low:Nat:=(World.holding Tryz.prog default ⟨#[],#[],[]⟩).heap.size
abbrev aHN:ByteArray:={ data:=#[118,97,108,117,101,32,111,117,116,32,111,102,32,114,97,110,103,101] }
abbrev aHO:ByteArray:={ data:=#[105,110,118,97,108,105,100,32,115,121,110,116,97,120] }
def VQ(os:Os):World :=
 let w0:=World.holding Tryz.prog os ⟨#[.cells #[.string aHN] 210,.cells #[.string aHO] 210],#[],[]⟩
 { w0 with heap:=((((((((((((w0.heap.modify 8 (putCells (Tu Rows.laid_math_bits_deBruijn32tab))).modify
     9 (putCells (Tu Rows.laid_math_bits_deBruijn64tab))).modify
     4 (putCells (Tu Rows.laid_internal_strconv_uint64pow10))).modify
     7 (putCells (Tu Rows.laid_unicode_utf8_acceptRanges))).modify
     11 (putCells #[.iface 208 (.pointer (some ⟨low,0,none⟩))])).modify
     10 (putCells #[.iface 208 (.pointer (some ⟨low+1,0,none⟩))])).modify
     12 (putCells (Tu Rows.laid_wageoffice_calendar_before))).modify
     3 (putCells (Tu Rows.laid_wageoffice_lexer_classes))).modify
     0 (putCells (Tu Rows.laid_wageoffice_lexer_symbols))).modify
     2 (putCells (Tu Rows.laid_wageoffice_parser_operators))).modify
     1 (putCells (Tu Rows.laid_wageoffice_parser_roles))).modify
     6 (putCells (Tu Rows.laid_unicode_utf8_first))) }
def afU(os:Os)(args:Array Value):laidMet Tryz.prog Rows.parserTreesRow.laid ((VQ os).forCall (λ_ _=>0) ⟨#[],args,[]⟩).memory :=
 laidMet_of_run3 8 (by kernel_rfl) (by kernel_rfl) (by kernel_rfl)
end Go.Proofs.YtpbkhogolfegfaaGreatDoor
namespace Go.Proofs.YtpbkhogolfegfaaGreatDoor
open AI Go
namespace Mo
set_option maxRecDepth 100000
set_option maxHeartbeats 4000000
variable {mx:Int}
def B61:Code:=AY Tryz.f61
def b61:Tryz.f61.body=some B61:=by kernel_rfl
def aqC{s:List Pc}(hl:s.length*24<=140737488355328):Pure P (G mx) 61 [.sl .lost s.length (rows IE s)] (.sl .lost s.length (rows IE s)):=by
 refine pure_nil (λhn hc=>?_) ?_;rw[hn,hc];exact CN Hd.mixed Hd.Aa (Au Tryz.func61 b61 (Ax (v:=.sl .full 0 []) _ _ (Ac 300 [pk]) (by kernel_rfl) .body (.wn (.z .nil) rfl))) rfl rfl;by_cases hm:s.length=0;obtain rfl:=List.eq_nil_of_length_eq_zero hm;exact CN Hd.mixed Hd.Aa (Au Tryz.func61 b61 (Ax (v:=.sl .full 0 []) _ _ (Ac 300 [pk,pga (aMI .full ([]:List Pc) ([]:List Pc) (o:=.nn) ⟨[],0,[],0⟩ rfl (by decide))]) (by kernel_rfl) .body (.wn (.z .nil) rfl))) rfl rfl;exact CN Hd.mixed Hd.Aa (Au Tryz.func61 b61 (Ax (v:=.sl (.row 0 3) s.length (rows IE s)) _ _ (Ac 300 [pk,Qg (Lx.aMM u24 u24 i64 (by decide) .full ([]:List Pc) s (o:=.nn) (Wn.refl _) rfl (Lx.oB (λ_=>rfl) s) hm (by rw[List.length_nil,Nat.zero_add];exact hl) (by simp;omega))]) (by kernel_rfl) .body (.wn (.s rfl .nil) (Lx.Ks s)))) (A3 (aGS (Lx.A3 s)) rfl) (Lx.Ks s)
def B60:Code:=AY Tryz.f60
def b60:Tryz.f60.body=some B60:=by kernel_rfl
def acT{s:List Nd}(hm:¬s.length=0)(hl:s.length<=100000000):Sound P (G mx) (.call 60 [.sl .nn s.length (Bi s)] ⟨[],0,[],0⟩ (.ret (.msl 0 0 s.length)) ⟨[(0,.cells (Bi s))],1,[],0⟩):=by
 refine aCF Hd.mixed (abO (m:=1) Tryz.func60 b60 ?_);exact anY (n:=1) (m0:=0) Hd.Aa _ _ [0] [1] [⟨.msl 0 0 s.length,.msl 0 0 s.length,(.under rfl)⟩] [fbp (Bi s) (AE.A3 s)] _ _ (Ac 300 [pk,aPI (aDI s (o:=.nn) hm hl)]) (Nat.zero_le _) (Nat.zero_le _) (by kernel_rfl) .body
def nnI{c:Cx}{w:World}{n:Nat}{cs:List AV}{v:Value}(hm:¬n=0)(h:Rp c w (.sl .lost n cs) v):Rp c w (.sl .nn n cs) v:=by
 cases h with
 | sl0 _=>exact absurd rfl hm
 | Ll hn hc _=>exact .Ll hn hc trivial
def acR{s:List Nd}(hm:¬s.length=0)(hl:s.length<=100000000):Sound P (G mx) (.call 60 [.sl .lost s.length (Bi s)] ⟨[],0,[],0⟩ (.ret (.msl 0 0 s.length)) ⟨[(0,.cells (Bi s))],1,[],0⟩):=by
 intro cx w vs hs ha;refine acT hm hl cx w vs hs ?_;cases ha with
 | cons h1 t=>exact .cons (nnI hm h1) t
def acS{s:List Nd}(hm:¬s.length=0)(hl:s.length<=100000000)(nx nr:Nat):Cd.ok P (G mx) (.aK 60 [.sl .lost s.length (Bi s)] nx nr (.msl (nx+0) 0 s.length) [((nx+0),.cells (Bi s))] 1 [] 0) :=
 ayF Hd.Aa (acR hm hl) (A3 (AE.Ks s) rfl) (.msl (by decide)) (.cons (.cells (.pl (AE.A3 s))) .nil)
end Mo
end Go.Proofs.YtpbkhogolfegfaaGreatDoor
namespace Go.Proofs.YtpbkhogolfegfaaGreatDoor
open AI Go
namespace Mo
set_option maxRecDepth 100000
set_option maxHeartbeats 4000000
variable {mx:Int}
def H5:Code:=AY Tryz.f24
def b24:Tryz.f24.body=some H5:=by kernel_rfl
def uP:P.underlying 88=some (.slice 87):=by kernel_rfl
def sE:(P.info? 87).map (·.size)=some 1:=by kernel_rfl
def dE:(P.underlying 87).map Ob=some false:=by kernel_rfl
def sL:(P.info? 27).map (·.size)=some 1:=by kernel_rfl
def dL:(P.underlying 27).map Ob=some false:=by kernel_rfl
def sQ:(P.info? 24).map (·.size)=some 1:=by kernel_rfl
def dQ:(P.underlying 24).map Ob=some false:=by kernel_rfl
def sI:(P.info? 3).map (·.size)=some 1:=by kernel_rfl
def zN(n:Nd):Nd:=⟨n.kind,n.name,n.unit,n.n,n.fr,n.to,n.known,n.CO,n.kids,0⟩
def KX(L:List Nd)(i:Nat):List Nd:=(L.take i).map zN++L.drop i
def agP(L:List Nd):KX L 0=L:=by simp[KX]
def apI(L:List Nd):KX L L.length=L.map zN:=by simp[KX]
def uM(L:List Nd)(i:Nat)(h:i<=L.length):(KX L i).length=L.length:=by simp[KX];omega
def apJ{L:List Nd}{i:Nat}{x:Nd}(h:L[i]?=some x):(KX L i)[i]?=some x:=by
 have hl:=(List.getElem?_eq_some_iff.1 h).1;unfold KX;rw[List.getElem?_append_right (by simp;omega),List.getElem?_drop];simp only[List.length_map,List.length_take];rw[show min i L.length=i by omega,Nat.sub_self,Nat.add_zero];exact h
def kL{L:List Nd}{i:Nat}{x:Nd}(h:L[i]?=some x):(KX L i).set i (zN x)=KX L (i+1):=by
 obtain⟨hl,hx⟩:=List.getElem?_eq_some_iff.1 h;unfold KX;have e1:L.drop i=x::L.drop (i+1):=by rw[<- hx];exact List.drop_eq_getElem_cons hl
 have e2:L.take (i+1)=L.take i++[x]:=by rw[<- hx];exact(List.take_append_getElem hl).symm
 rw[e1,e2,List.set_append_right _ _ (by simp;omega),List.map_append,List.append_assoc];simp only[List.length_map,List.length_take];rw[show i - min i L.length=0 by omega];rfl
def lY{α:Type}{l:List α}{i:Nat}{x:α}(h:l[i]?=some x):l.set i x=l:=by
 obtain⟨hl,hx⟩:=List.getElem?_eq_some_iff.1 h;rw[<- hx];exact List.set_getElem_self hl
def pAt(nx:Nat)(L:List Nd)(i:Nat):List (Nat×Nat):=match L[i]? with
 | some k=>(match k.kids with
   | []=>[]
   | _::_=>[(nx,0+i*11+9)])
 | none=>[]
def kP(nx:Nat)(L:List Nd)(i:Nat):List (Nat×Nat):=(List.range i).flatMap (pAt nx L)
def Xn(nx:Nat)(L:List Nd)(i:Nat):kP nx L (i+1)=kP nx L i++pAt nx L i:=by unfold kP;rw[List.range_succ,List.flatMap_append];simp
def ahI(nx:Nat)(L:List Nd)(i:Nat):(pAt nx L i).length<=1:=by
 unfold pAt;split;split<;>simp
 simp
def avK(nx:Nat)(L:List Nd):∀i:Nat,(kP nx L i).length<=i
 | 0=>by simp[kP]
 | i+1=>by rw[Xn,List.length_append];have:=avK nx L i;have:=ahI nx L i;omega
abbrev FOs(g k cap:Nat)(j:List Value):List AV:=fr 72 [(2,.ptr 1 0),(3,.ptr 2 0),(4,.raw (some ⟨g,0,none⟩) k cap)] [13,36,61] j
abbrev FT(g k cap id off:Nat)(j:List Value):List AV:=fr 72 [(2,.ptr 1 0),(3,.ptr 2 0),(4,.raw (some ⟨g,0,none⟩) k cap),(5,.ptr id off)] [13,36,61] j
abbrev FI(g k cap id off n i:Nat)(j:List Value):List AV:=fr 72 [(2,.ptr 1 0),(3,.ptr 2 0),(4,.raw (some ⟨g,0,none⟩) k cap),(5,.ptr id off),(34,.sc (.int .i64 n)),(35,.sc (.int .i64 i))] [13,36,61] j
abbrev FL(g k cap id off n i:Nat)(j:List Value):List AV:=fr 72 [(2,.ptr 1 0),(3,.ptr 2 0),(4,.raw (some ⟨g,0,none⟩) k cap),(5,.ptr id off),(6,.sc (.int .i64 i)),(34,.sc (.int .i64 n)),(35,.sc (.int .i64 i))] [13,36,61] j
abbrev FK(g k cap id off n i nx:Nat)(j:List Value):List AV:=fr 72 [(2,.ptr 1 0),(3,.ptr 2 0),(4,.raw (some ⟨g,0,none⟩) k cap),(5,.ptr id off),(7,.ptr nx (0+i*11)),(34,.sc (.int .i64 n)),(35,.sc (.int .i64 i))] [13,36,61] j
section
variable {b:Nat} {B:Nat->Nat->Prop} {w0:World} {g cap:Nat} {ps:List (Nat×Nat)} {s:AS} {Q:QE} {j:List Value}
def aMN{k:Nat}(h:k≠0):Ev 0 ((k:Nat):Int)=true:=Ij (by omega)
def aeW(t:Bool)(k:Nat)(hB:Ev 0 ((k:Nat):Int)=t)(h:∀f,Bd (G mx) f (.tmp 13)=some (.sc (.bool t))->wkF f (FOs g k cap (js 3 j [(0,.bool t)]))=FOs g k cap (js 3 j [(0,.bool t)])->Q .normal f s (Et b B w0 g cap ps)):WE P (G mx) (Et b B w0 g cap ps) (sb H5 480) (FOs g k cap j) s Q:=by
 have hr:Sv (sb H5 480) 3=true:=by kernel_rfl
 refine .reg hr ?_;show PQ P (G mx) _ _ [0,1,2] _ _ _;refine .q Hd.mixed Et.Hh hr (by decide) (.raw (some ⟨g,0,none⟩) k cap) (by kernel_rfl) (by kernel_rfl) ?_;refine .len hr (by decide) (x:=.tmp 11) (t:=88) (A:=some ⟨g,0,none⟩) (k:=k) (cap:=cap) (by kernel_rfl) uP (by kernel_rfl) ?_;refine .hb Hd.mixed Et.Hh hr (by decide) t hB (by kernel_rfl) ?_;exact .nil (h _ (by kernel_rfl) (by kernel_rfl))
def aGT{p:Nat×Nat}(hk:ps.length<=100000000)(h:WE P (G mx) (Et b B w0 g cap ps) (sb H5 1931) (FT g ps.length cap p.1 p.2 j) s Q):WE P (G mx) (Et b B w0 g cap (ps++[p])) (sb H5 482) (FOs g (ps++[p]).length cap j) s Q:=by
 have hw:LS (((ps++[p]).length:Nat):Int) 1=((ps.length:Nat):Int):=by
   rw[List.length_append,List.length_singleton,KQ (by omega)];omega
 refine .Tb (x:=sb H5 964) (y:=sb H5 965) (by kernel_rfl) ?_;have hr:Sv (sb H5 964) 7=true:=by kernel_rfl
 refine .reg hr ?_;show PQ P (G mx) _ _ [0,1,2,3,4,5,6] _ _ _;refine .q Hd.mixed Et.Hh hr (by decide) (.raw (some ⟨g,0,none⟩) (ps++[p]).length cap) (by kernel_rfl) (by kernel_rfl) ?_;refine .q Hd.mixed Et.Hh hr (by decide) (.raw (some ⟨g,0,none⟩) (ps++[p]).length cap) (by kernel_rfl) (by kernel_rfl) ?_;refine .len hr (by decide) (x:=.tmp 15) (t:=88) (A:=some ⟨g,0,none⟩) (k:=(ps++[p]).length) (cap:=cap) (by kernel_rfl) uP (by kernel_rfl) ?_;refine .hi Hd.mixed Et.Hh hr (by decide) ((ps.length:Nat):Int) hw (by kernel_rfl) ?_;refine .top hr (by decide) (t:=88) (t2:=87) (e:=87) (d:=18) (x:=.tmp 14) (y:=.tmp 17) (by kernel_rfl) (by kernel_rfl) (by kernel_rfl) uP sE dE sE (by kernel_rfl) (by kernel_rfl) (by kernel_rfl) ?_;refine .q Hd.mixed Et.Hh hr (by decide) (.ptr p.1 p.2) (by kernel_rfl) (by kernel_rfl) ?_;refine .nil ⟨rfl,?_⟩;refine .wk (fr2:=FT g (ps++[p]).length cap p.1 p.2 j) (by kernel_rfl) ?_;refine .Tb (x:=sb H5 1930) (y:=sb H5 1931) (by kernel_rfl) ?_;have hr:Sv (sb H5 1930) 6=true:=by kernel_rfl
 refine .reg hr ?_;show PQ P (G mx) _ _ [0,1,2,3,4,5] _ _ _;refine .q Hd.mixed Et.Hh hr (by decide) (.raw (some ⟨g,0,none⟩) (ps++[p]).length cap) (by kernel_rfl) (by kernel_rfl) ?_;refine .q Hd.mixed Et.Hh hr (by decide) (.raw (some ⟨g,0,none⟩) (ps++[p]).length cap) (by kernel_rfl) (by kernel_rfl) ?_;refine .len hr (by decide) (x:=.tmp 21) (t:=88) (A:=some ⟨g,0,none⟩) (k:=(ps++[p]).length) (cap:=cap) (by kernel_rfl) uP (by kernel_rfl) ?_;refine .hi Hd.mixed Et.Hh hr (by decide) ((ps.length:Nat):Int) hw (by kernel_rfl) ?_;refine .aPJ hr (by decide) (t:=88) (e:=87) (x:=.tmp 20) (y:=.tmp 23) (by kernel_rfl) uP sE (by kernel_rfl) (by kernel_rfl) ?_;refine .q Hd.mixed Et.Hh hr (by decide) (.raw (some ⟨g,0,none⟩) ps.length cap) (by kernel_rfl) (by kernel_rfl) ?_;refine .nil ⟨rfl,?_⟩;exact .wk (by kernel_rfl) h
variable {id off nx:Nat} {L:List Nd}
def anE{H:List (Nat×AM)}{cs:List AV}(hid:id < nx)(Xk:AI.look id H=some (.cells cs))(U1:cs[off]?=some (.sl .lost L.length (Bi L)))(hL:¬L.length=0)(hl:L.length<=100000000)
   (h:WE P (G mx) (Et b B w0 g cap ps) (sb H5 7727) (FI g ps.length cap id off L.length 0 j) ⟨(nx,.cells (Bi L))::Ry id (.cells (cs.set off (.msl nx 0 L.length))) H,nx+1,[],0⟩ Q) :
   WE P (G mx) (Et b B w0 g cap ps) (sb H5 1931) (FT g ps.length cap id off j) ⟨H,nx,[],0⟩ Q:=by
 have hne:nx≠id:=by omega
 have hlt:=(List.getElem?_eq_some_iff.1 U1).1;have aMW:(cs.set off (.msl nx 0 L.length))[off]?=some (.msl nx 0 L.length):=List.getElem?_set_self hlt;refine .Tb (x:=sb H5 3862) (y:=sb H5 3863) (by kernel_rfl) ?_;refine .run Hd.mixed Et.Hh [qV (x:=AI.look id H) (aJ dL sL U1) Xk,aBE (acS hL hl nx 0),aqH (x:=AI.look id ((nx,.cells (Bi L))::H)) (v:=.msl nx 0 L.length) (off:=off) (acA (cs2:=cs.set off (.msl nx 0 L.length)) sL hlt rfl) ((eY hne).trans Xk)] (e:=.normal) (fr2:=FT g ps.length cap id off j) (s2:=⟨Ry id (.cells (cs.set off (.msl nx 0 L.length))) ((nx,.cells (Bi L))::H),nx+1,[],0⟩) (by kernel_rfl) (by intro v h;cases h) ⟨rfl,?_⟩;rw[aCV hne];refine .Tb (x:=sb H5 7726) (y:=sb H5 7727) (by kernel_rfl) ?_;exact .rJ Hd.mixed Et.Hh [qV (x:=AI.look id ((nx,.cells (Bi L))::Ry id (.cells (cs.set off (.msl nx 0 L.length))) H)) (aJ dL sL aMW) ((eY hne).trans (YP Xk))] (e:=.normal) (fr2:=FI g ps.length cap id off L.length 0 j) (by kernel_rfl) (by intro v h;cases h) ⟨rfl,h⟩
def aBJ{i n:Nat}{s:AS}(hk:ps.length+1<=100000000):WE P (G mx) (Et b B w0 g cap ps) (sb H5 31650622) (FK g ps.length cap id off n i nx j) s (λe f s' E=>∃g' cap',e=.normal/\wkF f (FK g' (ps++[(nx,0+i*11+9)]).length cap' id off n i nx j)=FK g' (ps++[(nx,0+i*11+9)]).length cap' id off n i nx j/\s'=s/\E=Et b B w0 g' cap' (ps++[(nx,0+i*11+9)])):=by
 have hr:Sv (sb H5 31650622) 7=true:=by kernel_rfl
 refine .reg hr ?_;show PQ P (G mx) _ _ [0,1,2,3,4,5,6] _ _ _;refine .q Hd.mixed Et.Hh hr (by decide) (.raw (some ⟨g,0,none⟩) ps.length cap) (by kernel_rfl) (by kernel_rfl) ?_;refine .q Hd.mixed Et.Hh hr (by decide) (.ptr nx (0+i*11)) (by kernel_rfl) (by kernel_rfl) ?_;refine .q Hd.mixed Et.Hh hr (by decide) (.ptr nx (0+i*11)) (by kernel_rfl) (by kernel_rfl) ?_;refine .q Hd.mixed Et.Hh hr (by decide) (.ptr nx (0+i*11+9)) (by kernel_rfl) (by kernel_rfl) ?_;refine .q Hd.mixed Et.Hh hr (by decide) (.sl .full 1 [.ptr nx (0+i*11+9)]) (by kernel_rfl) (by kernel_rfl) ?_;refine .push hr (by decide) (t:=88) (tx:=88) (e:=87) (e2:=87) (id:=nx) (off:=0+i*11+9) (x:=.tmp 62) (y:=.tmp 66) (by kernel_rfl) uP uP (by kernel_rfl) (by kernel_rfl) (by kernel_rfl) hk (λg' cap'=>?_);refine .q Hd.mixed Et.Hh hr (by decide) (.raw (some ⟨g',0,none⟩) (ps++[(nx,0+i*11+9)]).length cap') (by kernel_rfl) (by kernel_rfl) ?_;exact .nil ⟨g',cap',rfl,by kernel_rfl,rfl,rfl⟩
def agW{T:List (Nat×AM)}{cs:List AV}{i:Nat}{x:Nd}(hid:id < nx)(Xk:AI.look id T=some (.cells cs))(U1:cs[off]?=some (.msl nx 0 L.length))(hx:L[i]?=some x)(hp:x.CO.ps.length*24<=140737488355328)(t:Bool)(hB:Ev 0 ((x.kids.length:Nat):Int)=t)
   (h:WE P (G mx) (Et b B w0 g cap ps) (sb H5 15825311) (FK g ps.length cap id off L.length i nx (js 3 j [(2,.bool t)])) ⟨(nx,.cells (Bi (KX L (i+1))))::T,nx+1,[],0⟩ Q) :
   WE P (G mx) (Et b B w0 g cap ps) (sb H5 494540) (FI g ps.length cap id off L.length i j) ⟨(nx,.cells (Bi (KX L i)))::T,nx+1,[],0⟩ Q:=by
 have hi:=(List.getElem?_eq_some_iff.1 hx).1;have hne:nx≠id:=by omega
 have aNJ:∀b:AM,AI.look id ((nx,b)::T)=some (.cells cs):=λb=>(eY hne).trans Xk;have hm:=apJ hx;have hl:=uM L i (by omega);have hm2:(KX L (i+1))[i]?=some (zN x):=by rw[<- kL hx];exact List.getElem?_set_self (by omega)
 have hl2:=uM L (i+1) (by omega);have hN:∀y:Nd,(CW y).length=11:=λ_=>rfl;refine .Tb (x:=sb H5 989080) (y:=sb H5 989081) (by kernel_rfl) ?_;refine .rJ Hd.mixed Et.Hh [] (e:=.normal) (fr2:=FL g ps.length cap id off L.length i j) (by kernel_rfl) (by intro v h;cases h) ⟨rfl,?_⟩;refine .Tb (x:=sb H5 1978162) (y:=sb H5 1978163) (by kernel_rfl) ?_;refine .rJ Hd.mixed Et.Hh [qV (x:=AI.look id ((nx,.cells (Bi (KX L i)))::T)) (aJ dL sL U1) (aNJ _),IR (avI (id:=nx) hi)] (e:=.normal) (fr2:=FK g ps.length cap id off L.length i nx j) (by kernel_rfl) (by intro v h;cases h) ⟨rfl,?_⟩;refine .Tb (x:=sb H5 3956326) (y:=sb H5 3956327) (by kernel_rfl) ?_;refine .run Hd.mixed Et.Hh [aqH (x:=AI.look nx ((nx,.cells (Bi (KX L i)))::T)) (v:=.sc (.int .i64 0)) (off:=0+i*11+10) (acA (cs2:=Bi ((KX L i).set i (zN x))) sI (by rw[Mi,HV hN,hl];omega) (by rw[Mi,Mi,lR hN (j:=10) (y:=zN x) (v:=.sc (.int .i64 0)) hm (by decide) rfl,Nat.zero_add])) Xo] (e:=.normal) (fr2:=FK g ps.length cap id off L.length i nx j) (s2:=⟨Ry nx (.cells (Bi ((KX L i).set i (zN x)))) ((nx,.cells (Bi (KX L i)))::T),nx+1,[],0⟩) (by kernel_rfl) (by intro v h;cases h) ⟨rfl,?_⟩;rw[akK,kL hx]
 have c8:(Bi (KX L (i+1)))[0+i*11+7+1]?=some (.sl .lost x.CO.ps.length (rows IE x.CO.ps)):=by
   rw[Mi,show 0+i*11+7+1=i*11+8 by omega,fT hN hm2 (by decide)];rfl
 have c9:(Bi (KX L (i+1)))[0+i*11+9]?=some (.sl .lost x.kids.length (Bi x.kids)):=by
   rw[Mi,Nat.zero_add,fT hN hm2 (by decide)];rfl
 refine .Tb (x:=sb H5 7912654) (y:=sb H5 7912655) (by kernel_rfl) ?_;refine .run Hd.mixed Et.Hh [qV (x:=AI.look nx ((nx,.cells (Bi (KX L (i+1))))::T)) (aJ dQ sQ c8) Xo,AG (aqC hp),aqH (x:=AI.look nx ((nx,.cells (Bi (KX L (i+1))))::T)) (off:=0+i*11+7+1) (acA (cs2:=Bi (KX L (i+1))) sQ (by rw[Mi,HV hN,hl2];omega) (lY c8).symm) Xo] (e:=.normal) (fr2:=FK g ps.length cap id off L.length i nx j) (s2:=⟨Ry nx (.cells (Bi (KX L (i+1)))) ((nx,.cells (Bi (KX L (i+1))))::T),nx+1,[],0⟩) (by kernel_rfl) (by intro v h;cases h) ⟨rfl,?_⟩;rw[akK];refine .Tb (x:=sb H5 15825310) (y:=sb H5 15825311) (by kernel_rfl) ?_;exact .rJ Hd.mixed Et.Hh [qV (x:=AI.look nx ((nx,.cells (Bi (KX L (i+1))))::T)) (aJ dL sL c9) Xo,pb hB] (e:=.normal) (fr2:=FK g ps.length cap id off L.length i nx (js 3 j [(2,.bool t)])) (by kernel_rfl) (by intro v h;cases h) ⟨rfl,h⟩
def apY{i:Nat}{x:Nd}(hx:L[i]?=some x)(hk:x.kids=[]):pAt nx L i=[]:=by unfold pAt;rw[hx];simp only;rw[hk]
def apZ{i:Nat}{x:Nd}(hx:L[i]?=some x)(hk:x.kids≠[]):pAt nx L i=[(nx,0+i*11+9)]:=by
 unfold pAt;rw[hx];simp only;cases h:x.kids with
 | nil=>exact absurd h hk
 | cons a l=>rfl
def aqV{T:List (Nat×AM)}{cs:List AV}{i:Nat}{x:Nd}(hid:id < nx)(Xk:AI.look id T=some (.cells cs))(U1:cs[off]?=some (.msl nx 0 L.length))(hx:L[i]?=some x)(hp:x.CO.ps.length*24<=140737488355328)(hb:(ps++kP nx L i).length+1<=100000000)(hi6:i < 9223372036854775807)
   (h:∀g' cap' j',Q .normal (FI g' (ps++kP nx L (i+1)).length cap' id off L.length (i+1) j') ⟨(nx,.cells (Bi (KX L (i+1))))::T,nx+1,[],0⟩ (Et b B w0 g' cap' (ps++kP nx L (i+1)))) :
   WE P (G mx) (Et b B w0 g cap (ps++kP nx L i)) (sb H5 123635) (FI g (ps++kP nx L i).length cap id off L.length i j) ⟨(nx,.cells (Bi (KX L i)))::T,nx+1,[],0⟩ Q:=by
 have fin:∀g' cap' j',WE P (G mx) (Et b B w0 g' cap' (ps++kP nx L (i+1))) (sb H5 247271) (FK g' (ps++kP nx L (i+1)).length cap' id off L.length i nx j') ⟨(nx,.cells (Bi (KX L (i+1))))::T,nx+1,[],0⟩ Q:=λg' cap' j' =>
   .rJ Hd.mixed Et.Hh [AI.pi hi6] (e:=.normal) (fr2:=FI g' (ps++kP nx L (i+1)).length cap' id off L.length (i+1) j') (by kernel_rfl) (by intro v h;cases h) (h g' cap' j')
 refine .Tb (x:=sb H5 247270) (y:=sb H5 247271) (by kernel_rfl) ?_;have hc:sb H5 247270=.block 3 (sb H5 494540):=by kernel_rfl
 rw[hc];refine .block ?_;by_cases hk:x.kids=[];have hs:kP nx L (i+1)=kP nx L i:=by rw[Xn,apY hx hk,List.append_nil]
 refine agW hid Xk U1 hx hp false (He (by rw[hk];simp)) ?_;refine .aN false (x:=sb H5 31650622) (y:=sb H5 31650623) (q:=.tmp 61) (by kernel_rfl) (by kernel_rfl) ?_;rw[if_neg (by decide),show sb H5 31650623=.skip by kernel_rfl];refine .skip ⟨rfl,?_⟩;have:=fin g cap (js 3 j [(2,.bool false)]);rwa[hs] at this;have hs:kP nx L (i+1)=kP nx L i++[(nx,0+i*11+9)]:=by rw[Xn,apZ hx hk]
 refine agW hid Xk U1 hx hp true (Ij (by have:=List.length_pos_iff.2 hk;omega)) ?_;refine .aN true (x:=sb H5 31650622) (y:=sb H5 31650623) (q:=.tmp 61) (by kernel_rfl) (by kernel_rfl) ?_;rw[if_pos rfl];refine(aBJ hb).mono ?_;rintro e f s' E ⟨g',cap',rfl,hf,rfl,rfl⟩;refine⟨rfl,.wk hf ?_⟩;have:=fin g' cap' (js 3 j [(2,.bool true)]);rwa[hs,<- List.append_assoc] at this
def aAO{T:List (Nat×AM)}{cs:List AV}(hid:id < nx)(Xk:AI.look id T=some (.cells cs))(U1:cs[off]?=some (.msl nx 0 L.length))(hp:∀x∈L,x.CO.ps.length*24<=140737488355328)(hb:ps.length+L.length<=100000000)
   (h:∀g' cap' j',Q .normal (FOs g' (ps++kP nx L L.length).length cap' j') ⟨(nx,.cells (Bi (L.map zN)))::T,nx+1,[],0⟩ (Et b B w0 g' cap' (ps++kP nx L L.length))) :
   WE P (G mx) (Et b B w0 g cap ps) (sb H5 7727) (FI g ps.length cap id off L.length 0 j) ⟨(nx,.cells (Bi L))::T,nx+1,[],0⟩ Q:=by
 rw[show sb H5 7727=.block 2 (.loop (sb H5 30908)) by kernel_rfl];refine .block ?_;refine .loop (λm f s E=>∃i g cap j,i+m=L.length/\f=FI g (ps++kP nx L i).length cap id off L.length i j/\s=⟨(nx,.cells (Bi (KX L i)))::T,nx+1,[],0⟩/\E=Et b B w0 g cap (ps++kP nx L i)) ?_ (m:=L.length) ⟨0,g,cap,j,by omega,by simp[kP],by rw[agP],by simp[kP]⟩;rintro m _ _ _ ⟨i,g,cap,j,him,rfl,rfl,rfl⟩;refine .seqB (x:=sb H5 61816) (y:=sb H5 61817) (by kernel_rfl) ?_;by_cases hi:i < L.length;refine .rJ Hd.mixed Et.Hh [pb (WD hi)] (e:=.normal) (fr2:=FI g (ps++kP nx L i).length cap id off L.length i (js 3 j [(1,.bool true)])) (by kernel_rfl) (by intro v h;cases h) (.inl ⟨rfl,?_⟩);refine .Tb (x:=sb H5 123634) (y:=sb H5 123635) (by kernel_rfl) ?_;refine .aN true (x:=sb H5 247268) (y:=sb H5 247269) (q:=.tmp 36) (by kernel_rfl) (by kernel_rfl) ?_;rw[if_pos rfl,show sb H5 247268=.skip by kernel_rfl];refine .skip ⟨rfl,?_⟩;have hx:L[i]?=some L[i]:=List.getElem?_eq_getElem hi;refine aqV hid Xk U1 hx (hp _ (List.getElem_mem hi)) (by rw[List.length_append];have:=avK nx L i;omega) (by omega) (λg' cap' j'=>.inl ⟨rfl,m - 1,by omega,i+1,g',cap',j',by omega,rfl,rfl,rfl⟩);have he:i=L.length:=by omega
 subst he;refine .rJ Hd.mixed Et.Hh [pb (fA (i:=L.length) (n:=L.length) (Nat.le_refl _))] (e:=.normal) (fr2:=FI g (ps++kP nx L L.length).length cap id off L.length L.length (js 3 j [(1,.bool false)])) (by kernel_rfl) (by intro v h;cases h) (.inl ⟨rfl,?_⟩);refine .seqB (x:=sb H5 123634) (y:=sb H5 123635) (by kernel_rfl) ?_;refine .aN false (x:=sb H5 247268) (y:=sb H5 247269) (q:=.tmp 36) (by kernel_rfl) (by kernel_rfl) ?_;rw[if_neg (by decide),show sb H5 247269=.exit 2 by kernel_rfl];refine .wk (fr2:=FOs g (ps++kP nx L L.length).length cap (js 3 j [(1,.bool false)])) (by kernel_rfl) (.exit (.inr ⟨(by intro h;cases h),.inr ⟨(by intro h;cases h),?_⟩⟩));rw[apI];exact h g cap _
end
abbrev Bx:=List (Nd×Option Nat)
def kcC(n:Nd):Option Nat->AV
 | none=>.sl .lost n.kids.length (Bi n.kids)
 | some id=>.msl id 0 n.kids.length
def kN(p:Nd×Option Nat):List AV:=[.sc (.int .i64 p.1.kind),.sc (.string p.1.name),.sc (.string p.1.unit),.sc (.int .i64 p.1.n),.sc (.int .i64 p.1.fr),.sc (.int .i64 p.1.to),.sc (.int .i64 p.1.known),.sc (.int .i64 p.1.CO.den),.sl .lost p.1.CO.ps.length (rows IE p.1.CO.ps),kcC p.1 p.2,.sc (.int .i64 p.1.AW)]
def bxC(l:Bx):List AV:=rows kN l
def Xr(p:Nd×Option Nat):(kN p).length=11:=rfl
def iM(L:List Nd):bxC (L.map λn=>(n,none))=Bi L:=by
 rw[Mi];unfold bxC rows;rw[List.flatMap_map];rfl
def a1:AM:=.cells [.sc (.int .i64 0),.sc (.string ByteArray.empty),.sc (.string ByteArray.empty),.sc (.int .i64 0),.sc (.int .i64 0),.sc (.int .i64 0),.sc (.int .i64 0),.sc (.int .i64 0),.sl .full 0 [],.sl .full 0 [],.sc (.int .i64 0)]
def rkC(n0:Nd):Option Nat->AV
 | none=>.sl .lost [n0].length (Bi [n0])
 | some c=>.msl c 0 [n0].length
def aDH(rk:Option Nat)(n0:Nd):List (Nat×AM):=[(2,.cells [rkC n0 rk]),(1,a1),(0,.cells (CW n0))]
def HH(rk:Option Nat)(n0:Nd)(M:List Bx):List (Nat×AM):=I9 (M.map λl=>.cells (bxC l)) 3 (aDH rk n0)
def sJ{rk:Option Nat}{n0:Nd}{M:List Bx}{id:Nat}(h:id < 3):AI.look id (HH rk n0 M)=AI.look id (aDH rk n0):=TC h
def abL{rk:Option Nat}{n0:Nd}{M:List Bx}{i:Nat}{l:Bx}(h:M[i]?=some l):AI.look (3+i) (HH rk n0 M)=some (.cells (bxC l)):=ZW (by rw[List.getElem?_map,h];rfl)
def amJ{rk:Option Nat}{n0:Nd}{M:List Bx}(c:Nat):Ry 2 (.cells [rkC n0 (some c)]) (HH rk n0 M)=HH (some c) n0 M:=Vq (by decide)
def awZ{rk:Option Nat}{n0:Nd}{M:List Bx}{i:Nat}{l:Bx}(hi:i < M.length):Ry (3+i) (.cells (bxC l)) (HH rk n0 M)=HH rk n0 (M.set i l):=by
 unfold HH;rw[gF (by simpa using hi),List.map_set]
def sK{rk:Option Nat}{n0:Nd}{M:List Bx}{l:Bx}:HH rk n0 (M++[l])=(3+M.length,.cells (bxC l))::HH rk n0 M:=by
 unfold HH;rw[List.map_append,List.map_singleton,qJ,List.length_map]
mutual
def cN:Nd->Nat
 | ⟨_,_,_,_,_,_,_,_,kids,_⟩=>1+cL kids
def cL:List Nd->Nat
 | []=>0
 | k::ks=>cN k+cL ks
end
def acI(n:Nd):cN n=1+cL n.kids:=by cases n;rw[cN]
def acF:∀l m:List Nd,cL (l++m)=cL l+cL m
 | [],m=>by simp[cL]
 | a::l,m=>by rw[List.cons_append,cL,cL,acF l m];omega
def acG:∀l:List Nd,l.length<=cL l
 | []=>by simp
 | a::l=>by rw[List.length_cons,cL,acI];have:=acG l;omega
mutual
def Vg:Nd->Prop
 | ⟨_,_,_,_,_,_,_,CO,kids,_⟩=>CO.ps.length*24<=140737488355328/\psL kids
def psL:List Nd->Prop
 | []=>True
 | k::ks=>Vg k/\psL ks
end
def vD:∀l:List Nd,psL l↔∀k∈l,Vg k
 | []=>by simp[psL]
 | a::l=>by rw[psL,vD l];simp
def NE(n:Nd):Vg n↔n.CO.ps.length*24<=140737488355328/\∀k∈n.kids,Vg k:=by cases n;rw[Vg,vD]
mutual
def Hp:Nd->Nd
 | ⟨kind,name,unit,n,fr,to,known,CO,kids,_⟩=>⟨kind,name,unit,n,fr,to,known,CO,stL kids,0⟩
def stL:List Nd->List Nd
 | []=>[]
 | k::ks=>Hp k::stL ks
end
def vV:∀l:List Nd,stL l=l.map Hp
 | []=>by rw[stL];rfl
 | k::l=>by rw[stL,vV l];rfl
def Jm(n:Nd):Hp n=⟨n.kind,n.name,n.unit,n.n,n.fr,n.to,n.known,n.CO,n.kids.map Hp,0⟩:=by cases n;rw[Hp,vV]
def ajD(n:Nd):Hp (zN n)=Hp n:=by rw[Jm,Jm];rfl
structure Inv(n0:Nd)(rk:Option Nat)(M:List Bx)(qs:List ((Nat×Nat)×List Nd)):Prop where
 aqF:∀q∈qs,(q.1=(2,0)/\rk=none/\q.2=[n0])\/∃(i a:Nat) (l:Bx) (m:Nd),q.1=(3+i,0+a*11+9)/\M[i]?=some l/\l[a]?=some (m,none)/\q.2=m.kids/\m.kids≠[]
 aDW:(qs.map (·.1)).Nodup
 all:(rk=none->(2,0)∈qs.map (·.1))/\∀(i a:Nat) (l:Bx) (m:Nd),M[i]?=some l->l[a]?=some (m,none)->m.kids≠[]->(3+i,0+a*11+9)∈qs.map (·.1)
 done:∀(i a:Nat) (l:Bx) (m:Nd) (c:Nat),M[i]?=some l->l[a]?=some (m,some c)->∃(i2:Nat) (l2:Bx),c=3+i2/\i < i2/\M[i2]?=some l2/\l2.map (·.1)=m.kids.map zN
 root:∀c,rk=some c->∃(i2:Nat) (l2:Bx),c=3+i2/\M[i2]?=some l2/\l2.map (·.1)=[zN n0]
 small:∀q∈qs,∀x∈q.2,Vg x
 zero:∀(i a:Nat) (l:Bx) (m:Nd) (c:Option Nat),M[i]?=some l->l[a]?=some (m,c)->m.AW=0
def mu(qs:List ((Nat×Nat)×List Nd)):Nat:=(qs.map λq=>1+cL q.2).sum
def fB(l m:List ((Nat×Nat)×List Nd)):mu (l++m)=mu l+mu m:=by simp[mu]
def agQ(qs:List ((Nat×Nat)×List Nd)):qs.length<=mu qs:=by
 induction qs with
 | nil=>simp
 | cons q qs ih =>
   have:mu (q::qs)=1+cL q.2+mu qs:=by simp[mu]
   rw[this,List.length_cons];omega
def qAt(nx:Nat)(L:List Nd)(i:Nat):List ((Nat×Nat)×List Nd):=match L[i]? with
 | some k=>(match k.kids with
   | []=>[]
   | x::y=>[((nx,0+i*11+9),x::y)])
 | none=>[]
def kQ(nx:Nat)(L:List Nd)(i:Nat):List ((Nat×Nat)×List Nd):=(List.range i).flatMap (qAt nx L)
def eU(nx:Nat)(L:List Nd)(i:Nat):kQ nx L (i+1)=kQ nx L i++qAt nx L i:=by unfold kQ;rw[List.range_succ,List.flatMap_append];simp
def fL(nx:Nat)(L:List Nd)(i:Nat):(qAt nx L i).map (·.1)=pAt nx L i:=by
 unfold qAt pAt;cases L[i]? with
 | none=>rfl
 | some k=>simp only;cases k.kids<;>rfl
def qB(nx:Nat)(L:List Nd):∀i:Nat,(kQ nx L i).map (·.1)=kP nx L i
 | 0=>rfl
 | i+1=>by rw[eU,Xn,List.map_append,qB nx L i,fL]
def YG{nx:Nat}{L:List Nd}{i:Nat}{q:(Nat×Nat)×List Nd}:q∈kQ nx L i↔∃a k,a < i/\L[a]?=some k/\k.kids≠[]/\q=((nx,0+a*11+9),k.kids):=by
 unfold kQ;simp only[List.mem_flatMap,List.mem_range];constructor;rintro⟨a,ha,hq⟩;unfold qAt at hq;split at hq;rename_i k hk;split at hq;cases hq;rename_i x y hy;rw[List.mem_singleton] at hq;exact⟨a,k,ha,hk,by rw[hy];simp,by rw[hq,hy]⟩;cases hq;rintro⟨a,k,ha,hk,hne,rfl⟩;refine⟨a,ha,?_⟩;unfold qAt;rw[hk];simp only;cases hy:k.kids with
 | nil=>exact absurd hy hne
 | cons x y=>simp
def avL(nx:Nat)(L:List Nd):∀i:Nat,mu (kQ nx L i)<=cL (L.take i)
 | 0=>by simp[kQ,mu]
 | i+1=>by
   rw[eU,fB];have ih:=avL nx L i;by_cases hi:i < L.length;rw[<- List.take_append_getElem hi,acF]
   have:mu (qAt nx L i)<=cL [L[i]]:=by
     unfold qAt;rw[List.getElem?_eq_getElem hi];simp only[cL,Nat.add_zero];rw[acI];cases hk:L[i].kids with
     | nil=>simp[mu]
     | cons x y=>simp[mu]
   omega;have:qAt nx L i=[]:=by unfold qAt;rw[List.getElem?_eq_none (by omega)]
   rw[this,List.take_of_length_le (by omega)];rw[List.take_of_length_le (by omega)] at ih;simp[mu] at ih ⊢;exact ih
def kD(nx:Nat)(L:List Nd):∀i:Nat,((kQ nx L i).map (·.1)).Nodup
 | 0=>by simp[kQ]
 | i+1=>by
   rw[eU,List.map_append];refine List.nodup_append.2 ⟨kD nx L i,?_,?_⟩;rw[fL];have:=ahI nx L i;cases h:pAt nx L i with
   | nil=>simp
   | cons a l=>rw[h] at this;simp at this;subst this;simp
   intro x hx y hy hxy;subst hxy;obtain⟨q,hq,rfl⟩:=List.mem_map.1 hx;obtain⟨a,k,ha,_,_,rfl⟩:=YG.1 hq;rw[fL] at hy;unfold pAt at hy;split at hy;split at hy;cases hy;rw[List.mem_singleton] at hy;injection hy with _ h2
   omega;cases hy
def oH{L:List Nd}{a:Nat}{p:Nd×Option Nat}(h:(((L.map zN).map λn=>((n,none):Nd×Option Nat)))[a]?=some p):∃k,L[a]?=some k/\p=(zN k,none):=by
 rw[List.getElem?_map,List.getElem?_map] at h;cases hk:L[a]? with
 | none=>rw[hk] at h;cases h
 | some k=>rw[hk] at h;cases h;exact⟨k,rfl,rfl⟩
def anV{l:Bx}{a:Nat}{m:Nd}{c d:Option Nat}(h:l[a]?=some (m,c)):(l.set a (m,d)).map (·.1)=l.map (·.1):=by
 rw[List.map_set];exact lY (by rw[List.getElem?_map,h];rfl)
def YT{α:Type}{l:List α}{x y:α}(h:x∈l++[y])(hne:x≠y):x∈l:=by
 rcases List.mem_append.1 h with h | h
 exact h;exact absurd (List.mem_singleton.1 h) hne
section
variable {n0:Nd} {rk:Option Nat} {M:List Bx} {qs:List ((Nat×Nat)×List Nd)} {q:(Nat×Nat)×List Nd}
def Inv.low(h:Inv n0 rk M qs):∀q∈qs,q.1.1 < 3+M.length:=λq hq=>by
 rcases h.aqF q hq with ⟨e,_⟩ | ⟨i,a,l,m,e,hi,_⟩
 rw[e];show 2 < _;omega;rw[e];have:=(List.getElem?_eq_some_iff.1 hi).1;show 3+i < _;omega
def aoY(h:((qs++[q]).map (·.1)).Nodup):∀q2∈qs,q2.1≠q.1:=λq2 h2 e=>by
 rw[List.map_append] at h;exact(List.nodup_append.1 h).2.2 _ (List.mem_map_of_mem h2) _ (by simp) e
def afN(h:Inv n0 rk M (qs++[q])):∃(rk2:Option Nat) (M2:List Bx),Inv n0 rk2 M2 (qs++kQ (3+M.length) q.2 q.2.length)/\M2.length=M.length+1/\q.1.1 < 3+M.length/\q.2.length≠0 /\
   ∃cs,AI.look q.1.1 (HH rk n0 M)=some (.cells cs)/\cs[q.1.2]?=some (.sl .lost q.2.length (Bi q.2))/\HH rk2 n0 M2=(3+M.length,.cells (Bi (q.2.map zN)))::Ry q.1.1 (.cells (cs.set q.1.2 (.msl (3+M.length) 0 q.2.length))) (HH rk n0 M):=by
 have aFG:=h.low q (by simp);have hne:=aoY h.aDW
 have hsm:∀q2∈qs++kQ (3+M.length) q.2 q.2.length,∀x∈q2.2,Vg x:=λq2 h2 x hx=>by
   rcases List.mem_append.1 h2 with h2 | h2
   exact h.small q2 (by simp[h2]) x hx;obtain⟨a,k,ha,hk,_,rfl⟩:=YG.1 h2;exact((NE k).1 (h.small q (by simp) k (List.mem_of_getElem? hk))).2 x hx
 have avA:((qs++kQ (3+M.length) q.2 q.2.length).map (·.1)).Nodup:=by
   rw[List.map_append];refine List.nodup_append.2 ⟨?_,kD _ _ _,λx hx y hy e=>?_⟩;have:=h.aDW;rw[List.map_append] at this;exact(List.nodup_append.1 this).1;subst e;obtain⟨q2,h2,rfl⟩:=List.mem_map.1 hx;obtain⟨q3,h3,e3⟩:=List.mem_map.1 hy;obtain⟨a,k,_,_,_,rfl⟩:=YG.1 h3;have:=h.low q2 (by simp[h2]);rw[<- e3] at this;simp at this
 have uS:∀(M3:List Bx),M3[M.length]?=some ((q.2.map zN).map λn=>(n,none))->∀q2∈kQ (3+M.length) q.2 q.2.length,∃(i a:Nat) (l:Bx) (m:Nd),q2.1=(3+i,0+a*11+9)/\M3[i]?=some l/\l[a]?=some (m,none)/\q2.2=m.kids/\m.kids≠[]:=λM3 hM q2 h2=>by
   obtain⟨a,k,ha,hk,hkn,rfl⟩:=YG.1 h2;exact⟨M.length,a,_,zN k,rfl,hM,by rw[List.getElem?_map,List.getElem?_map,hk];rfl,rfl,hkn⟩
 have agV:∀(a:Nat) (m:Nd),(((q.2.map zN).map λn=>((n,none):Nd×Option Nat)))[a]?=some (m,none)->m.kids≠[]->(3+M.length,0+a*11+9)∈(qs++kQ (3+M.length) q.2 q.2.length).map (·.1):=λa m hm hk=>by
   obtain⟨k,hk2,e⟩:=oH hm;injection e with e1 _
   subst e1;rw[List.map_append];refine List.mem_append.2 (.inr (List.mem_map.2 ⟨_,YG.2 ⟨a,k,(List.getElem?_eq_some_iff.1 hk2).1,hk2,hk,rfl⟩,rfl⟩))
 have uR:∀(a:Nat) (m:Nd) (c:Nat),(((q.2.map zN).map λn=>((n,none):Nd×Option Nat)))[a]?=some (m,some c)->False:=λa m c hm=>by
   obtain⟨k,_,e⟩:=oH hm;injection e with _ e2
   cases e2
 have uT:∀(a:Nat) (m:Nd) (c:Option Nat),(((q.2.map zN).map λn=>((n,none):Nd×Option Nat)))[a]?=some (m,c)->m.AW=0:=λa m c hm=>by
   obtain⟨k,_,e⟩:=oH hm;injection e with e1 _
   rw[e1];rfl
 rcases h.aqF q (by simp) with ⟨e1,hrk,e2⟩ | ⟨i,a,l,m,e1,hi,ha,e2,hkn⟩
 · subst hrk
   have Px:∀{i:Nat} {l:Bx},i≠M.length->(M++[((q.2.map zN).map λn=>((n,none):Nd×Option Nat))])[i]?=some l->M[i]?=some l:=λ{i l} hi hl=>by
     have:=(List.getElem?_eq_some_iff.1 hl).1;rw[List.length_append,List.length_singleton] at this;rwa[List.getElem?_append_left (by omega)] at hl
   have ZS:∀{i:Nat} {l:Bx},M[i]?=some l->(M++[((q.2.map zN).map λn=>((n,none):Nd×Option Nat))])[i]?=some l:=λ{i l} hl=>by
     rw[List.getElem?_append_left (List.getElem?_eq_some_iff.1 hl).1];exact hl
   have L3:(M++[((q.2.map zN).map λn=>((n,none):Nd×Option Nat))])[M.length]?=some ((q.2.map zN).map λn=>(n,none)):=List.getElem?_concat_length
   have hzero:∀(i a:Nat) (l:Bx) (m:Nd) (c:Option Nat),(M++[((q.2.map zN).map λn=>((n,none):Nd×Option Nat))])[i]?=some l->l[a]?=some (m,c)->m.AW=0:=λi a l m c hi ha=>by
     by_cases jU:i=M.length;subst jU;rw[L3] at hi;cases hi;exact uT a m c ha;exact h.zero i a l m c (Px jU hi) ha
   refine⟨some (3+M.length),M++[(q.2.map zN).map λn=>(n,none)],⟨λq2 h2=>?_,avA,⟨(λh=>nomatch h),λi a l m hi ha hk=>?_⟩,λi a l m c hi ha=>?_,λc hc=>?_,hsm,hzero⟩,by simp,aFG,by rw[e2];simp,[rkC n0 none],?_,?_,?_⟩;rcases List.mem_append.1 h2 with h2 | h2
   rcases h.aqF q2 (by simp[h2]) with ⟨e3,_,_⟩ | ⟨i,a,l,m,f1,f2,f3,f4,f5⟩
   exact absurd (e3.trans e1.symm) (hne q2 h2);exact .inr ⟨i,a,l,m,f1,ZS f2,f3,f4,f5⟩;exact .inr (uS _ L3 q2 h2);by_cases jU:i=M.length;subst jU;rw[L3] at hi;cases hi;exact agV a m ha hk;have:=h.all.2 i a l m (Px jU hi) ha hk;rw[List.map_append] at this ⊢;refine List.mem_append.2 (.inl (YT this (by show _≠q.1;rw[e1];intro h;injection h with h _;omega)))
   · by_cases jU:i=M.length
     subst jU;rw[L3] at hi;cases hi;exact(uR a m c ha).elim
     · obtain⟨i2,l2,f1,f2,f3,f4⟩:=h.done i a l m c (Px jU hi) ha
       exact⟨i2,l2,f1,f2,ZS f3,f4⟩
   cases hc;exact⟨M.length,_,rfl,L3,by rw[e2];rfl⟩;rw[e1];exact sJ (by decide);rw[e1,e2];rfl;rw[sK,iM,e1,e2];congr 1;exact(amJ (rk:=none) (3+M.length)).symm
 · have hiL:=(List.getElem?_eq_some_iff.1 hi).1
   have haL:=(List.getElem?_eq_some_iff.1 ha).1;have hlen:(M.set i (l.set a (m,some (3+M.length)))).length=M.length:=List.length_set
   have L3:(M.set i (l.set a (m,some (3+M.length)))++[((q.2.map zN).map λn=>((n,none):Nd×Option Nat))])[M.length]?=some ((q.2.map zN).map λn=>(n,none)):=by
     have:=List.getElem?_concat_length (l:=M.set i (l.set a (m,some (3+M.length)))) (a:=(q.2.map zN).map λn=>((n,none):Nd×Option Nat));rwa[hlen] at this
   have tX:(M.set i (l.set a (m,some (3+M.length)))++[((q.2.map zN).map λn=>((n,none):Nd×Option Nat))])[i]?=some (l.set a (m,some (3+M.length))):=by
     rw[List.getElem?_append_left (by rw[hlen];exact hiL),List.getElem?_set_self hiL]
   have Px:∀{i2:Nat} {l2:Bx},i2≠M.length->i2≠i->(M.set i (l.set a (m,some (3+M.length)))++[((q.2.map zN).map λn=>((n,none):Nd×Option Nat))])[i2]?=some l2->M[i2]?=some l2:=λ{i2 l2} h1 h2 hl=>by
     have:=(List.getElem?_eq_some_iff.1 hl).1;rw[List.length_append,List.length_singleton,hlen] at this;rwa[List.getElem?_append_left (by rw[hlen];omega),List.getElem?_set_ne (λe=>h2 e.symm)] at hl
   have ZS:∀{i2:Nat} {l2:Bx},M[i2]?=some l2->∃l3,(M.set i (l.set a (m,some (3+M.length)))++[((q.2.map zN).map λn=>((n,none):Nd×Option Nat))])[i2]?=some l3/\l3.map (·.1)=l2.map (·.1)/\∀b p,(i2,b)≠(i,a)->l2[b]?=some p->l3[b]?=some p:=λ{i2 l2} hl=>by
     have hl2:=(List.getElem?_eq_some_iff.1 hl).1;by_cases h2:i2=i;subst h2;rw[hi] at hl;cases hl;exact⟨_,tX,anV ha,λb p hb hp=>by rw[List.getElem?_set_ne (λe=>hb (by rw[e]))];exact hp⟩;exact⟨l2,by rw[List.getElem?_append_left (by rw[hlen];exact hl2),List.getElem?_set_ne (λe=>h2 e.symm)];exact hl,rfl,λb p _ hp=>hp⟩
   have hzero:∀(i2 a2:Nat) (l2:Bx) (m2:Nd) (c:Option Nat),(M.set i (l.set a (m,some (3+M.length)))++[((q.2.map zN).map λn=>((n,none):Nd×Option Nat))])[i2]?=some l2->l2[a2]?=some (m2,c)->m2.AW=0:=λi2 a2 l2 m2 c U2 aV=>by
     by_cases jU:i2=M.length;subst jU;rw[L3] at U2;cases U2;exact uT a2 m2 c aV;by_cases h2:i2=i;subst h2;rw[tX] at U2;cases U2;by_cases h3:a2=a;subst h3;rw[List.getElem?_set_self haL] at aV;cases aV;exact h.zero i2 a2 l _ none hi ha;rw[List.getElem?_set_ne (λe=>h3 e.symm)] at aV;exact h.zero i2 a2 l m2 c hi aV;exact h.zero i2 a2 l2 m2 c (Px jU h2 U2) aV
   refine⟨rk,M.set i (l.set a (m,some (3+M.length)))++[(q.2.map zN).map λn=>(n,none)],⟨λq2 h2=>?_,avA,⟨λhr=>?_,λi2 a2 l2 m2 U2 aV hk=>?_⟩,λi2 a2 l2 m2 c U2 aV=>?_,λc hc=>?_,hsm,hzero⟩,by simp,aFG,by rw[e2];exact λh=>hkn (List.eq_nil_of_length_eq_zero h),bxC l,?_,?_,?_⟩;rcases List.mem_append.1 h2 with h2 | h2
   rcases h.aqF q2 (by simp[h2]) with h3 | ⟨i2,a2,l2,m2,f1,f2,f3,f4,f5⟩
   exact .inl h3;obtain⟨l3,g1,_,g3⟩:=ZS f2;exact .inr ⟨i2,a2,l3,m2,f1,g1,g3 a2 _ (λe=>hne q2 h2 (by injection e with x y;rw[f1,e1,x,y])) f3,f4,f5⟩
   exact .inr (uS _ L3 q2 h2);have:=h.all.1 hr;rw[List.map_append] at this ⊢;refine List.mem_append.2 (.inl (YT this (by show _≠q.1;rw[e1];intro h;injection h with h _;omega)))
   by_cases jU:i2=M.length;subst jU;rw[L3] at U2;cases U2;exact agV a2 m2 aV hk
   have key:∀l4,M[i2]?=some l4->l4[a2]?=some (m2,none)->(i2,a2)≠(i,a)->(3+i2,0+a2*11+9)∈(qs++kQ (3+M.length) q.2 q.2.length).map (·.1):=λl4 h4 h5 h6=>by
     have:=h.all.2 i2 a2 l4 m2 h4 h5 hk;rw[List.map_append] at this ⊢
     refine List.mem_append.2 (.inl (YT this (by
       show _≠q.1;rw[e1];intro e;injection e with x y
       exact h6 (by rw[show i2=i by omega,show a2=a by omega]))))
   by_cases h2:i2=i;subst h2;rw[tX] at U2;cases U2;by_cases h3:a2=a;subst h3;rw[List.getElem?_set_self haL] at aV;cases aV;rw[List.getElem?_set_ne (λe=>h3 e.symm)] at aV;exact key l hi aV (λe=>by injection e with _ e;exact h3 e)
   exact key l2 (Px jU h2 U2) aV (λe=>by injection e with e _;exact h2 e)
   · by_cases jU:i2=M.length
     subst jU;rw[L3] at U2;cases U2;exact(uR a2 m2 c aV).elim
     · have old:∀l4,M[i2]?=some l4->l4[a2]?=some (m2,some c)->∃(i3:Nat) (l3:Bx),c=3+i3/\i2 < i3/\(M.set i (l.set a (m,some (3+M.length)))++[((q.2.map zN).map λn=>((n,none):Nd×Option Nat))])[i3]?=some l3/\l3.map (·.1)=m2.kids.map zN:=λl4 h4 h5=>by
         obtain⟨i3,l3,f1,f2,f3,f4⟩:=h.done i2 a2 l4 m2 c h4 h5;obtain⟨l5,g1,g2,_⟩:=ZS f3;exact⟨i3,l5,f1,f2,g1,g2.trans f4⟩
       by_cases h2:i2=i;subst h2;rw[tX] at U2;cases U2;by_cases h3:a2=a;subst h3;rw[List.getElem?_set_self haL] at aV;cases aV;exact⟨M.length,_,rfl,hiL,L3,by rw[e2,List.map_map];simp[Function.comp_def]⟩;rw[List.getElem?_set_ne (λe=>h3 e.symm)] at aV;exact old l hi aV;exact old l2 (Px jU h2 U2) aV
   obtain⟨i3,l3,f1,f2,f3⟩:=h.root c hc;obtain⟨l5,g1,g2,_⟩:=ZS f2;exact⟨i3,l5,f1,g1,g2.trans f3⟩;rw[e1];exact abL hi;rw[e1,e2];show(rows kN l)[0+a*11+9]?=_;rw[Nat.zero_add,fT Xr ha (by decide)];rfl;rw[sK,iM,hlen,e1];congr 1;rw[<- awZ (by exact hiL)];congr 2;rw[e2];show rows kN (l.set a (m,some (3+M.length)))=(rows kN l).set (0+a*11+9) _;rw[Nat.zero_add,lR Xr (j:=9) (y:=(m,some (3+M.length))) (v:=.msl (3+M.length) 0 m.kids.length) ha (by decide) rfl]
def uN{p:Nat×Nat}(L:List Nd)(nx:Nat):mu (qs++kQ nx L L.length) < mu (qs++[(p,L)]):=by
 rw[fB,fB];have:=avL nx L L.length;rw[List.take_length] at this;have h2:mu [(p,L)]=1+cL L:=by simp[mu]
 omega
end
section
variable {c:Cx} {w:World} {s:AS} {n0:Nd} {rk:Option Nat} {M:List Bx}
def aP(IQ:∀g i v,Me c w g i v->Me (c.upto 0 0) w g i v){m:Nd}{k:Option Nat}{X Y:List AV}{vs:List Value}(hz:m.AW=0)
   (hk:∀v,Rp c w (kcC m k) v->Rp (c.upto 0 0) w (.sl .lost (m.kids.map Hp).length (Bi (m.kids.map Hp))) v) (hX:∀us,CG c w X us->CG (c.upto 0 0) w Y us) (h:CG c w (kN (m,k)++X) vs):CG (c.upto 0 0) w (CW (Hp m)++Y) vs:=by
 have pl:∀{a:AV} {v:Value},plain a=true->Rp c w a v->Rp (c.upto 0 0) w a v:=λhp hr=>Rp.plain IQ hp hr;rw[Jm];cases h with
 | cons h0 h=>cases h with
 | cons h1 h=>cases h with
 | cons h2 h=>cases h with
 | cons h3 h=>cases h with
 | cons h4 h=>cases h with
 | cons h5 h=>cases h with
 | cons h6 h=>cases h with
 | cons h7 h=>cases h with
 | cons h8 h=>cases h with
 | cons h9 h=>cases h with
 | cons h10 h =>
   have h10:Rp c w (.sc (.int .i64 m.AW)) _:=h10;rw[hz] at h10;exact .cons (pl rfl h0) (.cons (pl rfl h1) (.cons (pl rfl h2) (.cons (pl rfl h3) (.cons (pl rfl h4) (.cons (pl rfl h5) (.cons (pl rfl h6) (.cons (pl rfl h7) (.cons (pl (Lx.Ks m.CO.ps) h8) (.cons (hk _ h9) (.cons (pl rfl h10) (hX _ h)))))))))))
def aML(hs:St (G mx) c w s)(hb:∀g,some g∈c.CX->∀i,¬c.bad g i)(hI:Inv n0 rk M [])(Px:∀i l,M[i]?=some l->s.get (3+i)=some (.cells (bxC l)))(IQ:∀g i v,Me c w g i v->Me (c.upto 0 0) w g i v) :
   ∀(d i:Nat) (l:Bx),M.length<=i+d->M[i]?=some l->∀g,c.CX[3+i]?=some (some g)->Be (c.upto 0 0) w g 0 (Bi (l.map λp=>Hp p.1)):=by
 intro d
 induction d with
 | zero=>intro i l hd hl;have:=(List.getElem?_eq_some_iff.1 hl).1;omega
 | succ d ih =>
   intro i l hd hl g hg;have hgm:=List.mem_of_getElem? hg;obtain⟨vs,ext,T,hw,hr⟩:=PX hs hg (Px i l hl)
   have key:∀(l2:Bx),(∀p∈l2,∃a:Nat,l[a]?=some p)->∀us,CG c w (rows kN l2) us->CG (c.upto 0 0) w (Bi (l2.map λp=>Hp p.1)) us:=by
     intro l2
     induction l2 with
     | nil=>intro _ us h;cases h;exact .nil
     | cons p l2 yO =>
       intro hm us h;obtain⟨m,k⟩:=p;obtain⟨a,ha⟩:=hm (m,k) (by simp);rw[FC] at h;rw[List.map_cons,AE.cons];refine aP IQ (hI.zero i a l m k hl ha) (λv hv=>?_) (λus hu=>yO (λp hp=>hm p (by simp[hp])) us hu) h;cases k with
       | none =>
         have hk:m.kids=[]:=by
           by_cases hk:m.kids=[];exact hk;exact absurd (hI.all.2 i a l m hl ha hk) (by simp)
         have hv:Rp c w (.sl .lost m.kids.length (Bi m.kids)) v:=hv;rw[hk] at hv ⊢;exact Rp.plain IQ rfl hv
       | some cc =>
         obtain⟨i2,l3,rfl,U2,hl3,hf⟩:=hI.done i a l m cc hl ha;have hv:Rp c w (.msl (3+i2) 0 m.kids.length) v:=hv;cases hv with
         | @msl _ _ _ g2 cap hn hid =>
           have h3:=ih i2 l3 (by omega) hl3 g2 hid
           have e:(l3.map λp=>Hp p.1)=m.kids.map Hp:=by
             have:=congrArg (List.map Hp) hf;rw[List.map_map,List.map_map] at this;rw[show(λp:Nd×Option Nat=>Hp p.1)=Hp∘(·.1) from rfl,this];exact List.map_congr_left λx _=>ajD x
           rw[e] at h3;rw[List.length_map];exact .Ll hn h3 trivial
   refine Be.O6 (key l (λp hp=>by obtain⟨a,ha⟩:=List.mem_iff_getElem?.1 hp;exact⟨a,ha⟩) vs hr) (λj v hj=>?_);rw[Nat.zero_add];refine⟨hs.MM g hgm,λGP=>?_,cell_of_heap hw (SF hj)⟩;rcases GP with GP | ⟨r,n',cap',NK,hr,_⟩ | GP
   simp[Cx.upto] at GP;simp[Cx.upto] at hr;exact hb g hgm j GP
def yB(hI:Inv n0 rk M [])(Px:∀i l,M[i]?=some l->s.get (3+i)=some (.cells (bxC l))){i:Nat}{k:Option Nat}(hl:M[i]?=some [(zN n0,k)]):sH (G mx) s (.agg (kN (zN n0,k))) (.agg (CW (Hp n0))):=by
 intro c w u hs hb hr
 have IQ:∀g i v,Me c w g i v->Me (c.upto 0 0) w g i v:=λg i v hv=>⟨hv.1,λGP=>by
   rcases GP with GP | ⟨r,n',cap',NK,hr,_⟩ | GP
   simp[Cx.upto] at GP;simp[Cx.upto] at hr;exact hv.2.1 (.inr (.inr GP)),hv.2.2⟩
 cases hr with
 | agg h =>
   have:=aP (X:=[]) (Y:=[]) IQ (m:=zN n0) (k:=k) rfl (λv hv=>?_) (λus hu=>by cases hu;exact .nil) (by rw[List.append_nil];exact h);rw[List.append_nil,ajD] at this;exact .agg this
   · cases k with
     | none =>
       have hk:(zN n0).kids=[]:=by
         by_cases hk:(zN n0).kids=[];exact hk;exact absurd (hI.all.2 i 0 _ _ hl rfl hk) (by simp)
       have hv:Rp c w (.sl .lost (zN n0).kids.length (Bi (zN n0).kids)) v:=hv;rw[hk] at hv ⊢;exact Rp.plain IQ rfl hv
     | some cc =>
       obtain⟨i2,l3,rfl,U2,hl3,hf⟩:=hI.done i 0 _ _ cc hl rfl;have hv:Rp c w (.msl (3+i2) 0 (zN n0).kids.length) v:=hv;cases hv with
       | @msl _ _ _ g2 cap hn hid =>
         have h3:=aML hs hb hI Px IQ M.length i2 l3 (by omega) hl3 g2 hid
         have e:(l3.map λp=>Hp p.1)=(zN n0).kids.map Hp:=by
           have:=congrArg (List.map Hp) hf;rw[List.map_map,List.map_map] at this;rw[show(λp:Nd×Option Nat=>Hp p.1)=Hp∘(·.1) from rfl,this];exact List.map_congr_left λx _=>ajD x
         rw[e] at h3;rw[List.length_map];exact .Ll hn h3 trivial
end
section
variable {b:Nat} {B:Nat->Nat->Prop} {w0:World} {Q:QE} {n0:Nd}
def apX{g:Nat}{j:List Value}(hc:cL [n0]<=99999998)(hp:Vg n0)
   (h:∀rk M g cap j,Inv n0 rk M []->Q .normal (FOs g 0 cap j) ⟨HH rk n0 M,3+M.length,[],0⟩ (Et b B w0 g cap [])) :
   WE P (G mx) (Et b B w0 g 1 [(2,0)]) (sb H5 30) (FOs g 1 1 j) ⟨HH none n0 [],3,[],0⟩ Q:=by
 rw[show sb H5 30=.block 0 (.loop (sb H5 120)) by kernel_rfl];refine .block ?_;refine .loop (λm f s E=>∃rk M qs g cap j,Inv n0 rk M qs/\m=mu qs/\mu qs<=99999999/\f=FOs g (qs.map (·.1)).length cap j/\s=⟨HH rk n0 M,3+M.length,[],0⟩/\E=Et b B w0 g cap (qs.map (·.1))) ?_ (m:=mu [((2,0),[n0])]) ⟨none,[],[((2,0),[n0])],g,1,j,?_,rfl,by simp[mu];omega,rfl,rfl,rfl⟩;rotate_left;exact⟨λq hq=>.inl (by rw[List.mem_singleton.1 hq];exact⟨rfl,rfl,rfl⟩),by simp,⟨λ_=>by simp,λi a l m hi=>by simp at hi⟩,λi a l m c hi=>by simp at hi,λc hc=>(nomatch hc),λq hq x hx=>by rw[List.mem_singleton.1 hq] at hx;rw[List.mem_singleton.1 hx];exact hp,λi a l m c hi=>by simp at hi⟩;rintro m _ _ _ ⟨rk,M,qs,g,cap,j,hI,rfl,hmu,rfl,rfl,rfl⟩;refine .seqB (x:=sb H5 240) (y:=sb H5 241) (by kernel_rfl) ?_;rcases List.eq_nil_or_concat qs with rfl | ⟨qs,q,rfl⟩
 refine .seqB (x:=sb H5 480) (y:=sb H5 481) (by kernel_rfl) ?_;refine aeW false 0 rfl (λf h13 hf=>.inl ⟨rfl,?_⟩);refine .aN false (x:=sb H5 962) (y:=sb H5 963) (q:=.tmp 13) (by kernel_rfl) h13 ?_;rw[if_neg (by decide),show sb H5 963=.exit 0 by kernel_rfl];exact .wk hf (.exit (.inr ⟨(by intro h;cases h),.inr ⟨(by intro h;cases h),h rk M g cap _ hI⟩⟩));rw[List.concat_eq_append] at hI hmu ⊢;have hqm:(qs++[q]).map (·.1)=qs.map (·.1)++[q.1]:=by rw[List.map_append];rfl
 have hlen:=agQ (qs++[q]);rw[List.length_append,List.length_singleton] at hlen;refine .Tb (x:=sb H5 480) (y:=sb H5 481) (by kernel_rfl) ?_;refine aeW true _ (aMN (by rw[hqm,List.length_append,List.length_singleton];omega)) (λf h13 hf=>⟨rfl,?_⟩);refine .aN true (x:=sb H5 962) (y:=sb H5 963) (q:=.tmp 13) (by kernel_rfl) h13 ?_;rw[if_pos rfl,show sb H5 962=.skip by kernel_rfl];refine .skip (.inl ⟨rfl,.wk hf ?_⟩);rw[show sb H5 241=.block 1 (sb H5 482) by kernel_rfl,hqm];refine .block ?_;obtain⟨rk2,M2,hI2,hM2,hid,hL,cs,Xk,U1,hH⟩:=afN hI;have hmq:mu (qs++[q])=mu qs+(1+cL q.2):=by rw[fB];simp[mu]
 have hLc:=acG q.2;have hql:=agQ qs;refine aGT (by rw[List.length_map];omega) ?_;refine anE hid Xk U1 hL (by omega) ?_;refine aAO hid (YP Xk) (List.getElem?_set_self (List.getElem?_eq_some_iff.1 U1).1) (λx hx=>((NE x).1 (hI.small q (by simp) x hx)).1) (by rw[List.length_map];omega) (λg' cap' j'=>.inl ⟨rfl,mu (qs++kQ (3+M.length) q.2 q.2.length),uN q.2 (3+M.length),rk2,M2,qs++kQ (3+M.length) q.2 q.2.length,g',cap',j',hI2,rfl,?_,?_,?_,?_⟩);have:=uN (qs:=qs) (p:=q.1) q.2 (3+M.length);have:mu (qs++[(q.1,q.2)])<=99999999:=hmu;omega;rw[List.map_append,qB];rw[hH,hM2];rfl;rw[List.map_append,qB]
def dN:(P.underlying 29).map Ob=some true:=by kernel_rfl
def sN:(P.info? 29).map (·.size)=some 11:=by kernel_rfl
def ajH{n:Nd}(hc:cL [n]<=99999998)(hp:Vg n):Pure P (G mx) 24 [.agg (CW n)] (.agg (CW (Hp n))):=by
 refine aGU Hd.mixed Hd.Aa Tryz.func24 b24 (λb B w0 hB=>?_) (A3 (AE.Cr n) rfl) (AE.Cr (Hp n));refine .Tb (x:=sb H5 2) (y:=sb H5 3) (by kernel_rfl) ?_;refine .run Hd.mixed E0.Hh [] (e:=.normal) (fr2:=fr 72 [(1,.ptr 0 0),(2,.ptr 1 0)] [13,36,61] [undef,undef,undef]) (s2:=⟨[(1,a1),(0,.cells (CW n))],2,[],0⟩) (by kernel_rfl) (by intro v h;cases h) ⟨rfl,?_⟩;refine .Tb (x:=sb H5 6) (y:=sb H5 7) (by kernel_rfl) ?_;refine .run Hd.mixed E0.Hh [] (e:=.normal) (fr2:=fr 72 [(2,.ptr 1 0),(3,.ptr 2 0)] [13,36,61] [undef,undef,undef]) (s2:=⟨[(2,.cells [.sl .full 1 (CW n)]),(1,a1),(0,.cells (CW n))],3,[],0⟩) (by kernel_rfl) (by intro v h;cases h) ⟨rfl,?_⟩;refine .rC (id:=2) (b2:=.cells [rkC n none]) rfl (λcx w o ho=>?_) ?_
 · have e:Bi [n]=CW n:=by rw[Mi];exact List.append_nil _
   cases ho with
   | H6 ext h1 =>
     refine .H6 ext ?_;cases h1 with
     | cons h1 t =>
       refine .cons ?_ t;show Rp cx w (.sl .lost 1 (Bi [n])) _;rw[e];cases h1 with
       | Ll hn hc _=>exact .Ll hn hc trivial
 show WE P (G mx) _ (sb H5 7) _ ⟨HH none n [],3,[],0⟩ _;refine .Tb (x:=sb H5 14) (y:=sb H5 15) (by kernel_rfl) ?_;have hr:Sv (sb H5 14) 2=true:=by kernel_rfl
 refine .reg hr ?_;show PQ P (G mx) _ _ [0,1] _ _ _;refine .begin hr (by decide) (t:=88) (e:=87) (x:=.tmp 3) (id:=2) (off:=0) (by kernel_rfl) uP (by kernel_rfl) (by kernel_rfl) (λg=>?_);refine .q Hd.mixed Et.Hh hr (by decide) (.raw (some ⟨g,0,none⟩) 1 1) (by kernel_rfl) (by kernel_rfl) ?_;refine .nil ⟨rfl,.wk (fr2:=FOs g 1 1 [undef,undef,undef]) (by kernel_rfl) ?_⟩;refine .Tb (x:=sb H5 30) (y:=sb H5 31) (by kernel_rfl) ?_;refine apX hc hp (λrk M g cap j hI=>⟨rfl,?_⟩);cases rk with
 | none=>exact absurd (hI.all.1 rfl) (by simp)
 | some c =>
   obtain⟨i,l,rfl,hl,hf⟩:=hI.root c rfl
   obtain⟨k,rfl⟩:∃k,l=[(zN n,k)]:=by
     cases l with
     | nil=>cases hf
     | cons p l =>
       cases l with
       | cons _ _=>simp at hf
       | nil =>
         obtain⟨m,k⟩:=p;simp at hf;exact⟨k,by rw[hf]⟩
   have ho:(kN (zN n,k)).all one=true:=by cases k<;>rfl
   refine .seqB (x:=sb H5 62) (y:=sb H5 63) (by kernel_rfl) ?_;refine .run Hd.mixed Et.Hh [qV (x:=AI.look 2 (HH (some (3+i)) n M)) (b:=.cells [.msl (3+i) 0 1]) (off:=0) (v:=.msl (3+i) 0 1) (aJ dL sL rfl) (sJ (by decide)),IR (avI (id:=3+i) (n:=1) (i:=0) (by decide)),qV (x:=AI.look (3+i) (HH (some (3+i)) n M)) (off:=0+0*11) (v:=.agg (kN (zN n,k))) (lP Xr dN sN (l:=[(zN n,k)]) rfl) (abL hl),aqH (x:=AI.look 1 (HH (some (3+i)) n M)) (b:=a1) (off:=0) (v:=.agg (kN (zN n,k))) (stA sN rfl rfl ho) (sJ (by decide))] (e:=.normal) (fr2:=FOs g 0 cap j) (s2:=⟨Ry 1 (.cells (kN (zN n,k))) (HH (some (3+i)) n M),3+M.length,[],0⟩) (by kernel_rfl) (by intro v h;cases h) (.inl ⟨rfl,?_⟩);rw[show sb H5 63=.ret by kernel_rfl];have aNI:AI.look 1 (HH (some (3+i)) n M)=some a1:=sJ (by decide);refine λcx w a K hE hs hf hd hK=>wp_ret (hK .ret _ _ _ ⟨.inr rfl,Et.fin hB,.agg (kN (zN n,k)),aJX (a:=.ptr 1 0) (t:=2) (ty:=29) (by kernel_rfl) (by kernel_rfl) ?_,yB hI (λi2 l2 h2=>?_) hl⟩ cx w a _ hE hs hd ⟨rfl,hf⟩)
   have hg:AS.get ⟨Ry 1 (.cells (kN (zN n,k))) (HH (some (3+i)) n M),3+M.length,[],0⟩ 1=some (.cells (rows kN [(zN n,k)])):=by
     show AI.look 1 (Ry 1 _ _)=_;rw[YP aNI];rw[show rows kN [(zN n,k)]=kN (zN n,k) from List.append_nil _]
   have:=lP (P:=P) (G:=(G mx)) Xr dN sN (l:=[(zN n,k)]) (i:=0) (x:=(zN n,k)) rfl _ _ hg;simpa using this
   show AI.look (3+i2) (Ry 1 _ _)=_;rw[IV (by omega)];exact abL h2
end
end Mo
end Go.Proofs.YtpbkhogolfegfaaGreatDoor
namespace Go.Proofs.YtpbkhogolfegfaaGreatDoor
open AI Go
namespace Mo
variable {mx:Int}
open Classical in
def Iy(n:Nd):Option Nd:=if cL [n]<=99999998/\Vg n then some (Hp n) else none
def O7{n:Nd}{yR:Nd}(h:Iy n=some yR):Pure P (G mx) 24 [.agg (CW n)] (.agg (CW yR)):=by
 unfold Iy at h;split at h;rename_i hc;cases h;exact ajH hc.1 hc.2;cases h
end Mo
end Go.Proofs.YtpbkhogolfegfaaGreatDoor
namespace Go.Proofs.YtpbkhogolfegfaaGreatDoor
open AI Go Go.RowKit LexS
namespace Mo
variable {mx:Int}
def aPN{cx:Cx}{w:World}{s:AS}(h:St (G mx) cx w s):Nt w:=by
 refine⟨λi hi=>?_,λj v hj=>?_⟩;have hc:=h.M1 3 Hd.anF rfl;have he:Hd.anF[i]?=some (.sc (.int .u8 (K1 i:Nat))):=by simp[Hd.anF,hi]
 obtain⟨v,hv,hr⟩:=hc.get he;cases hr;have:=hv.2.2;rwa[Nat.zero_add] at this;have hc:=h.M1 0 Hd.asE rfl;have hj':(Gk.map λy=>Value.string ⟨y.toArray⟩)[j]?=some v:=by simpa[IJ] using hj
 rw[List.getElem?_map] at hj';obtain⟨y,hy,rfl⟩:=Option.map_eq_some_iff.1 hj';have he:Hd.asE[j]?=some (GL y):=by simp[Hd.asE,hy]
 obtain⟨u,hu,hr⟩:=hc.get he;unfold GL at hr;cases hr;have:=hu.2.2;rwa[Nat.zero_add] at this
def VI{w w':World}(h:Below w.heap.size w w'):RV w w' (λ_=>False):=⟨h.os,h.tape,h.output,h.size,λk hk _=>h.block k hk⟩
def xQ(w:World)(e:TypeId)(s:ByteArray):RV w (Lib.bytesWorld w e s) (λ_=>False) :=
 VI (Lib.below_freeze ((Below.drew (Below.refl _ w)).alloc (Nat.le_refl _) _) (p:=⟨w.heap.size,_,Option.none⟩) (Nat.le_refl _) 1)
def Im(x:LexS.Tok):Tk:=⟨x.1,⟨x.2.1.toArray⟩,x.2.2⟩
def asR(l:List LexS.Tok):(rows Gn (l.map Im)).length=(KG l).length:=by
 unfold KG
 induction l with
 | nil=>rfl
 | cons x l ih=>rw[List.map_cons,FC,List.flatMap_cons,List.length_append,List.length_append,ih];rfl
def aCP(cx:Cx)(w:World)(l:List LexS.Tok):CG cx w (rows Gn (l.map Im)) (KG l):=by
 unfold KG
 induction l with
 | nil=>exact .nil
 | cons x l ih =>
   rw[List.map_cons,FC,List.flatMap_cons];exact CG.append (.cons (.sc rfl) (.cons (.sc rfl) (.cons (.sc rfl) .nil))) ih
def IU(s:ByteArray):Option (List Tk×Int×Int):=some ((Kc s.data.toList).1.map Im,(((Kc s.data.toList).2.1:Nat):Int),(((Kc s.data.toList).2.2:Nat):Int))
def Nx{s:ByteArray}{yR:List Tk×Int×Int}(h:IU s=some yR):Pure P (G mx) 34 [.sc (.string s)] (.C4 [.sl .lost yR.1.length (rows Gn yR.1),.sc (.int .i64 yR.2.1),.sc (.int .i64 yR.2.2)]):=by
 cases h;intro s0 cx w vs hs ha;cases ha with
 | cons h1 tl =>
 cases tl;cases h1;refine(apD s w (aPN hs)).mono ?_;rintro e w' ⟨u,rfl,N9,hb⟩;obtain⟨x,st⟩:=hs.same (VI hb);refine⟨cx,x,st,_,rfl,?_⟩;show Rp cx w' (.C4 [.sl .lost ((Kc (L s)).1.map Im).length (rows Gn ((Kc (L s)).1.map Im)),.sc (.int .i64 (Kc (L s)).2.1),.sc (.int .i64 (Kc (L s)).2.2)]) _;refine .C4 (vs:=[u,.int .i64 (Kc (L s)).2.1,.int .i64 (Kc (L s)).2.2]) (.cons ?_ (.cons (.sc rfl) (.cons (.sc rfl) .nil)));have hl:=asR (Kc (L s)).1;have hc:=aCP cx w' (Kc (L s)).1;rw[List.length_map];obtain⟨h1,⟨rfl,h2⟩ | ⟨g,cap,cur,rfl,hg,hw,hn,_,hsz,htk⟩⟩:=N9;have:(Kc (L s)).1=[]:=List.eq_nil_of_length_eq_zero h2;rw[this];exact .sl0 trivial;refine .Ll hn (Be.O6 hc (λi v hi=>⟨(Array.getElem?_eq_some_iff.1 hw).1,λGP=>?_,?_⟩)) trivial;have:g < w.heap.size:=hs.Uo GP;omega;rw[Nat.zero_add,cell_of_row w' g i cur _ _ hw];rw[<- htk,List.getElem?_take] at hi;split at hi;rwa[Array.getElem?_toList] at hi;cases hi
def R4(s:ByteArray):Option (Int×Unit):=if s.data.toList.length<=18 then (Lib.atoi s.data.toList).map λn=>(n,()) else none
def sR{s:ByteArray}{yR:Int×Unit}(h:R4 s=some yR):Pure P (G mx) 173 [.sc (.string s)] (.C4 [.sc (.int .i64 yR.1),.sc .nilIface]):=by
 unfold R4 at h;split at h
 · rename_i hl
   cases hn:Lib.atoi s.data.toList with
   | none=>rw[hn] at h;cases h
   | some n =>
     rw[hn] at h;cases h;intro s0 cx w vs hs ha;cases ha with
     | cons h1 tl =>
     cases tl;cases h1;refine(Tryz.strconv_Atoi s n (by show s.data.size<=18;rw[<- Array.length_toList];exact hl) hn w).mono ?_;rintro e w' ⟨rfl,tt,rfl⟩;obtain⟨x,st⟩:=hs.same (xQ w _ tt);exact⟨cx,x,st,_,rfl,.C4 (vs:=[.int .i64 n,.nilIface]) (.cons (.sc rfl) (.cons (.sc rfl) .nil))⟩
 cases h
def K0(t o n:ByteArray)(k:Int):Option ByteArray:=if 1<=o.size/\t.size+Lib.countB t o*n.size<=4000 then some ⟨(Lib.replace t.data.toList o.data.toList n.data.toList k).toArray⟩ else none
def fP{t o n:ByteArray}{k:Int}{yR:ByteArray}(h:K0 t o n k=some yR):Pure P (G mx) 163 [.sc (.string t),.sc (.string o),.sc (.string n),.sc (.int .i64 k)] (.sc (.string yR)):=by
 unfold K0 at h;split at h
 · rename_i hl
   cases h;intro s0 cx w vs hs ha;cases ha with
   | cons a1 tl =>
   cases tl with
   | cons a2 tl =>
   cases tl with
   | cons a3 tl =>
   cases tl with
   | cons a4 tl =>
   cases tl;cases a1;cases a2;cases a3;cases a4
   have hm:w.cell? ⟨5,0,none⟩=some (.int .i64 mx):=by
     have hg:=hs.M1 5 [Hd.int mx] rfl;obtain⟨v,hv,hr⟩:=hg.get (i:=0) rfl;unfold Hd.int at hr;cases hr;exact hv.2.2
   refine(Tryz.strings_Replace t o n k mx w (by omega) hm hl.1 (by omega)).mono ?_;rintro e w' ⟨rfl,hb⟩;obtain⟨x,st⟩:=hs.same (VI hb);exact⟨cx,x,st,_,rfl,.sc rfl⟩
 cases h
def akD:Nd⊕Dg->Nd×Dg×Bool
 | .inl n=>(n,⟨0,0⟩,true)
 | .inr d=>(⟨0,ByteArray.empty,ByteArray.empty,0,0,0,0,⟨0,[]⟩,[],0⟩,d,false)
end Mo
end Go.Proofs.YtpbkhogolfegfaaGreatDoor

namespace AI
open Go
abbrev AV.zi(x:Int):AV:=.sc (.int .i64 x)
abbrev AV.zs(x:ByteArray):AV:=.sc (.string x)
abbrev AV.zb(x:Bool):AV:=.sc (.bool x)
abbrev bT:Value:=.bool true
abbrev bF:Value:=.bool false
def Ew{α β:Type}{a b:α}{c d:β}{Q:Prop}(k:a=b->c=d->Q):some (a,c)=some (b,d)->Q:=λh=>by cases h;exact k rfl rfl
def rT{P:Program}{G:Bc}{c:Code}{fr:List AV}{s:AS}{x:Value}{fn:Func}{m:Nat}(l:List (PC P G))(h:aqR P fn (S5 P G 300 c [] (pHs l) fr s)=some (hJ l,.sc x):=by kernel_rfl):W P G (XS P G) H0 c fr s (Tm P fn m (λr _=>∃a,r=.ret a/\Fits 0 0 a (.sc x))):=rS (Ac 300 l) h
end AI
namespace Go.Proofs.YtpbkhogolfegfaaGreatDoor
open AI Go
namespace Mo
variable {mx:Int}
abbrev ndL(x:Nd)(r:List AV):List AV:=.zi x.kind::.zs x.name::.zs x.unit::.zi x.n::.zi x.fr::.zi x.to::.zi x.known::.zi x.CO.den::.sl .lost x.CO.ps.length (rows IE x.CO.ps)::.sl .lost x.kids.length (Bi x.kids)::.zi x.AW::r
end Mo
end Go.Proofs.YtpbkhogolfegfaaGreatDoor
namespace AI
open Go
def BU{α β γ δ:Type}{m:Option ((α⊕β)×γ)}{k:(α⊕β)×γ->Option δ}{r:δ}{X:Prop}(h1:∀a c,m=some (.inl a,c)->k (.inl a,c)=some r->X)(h2:∀b c,m=some (.inr b,c)->k (.inr b,c)=some r->X):m.bind k=some r->X:=λh=>by
 cases m with
 | none=>cases h
 | some p =>
   obtain⟨a | b,c⟩:=p;exact h1 a c rfl h;exact h2 b c rfl h
end AI
namespace Go.Proofs.YtpbkhogolfegfaaGreatDoor
open AI Go
namespace Mo
variable {mx:Int}
abbrev pC(p:Pr)(x:Int):List AV:=[.sl .lost p.Bu.length (rows Gn p.Bu),.zi x,.zi p.DJ]
abbrev pZ(p:Pr):AS:=⟨[(0,.cells (Rr p))],1,[],0⟩
abbrev pS(p:Pr)(x:Int):AS:=⟨[(0,.cells (pC p x))],1,[],0⟩
def pW{n m:Nat}(p:Pr)(x:Int):FO n m:=bw (.cells (pC p x)) (.cells (pC p x)) (.cells (.plain (A3 (BP.Ks p.Bu) (A3 rfl (A3 rfl rfl)))))
abbrev Tf:List AV:=[.zi 0,.zs ByteArray.empty,.zs ByteArray.empty,.zi 0,.zi 0,.zi 0,.zi 0,.zi 0,.sl .full 0 [],.sl .full 0 [],.zi 0]
def nV{n m:Nat}:FO n m:=bw (.cells Tf) (.cells Tf) (.cells (.plain (A3 rfl (A3 rfl (A3 rfl (A3 rfl (A3 rfl (A3 rfl (A3 rfl (A3 rfl (A3 (WI rfl) (A3 (WI rfl) (A3 rfl rfl)))))))))))))
abbrev eD:Dg->AV:=λdV=>.ifc 45 (.agg (Pq dV))
def gD{n m:Nat}(d:Dg):FP n m:=⟨eD d,eD d,.plain (Cn.Cr d)⟩
abbrev eN:Nd->AV:=λyV=>.agg (CW yV)
abbrev eT:Tk->AV:=λyV=>.agg (Gn yV)
abbrev eI:Int->AV:=λyV=>.zi yV
abbrev eJ:Int×Int->AV:=λyV=>.C4 [.zi yV.1,.zi yV.2]
abbrev eL:List Nd->AV:=λyV=>.sl .lost yV.length (Bi yV)
abbrev eP:Pt->AV:=λyV=>.agg (Xv yV)
abbrev pR(mx:Int)(f:Nat)(al:List AV)(p:Pr)(r:CR)(x:Int):Prop:=Sound P (G mx) (.call f al (pZ p) r (pS p x))
section
variable {c:Code} {fr0:List AV} {s s0 s2:AS} {Q:AX->List AV->AS->Prop} {m:Nat} {v:AV} {ks:List KI}
def Io(d:Dg)(p:Pr)(x:Int)(l:List (PC P (G mx)))(k:TL (G mx) m s0 Q v s2)(h:aqA s0.nx s0.nr m [v] (ZG (n:=s0.nx) (m:=s0.nr) [gD d]) (oY (n:=s0.nx) (m:=s0.nr) [pW p x]) (S5 P (G mx) 300 c [] (pHs l) fr0 s)=some (hJ l,[v],s2,gW (n:=s0.nx) (m:=s0.nr) [gD d],foA (n:=s0.nx) (m:=s0.nr) [pW p x]):=by kernel_rfl):W P (G mx) (XS P (G mx)) H0 c fr0 s Q:=BN Hd.Aa m [gD d] [pW p x] (Ac 300 l) h k
def qgB(d:Dg)(p:Pr)(x:Int)(l:List (PC P (G mx)))(k:TL (G mx) m s0 Q v s2)(h:aqA s0.nx s0.nr m [v] (ZG (n:=s0.nx) (m:=s0.nr) [gD d]) (oY (n:=s0.nx) (m:=s0.nr) [pW p x]) (RE (S5 P (G mx) 300) ks .normal (pHs l) fr0 s)=some (hJ l,[v],s2,gW (n:=s0.nx) (m:=s0.nr) [gD d],foA (n:=s0.nx) (m:=s0.nr) [pW p x]):=by kernel_rfl):Ed P (G mx) ks Q .normal fr0 s:=BN Hd.Aa m [gD d] [pW p x] (Ip 300 l) h k
end
section
variable {f:Nat} {al:List AV} {p:Pr} {x:Int}
def quG{r:CR}(hr:∀ρ σ,RnR 1 0 ρ σ r r)(hS:pR mx f (.ptr 0 0::al) p r x)(u0:Nat)(ha:BE al=true):Cd.ok P (G mx) (.Fa f (.ptr u0 0::al) r [(u0,.cells (Rr p))] [] [(u0,.cells (pC p x))] []) :=
 H8 (M:=[.cells (Rr p)]) (M2:=[.cells (pC p x)]) (T:=[]) (T2:=[]) (k:=1) (j:=0) Hd.Aa _ _ _ _ hS rfl rfl rfl rfl rfl (List.nodup_cons.2 ⟨by simp,List.nodup_nil⟩) List.nodup_nil rfl rfl (.cons (.cells (.pl (CM.pl p))) .nil) (.cons (.cells (.pl (A3 (BP.Ks p.Bu) (A3 rfl (A3 rfl rfl))))) .nil) (.cons (.ptr (by decide)) (.pl ha)) (hr _ _) (λe he=>by simp only[List.mem_singleton] at he;subst he;exact(.arg (.here .ptr)))
def Hz{y:Nd⊕Dg}(hS:pR mx f (.ptr 0 0::al) p (Jf eN eD y) x)(u0:Nat)(ha:BE al=true:=by kernel_rfl):Cd.ok P (G mx) (.Fa f (.ptr u0 0::al) (Jf eN eD y) [(u0,.cells (Rr p))] [] [(u0,.cells (pC p x))] []):=quG (λ_ _=>Mp (enc:=eN) (encd:=eD) (λyV=>AE.Cr yV) (λdV=>Cn.Cr dV) y) hS u0 ha
def It{y:Tk⊕Dg}(hS:pR mx f (.ptr 0 0::al) p (Jf eT eD y) x)(u0:Nat)(ha:BE al=true:=by kernel_rfl):Cd.ok P (G mx) (.Fa f (.ptr u0 0::al) (Jf eT eD y) [(u0,.cells (Rr p))] [] [(u0,.cells (pC p x))] []):=quG (λ_ _=>Mp (enc:=eT) (encd:=eD) (λyV=>BP.Cr yV) (λdV=>Cn.Cr dV) y) hS u0 ha
def bL{y:Int⊕Dg}(hS:pR mx f (.ptr 0 0::al) p (Jf eI eD y) x)(u0:Nat)(ha:BE al=true:=by kernel_rfl):Cd.ok P (G mx) (.Fa f (.ptr u0 0::al) (Jf eI eD y) [(u0,.cells (Rr p))] [] [(u0,.cells (pC p x))] []):=quG (λ_ _=>Mp (enc:=eI) (encd:=eD) (λyV=>rfl) (λdV=>Cn.Cr dV) y) hS u0 ha
def No{y:(Int×Int)⊕Dg}(hS:pR mx f (.ptr 0 0::al) p (Jf eJ eD y) x)(u0:Nat)(ha:BE al=true:=by kernel_rfl):Cd.ok P (G mx) (.Fa f (.ptr u0 0::al) (Jf eJ eD y) [(u0,.cells (Rr p))] [] [(u0,.cells (pC p x))] []):=quG (λ_ _=>Mp (enc:=eJ) (encd:=eD) (λyV=>rfl) (λdV=>Cn.Cr dV) y) hS u0 ha
def Oz{a:AV}(hS:Sound P (G mx) (.call f (.ptr 0 0::al) (pZ p) (.ret a) (pZ p)))(u0:Nat)(ha:BE al=true:=by kernel_rfl)(hp:plain a=true:=by kernel_rfl):Cd.ok P (G mx) (.Fa f (.ptr u0 0::al) (.ret a) [(u0,.cells (Rr p))] [] [(u0,.cells (Rr p))] []):=quG (x:=p.J5) (r:=.ret a) (λ_ _=>.pl hp) hS u0 ha
end
end Mo
end Go.Proofs.YtpbkhogolfegfaaGreatDoor
namespace Go.Proofs.YtpbkhogolfegfaaGreatDoor
open AI Go
namespace Mo
set_option maxRecDepth 100000
set_option maxHeartbeats 4000000
variable {mx:Int}
def B49:Code:=AY Tryz.f49
def b49:Tryz.f49.body=some B49:=by kernel_rfl
def ME(p:Pr)(err:Int)(at_:Int):Option (Unit⊕Dg):=some (Sum.inr (⟨err,at_⟩:Dg):(Unit⊕Dg))
def At{p:Pr}{err:Int}{at_:Int}{yR:(Unit⊕Dg)}(hS:Sound P (G mx) (.call 49 [.ptr 0 0,.zi err,.zi at_] (pZ p) (Jf (λyV=>.C4 []) eD yR) (pZ p)))(u0:Nat)(P0:([u0]:List Nat).Nodup:=by decide)(P1:([]:List Nat).Nodup:=by decide):Cd.ok P (G mx) (.Fa 49 [.ptr u0 0,.zi err,.zi at_] (Jf (λyV=>.C4 []) eD yR) [(u0,.cells (Rr p))] [] [(u0,.cells (Rr p))] []) :=
 H8 (M:=[.cells (Rr p)]) (M2:=[.cells (Rr p)]) (T:=[]) (T2:=[]) (k:=1) (j:=0) Hd.Aa _ _ _ _ hS rfl rfl rfl rfl rfl P0 P1 rfl rfl (.cons (.cells (.pl (CM.pl p))) .nil) (.cons (.cells (.pl (CM.pl p))) .nil) (.cons (.ptr (by decide)) (.cons (.pl rfl) (.cons (.pl rfl) .nil))) (Mp (enc:=λyV=>.C4 []) (encd:=λdV=>.ifc 45 (.agg (Pq dV))) (λyV=>rfl) (λdV=>(Cn.Cr dV)) yR) (λe he=>by simp only[List.mem_singleton] at he;subst he;exact(.arg (.here .ptr)))
def Am{p:Pr}{err:Int}{at_:Int}{yR:(Unit⊕Dg)}(h:ME  p err at_=some yR):Sound P (G mx) (.call 49 [.ptr 0 0,.zi err,.zi at_] (pZ p) (Jf (λyV=>.C4 []) eD yR) (pZ p)):=by
 unfold ME at h;refine BY Hd.mixed (Au Tryz.func49 b49 ?_);revert h;rintro⟨⟩;exact BN Hd.Aa _ [⟨.ifc 45 (.agg [.zi err,.zi at_]),.ifc 45 (.agg [.zi err,.zi at_]),(.plain (Cn.Cr (⟨err,at_⟩:Dg)))⟩] [bp (CM.pl p)] (Ac 300 [ppn]) (by kernel_rfl) .body
def B69:Code:=AY Tryz.f69
def b69:Tryz.f69.body=some B69:=by kernel_rfl
def AD(p:Pr):Option (Tk⊕Dg):=cond (NS ((p.Bu.length:Nat):Int) p.J5) (some (Sum.inr (⟨72,p.DJ⟩:Dg):(Tk⊕Dg))) ((Ha p.Bu p.J5).bind λx1=>some (Sum.inl x1:(Tk⊕Dg)))
def Ay{p:Pr}{yR:(Tk⊕Dg)}(hS:Sound P (G mx) (.call 69 [.ptr 0 0] (pZ p) (Jf eT eD yR) (pZ p)))(u0:Nat)(P0:([u0]:List Nat).Nodup:=by decide)(P1:([]:List Nat).Nodup:=by decide):Cd.ok P (G mx) (.Fa 69 [.ptr u0 0] (Jf eT eD yR) [(u0,.cells (Rr p))] [] [(u0,.cells (Rr p))] []) :=
 H8 (M:=[.cells (Rr p)]) (M2:=[.cells (Rr p)]) (T:=[]) (T2:=[]) (k:=1) (j:=0) Hd.Aa _ _ _ _ hS rfl rfl rfl rfl rfl P0 P1 rfl rfl (.cons (.cells (.pl (CM.pl p))) .nil) (.cons (.cells (.pl (CM.pl p))) .nil) (.cons (.ptr (by decide)) .nil) (Mp (enc:=λyV=>.agg (Gn yV)) (encd:=λdV=>.ifc 45 (.agg (Pq dV))) (λyV=>(BP.Cr yV)) (λdV=>(Cn.Cr dV)) yR) (λe he=>by simp only[List.mem_singleton] at he;subst he;exact(.arg (.here .ptr)))
def Ao{p:Pr}{yR:(Tk⊕Dg)}(h:AD  p=some yR):Sound P (G mx) (.call 69 [.ptr 0 0] (pZ p) (Jf eT eD yR) (pZ p)):=by
 unfold AD at h;refine BY Hd.mixed (Au Tryz.func69 b69 ?_);revert h;refine Ag (λA2=>?_) λA2=>?_;rintro⟨⟩;exact BN Hd.Aa _ [⟨.ifc 45 (.agg [.zi 72,.zi p.DJ]),.ifc 45 (.agg [.zi 72,.zi p.DJ]),(.plain (Cn.Cr (⟨72,p.DJ⟩:Dg)))⟩] [bp (CM.pl p)] (Ac 300 [pb A2,An (At (Am (p:=p) (err:=72) (at_:=p.DJ) rfl) 0)]) (by kernel_rfl) .body;refine As λx1 nT=>?_;rintro⟨⟩;exact Aw Hd.Aa _ _ [⟨.agg (Gn x1),.agg (Gn x1),(.plain (BP.Cr x1))⟩] [bp (CM.pl p)] (Ac 300 [pb A2,nU,IR (afQ .lost nT)]) (by kernel_rfl) .body
def aJA:Code:=AY Tryz.f143
def aKS:Tryz.f143.body=some aJA:=by kernel_rfl
def IA(word:ByteArray):Option Bool:=cond (B1 word.data.toList Tt.data.toList) (some true) (cond (B1 word.data.toList O4.data.toList) (some true) (cond (B1 word.data.toList Iu.data.toList) (some true) (cond (B1 word.data.toList adT.data.toList) (some true) (cond (B1 word.data.toList vG.data.toList) (some true) (cond (B1 word.data.toList tJ.data.toList) (some true) (cond (B1 word.data.toList toS.data.toList) (some true) (cond (B1 word.data.toList VP.data.toList) (some true) (cond (B1 word.data.toList cP.data.toList) (some true) (cond (B1 word.data.toList SW.data.toList) (some true) (cond (B1 word.data.toList QF.data.toList) (some true) (cond (B1 word.data.toList Hk.data.toList) (some true) (cond (B1 word.data.toList EG.data.toList) (some true) (cond (B1 word.data.toList JV.data.toList) (some true) (cond (B1 word.data.toList apH.data.toList) (some true) (cond (B1 word.data.toList Tq.data.toList) (some true) (cond (B1 word.data.toList Mg.data.toList) (some true) (cond (B1 word.data.toList Pv.data.toList) (some true) (cond (B1 word.data.toList Ty.data.toList) (some true) (cond (B1 word.data.toList kV.data.toList) (some true) (cond (B1 word.data.toList PW.data.toList) (some true) (cond (B1 word.data.toList VV.data.toList) (some true) (cond (B1 word.data.toList iJ.data.toList) (some true) (cond (B1 word.data.toList Zq.data.toList) (some true) (cond (B1 word.data.toList TW.data.toList) (some true) (cond (B1 word.data.toList dC.data.toList) (some true) (cond (B1 word.data.toList LM.data.toList) (some true) (cond (B1 word.data.toList dO.data.toList) (some true) (cond (B1 word.data.toList QS.data.toList) (some true) (cond (B1 word.data.toList VC.data.toList) (some true) (cond (B1 word.data.toList KW.data.toList) (some true) (cond (B1 word.data.toList F3.data.toList) (some true) (cond (B1 word.data.toList Q7.data.toList) (some true) (some false)))))))))))))))))))))))))))))))))
def Jy{word:ByteArray}{yR:Bool}(h:IA  word=some yR):Pure P (G mx) 143 [.zs word] (.zb yR):=by
 unfold IA at h;refine CN Hd.mixed Hd.Aa (Au Tryz.func143 aKS ?_) (A3 rfl rfl) rfl;revert h;refine Ag (λA2=>?_) λA2=>?_;rintro⟨⟩;exact rT [pb A2];let o1:List (PC P (G mx)):=[pb A2];refine Ag (λhb2=>?_) λhb2=>?_;rintro⟨⟩;exact rT (o1++[pb hb2]);let o2:List (PC P (G mx)):=o1++[pb hb2];refine Ag (λhb3=>?_) λhb3=>?_;rintro⟨⟩;exact rT (o2++[pb hb3]);let o3:List (PC P (G mx)):=o2++[pb hb3];refine Ag (λFl=>?_) λFl=>?_;rintro⟨⟩;exact rT (o3++[pb Fl]);let o4:List (PC P (G mx)):=o3++[pb Fl];refine Ag (λH9=>?_) λH9=>?_;rintro⟨⟩;exact rT (o4++[pb H9]);let o5:List (PC P (G mx)):=o4++[pb H9];refine Ag (λI5=>?_) λI5=>?_;rintro⟨⟩;exact rT (o5++[pb I5]);let o6:List (PC P (G mx)):=o5++[pb I5];refine Ag (λJi=>?_) λJi=>?_;rintro⟨⟩;exact rT (o6++[pb Ji]);let o7:List (PC P (G mx)):=o6++[pb Ji];refine Ag (λKv=>?_) λKv=>?_;rintro⟨⟩;exact rT (o7++[pb Kv]);let o8:List (PC P (G mx)):=o7++[pb Kv];refine Ag (λJL=>?_) λJL=>?_;rintro⟨⟩;exact rT (o8++[pb JL]);let o9:List (PC P (G mx)):=o8++[pb JL];refine Ag (λGO=>?_) λGO=>?_;rintro⟨⟩;exact rT (o9++[pb GO]);let uV:List (PC P (G mx)):=o9++[pb GO];refine Ag (λI8=>?_) λI8=>?_;rintro⟨⟩;exact rT (uV++[pb I8]);let o11:List (PC P (G mx)):=uV++[pb I8];refine Ag (λJG=>?_) λJG=>?_;rintro⟨⟩;exact rT (o11++[pb JG]);let o12:List (PC P (G mx)):=o11++[pb JG];refine Ag (λJH=>?_) λJH=>?_;rintro⟨⟩;exact rT (o12++[pb JH]);let qN:List (PC P (G mx)):=o12++[pb JH];refine Ag (λKU=>?_) λKU=>?_;rintro⟨⟩;exact rT (qN++[pb KU]);let o14:List (PC P (G mx)):=qN++[pb KU];refine Ag (λLf=>?_) λLf=>?_;rintro⟨⟩;exact rT (o14++[pb Lf]);let o15:List (PC P (G mx)):=o14++[pb Lf];refine Ag (λN8=>?_) λN8=>?_;rintro⟨⟩;exact rT (o15++[pb N8]);let zG:List (PC P (G mx)):=o15++[pb N8];refine Ag (λU0=>?_) λU0=>?_;rintro⟨⟩;exact rT (zG++[pb U0]);let o17:List (PC P (G mx)):=zG++[pb U0];refine Ag (λWV=>?_) λWV=>?_;rintro⟨⟩;exact rT (o17++[pb WV]);let o18:List (PC P (G mx)):=o17++[pb WV];refine Ag (λpB=>?_) λpB=>?_;rintro⟨⟩;exact rT (o18++[pb pB]);let o19:List (PC P (G mx)):=o18++[pb pB];refine Ag (λpD=>?_) λpD=>?_;rintro⟨⟩;exact rT (o19++[pb pD]);let o20:List (PC P (G mx)):=o19++[pb pD];refine Ag (λpE=>?_) λpE=>?_;rintro⟨⟩;exact rT (o20++[pb pE]);let o21:List (PC P (G mx)):=o20++[pb pE];refine Ag (λpF=>?_) λpF=>?_;rintro⟨⟩;exact rT (o21++[pb pF]);let o22:List (PC P (G mx)):=o21++[pb pF];refine Ag (λpG=>?_) λpG=>?_;rintro⟨⟩;exact rT (o22++[pb pG]);let o23:List (PC P (G mx)):=o22++[pb pG];refine Ag (λayN=>?_) λayN=>?_;rintro⟨⟩;exact rT (o23++[pb ayN]);let o24:List (PC P (G mx)):=o23++[pb ayN];refine Ag (λaoH=>?_) λaoH=>?_;rintro⟨⟩;exact rT (o24++[pb aoH]);refine Ag (λayO=>?_) λayO=>?_;rintro⟨⟩;exact rT (o24++[pb aoH,pb ayO]);let o25:List (PC P (G mx)):=o24++[pb aoH,pb ayO];refine Ag (λaoI=>?_) λaoI=>?_;rintro⟨⟩;exact rT (o25++[pb aoI]);refine Ag (λayP=>?_) λayP=>?_;rintro⟨⟩;exact rT (o25++[pb aoI,pb ayP]);let o26:List (PC P (G mx)):=o25++[pb aoI,pb ayP];refine Ag (λpH=>?_) λpH=>?_;rintro⟨⟩;exact rT (o26++[pb pH]);refine Ag (λyH=>?_) λyH=>?_;rintro⟨⟩;exact rT (o26++[pb pH,pb yH]);refine Ag (λaeS=>?_) λaeS=>?_;rintro⟨⟩;exact rT (o26++[pb pH,pb yH,pb aeS]);refine Ag (λaoJ=>?_) λaoJ=>?_;rintro⟨⟩;exact rT (o26++[pb pH,pb yH,pb aeS,pb aoJ]);refine Ag (λayQ=>?_) λayQ=>?_;rintro⟨⟩;exact rT (o26++[pb pH,pb yH,pb aeS,pb aoJ,pb ayQ]);rintro⟨⟩;exact rT (o26++[pb pH,pb yH,pb aeS,pb aoJ,pb ayQ])
def aIP:Code:=AY Tryz.f119
def aKC:Tryz.f119.body=some aIP:=by kernel_rfl
def Ct(token:Tk):Option Bool:=cond (Dh token.kind 1) ((IA token.text).bind λy1=>cond y1 (some false) (some true)) (some false)
def Om{token:Tk}{yR:Bool}(h:Ct  token=some yR):Pure P (G mx) 119 [.agg (Gn token)] (.zb yR):=by
 unfold Ct at h;refine CN Hd.mixed Hd.Aa (Au Tryz.func119 aKC ?_) (A3 (BP.Cr token) rfl) rfl;revert h;refine Ag (λA2=>?_) λA2=>?_;refine As λy1 Cg=>?_;refine Ag (λhv=>?_) λhv=>?_;subst hv;rintro⟨⟩;exact rT [pb A2,AG (Jy Cg)];subst hv;rintro⟨⟩;exact rT [pb A2,AG (Jy Cg)];rintro⟨⟩;exact rT [pb A2]
def aJD:Code:=AY Tryz.f154
def aKV:Tryz.f154.body=some aJD:=by kernel_rfl
def Dt(token:Tk)(a1:ByteArray):Option Bool:=cond (B1 token.text.data.toList a1.data.toList) (some true) (some false)
def PF{token:Tk}{a1:ByteArray}{yR:Bool}(hS:Sound P (G mx) (.call 154 [.agg (Gn token),.ptr 0 0] ⟨[(0,.cells [.zs a1])],1,[],0⟩ (.ret (.zb yR)) ⟨[(0,.cells [.zs a1])],1,[],0⟩))(u0:Nat)(P0:([u0]:List Nat).Nodup:=by decide)(P1:([]:List Nat).Nodup:=by decide):Cd.ok P (G mx) (.Fa 154 [.agg (Gn token),.ptr u0 0] (.ret (.zb yR)) [(u0,.cells [.zs a1])] [] [(u0,.cells [.zs a1])] []) :=
 H8 (M:=[.cells [.zs a1]]) (M2:=[.cells [.zs a1]]) (T:=[]) (T2:=[]) (k:=1) (j:=0) Hd.Aa _ _ _ _ hS rfl rfl rfl rfl rfl P0 P1 rfl rfl (.cons (.cells (.pl (A3 rfl rfl))) .nil) (.cons (.cells (.pl (A3 rfl rfl))) .nil) (.cons (.pl (BP.Cr token)) (.cons (.ptr (by decide)) .nil)) (.pl rfl) (λe he=>by simp only[List.mem_singleton] at he;subst he;exact(.arg (.there (.here .ptr))))
def NB{token:Tk}{a1:ByteArray}{yR:Bool}(h:Dt  token a1=some yR):Sound P (G mx) (.call 154 [.agg (Gn token),.ptr 0 0] ⟨[(0,.cells [.zs a1])],1,[],0⟩ (.ret (.zb yR)) ⟨[(0,.cells [.zs a1])],1,[],0⟩):=by
 unfold Dt at h;refine BY Hd.mixed (Au Tryz.func154 aKV ?_);revert h;refine Ag (λA2=>?_) λA2=>?_;rintro⟨⟩;exact Aw Hd.Aa _ _ [] [none] (Ac 300 [pb A2]) (by kernel_rfl) .body;rintro⟨⟩;exact Aw Hd.Aa _ _ [] [none] (Ac 300 [pb A2]) (by kernel_rfl) .body
def aIO:Code:=AY Tryz.f118
def dF:Tryz.f118.body=some aIO:=by kernel_rfl
def Gw(p:Pr)(fits:ByteArray):Option ((Tk⊕Dg)×Int):=(AD p).bind λy1=>Sum.elim (λ(CJ:Tk)=>(Dt CJ fits).bind λy2=>cond y2 (some ((Sum.inl CJ:(Tk⊕Dg)),(BF p.J5 1))) (some ((Sum.inr (⟨71,CJ.AW⟩:Dg):(Tk⊕Dg)),p.J5))) (λ(LU:Dg)=>some ((Sum.inr LU:(Tk⊕Dg)),p.J5)) y1
def LF{p:Pr}{fits:ByteArray}{yR:(Tk⊕Dg)}{Ai:Int}(hS:Sound P (G mx) (.call 118 [.ptr 0 0,.fn (.func 154) [] [.ptr 1 0]] ⟨[(1,.cells [.zs fits]),(0,.cells (Rr p))],2,[],0⟩ (Jf eT eD yR) ⟨[(1,.cells [.zs fits]),(0,.cells (pC p Ai))],2,[],0⟩))(u0 u1:Nat)(P0:([u0,u1]:List Nat).Nodup:=by decide)(P1:([]:List Nat).Nodup:=by decide):Cd.ok P (G mx) (.Fa 118 [.ptr u0 0,.fn (.func 154) [] [.ptr u1 0]] (Jf eT eD yR) [(u0,.cells (Rr p)),(u1,.cells [.zs fits])] [] [(u0,.cells (pC p Ai)),(u1,.cells [.zs fits])] []) :=
 H8 (M:=[.cells (Rr p),.cells [.zs fits]]) (M2:=[.cells (pC p Ai),.cells [.zs fits]]) (T:=[]) (T2:=[]) (k:=2) (j:=0) Hd.Aa _ _ _ _ hS rfl rfl rfl rfl rfl P0 P1 rfl rfl (.cons (.cells (.pl (CM.pl p))) (.cons (.cells (.pl (A3 rfl rfl))) .nil)) (.cons (.cells (.pl (A3 (BP.Ks p.Bu) (A3 rfl (A3 rfl rfl))))) (.cons (.cells (.pl (A3 rfl rfl))) .nil)) (.cons (.ptr (by decide)) (.cons (.fn (.pl rfl) (.cons (.ptr (by decide)) .nil)) .nil)) (Mp (enc:=λyV=>.agg (Gn yV)) (encd:=λdV=>.ifc 45 (.agg (Pq dV))) (λyV=>(BP.Cr yV)) (λdV=>(Cn.Cr dV)) yR) (by
   intro e he;simp only[List.mem_cons,List.not_mem_nil,or_false] at he;rcases he with rfl | rfl
   exact(.arg (.here .ptr));exact(.arg (.there (.here (.fn2 (.here .ptr)))))
   )
def Kr{p:Pr}{fits:ByteArray}{yR:(Tk⊕Dg)}{Ai:Int}(h:Gw  p fits=some (yR,Ai)):Sound P (G mx) (.call 118 [.ptr 0 0,.fn (.func 154) [] [.ptr 1 0]] ⟨[(1,.cells [.zs fits]),(0,.cells (Rr p))],2,[],0⟩ (Jf eT eD yR) ⟨[(1,.cells [.zs fits]),(0,.cells (pC p Ai))],2,[],0⟩):=by
 unfold Gw at h;refine BY Hd.mixed (Au Tryz.func118 dF ?_);revert h;refine As λy1 Cg=>?_;refine Tc (λCJ L1=>?_) λLU L1=>?_;subst L1;refine As λy2 DZ=>?_;let o1:List (PC P (G mx)):=[Af (Ay (Ao Cg) 0),Af (PF (NB DZ) 1)];refine Ag (λhv=>?_) λhv=>?_;subst hv;rintro⟨⟩;exact Aw Hd.Aa _ _ [⟨.agg (Gn CJ),.agg (Gn CJ),(.plain (BP.Cr CJ))⟩] [none,pW p (BF p.J5 1)] (Ac 300 (o1++[pk])) (by kernel_rfl) .body;subst hv;rintro⟨⟩;exact BN Hd.Aa _ [⟨.ifc 45 (.agg [.zi 71,.zi CJ.AW]),.ifc 45 (.agg [.zi 71,.zi CJ.AW]),(.plain (Cn.Cr (⟨71,CJ.AW⟩:Dg)))⟩] [none,bp (CM.pl p)] (Ac 300 (o1++[An (At (Am (p:=p) (err:=71) (at_:=CJ.AW) rfl) 0)])) (by kernel_rfl) .body;subst L1;rintro⟨⟩;exact BN Hd.Aa _ [gD LU] [none,bp (CM.pl p)] (Ac 300 [An (Ay (Ao Cg) 0)]) (by kernel_rfl) .body
def aIQ:Code:=AY Tryz.f120
def aKD:Tryz.f120.body=some aIQ:=by kernel_rfl
def Ak(p:Pr)(text:ByteArray):Option ((Tk⊕Dg)×Int):=(Gw p text).bind λ(Es,Bm)=>Sum.elim (λ(Az:Tk)=>some ((Sum.inl Az:(Tk⊕Dg)),Bm)) (λ(CV:Dg)=>some ((Sum.inr CV:(Tk⊕Dg)),Bm)) Es
def Ab{p:Pr}{text:ByteArray}{yR:(Tk⊕Dg)}{Ai:Int}(h:Ak  p text=some (yR,Ai)):pR mx 120 [.ptr 0 0,.zs text] p (Jf eT eD yR) Ai:=by
 unfold Ak at h;refine BY Hd.mixed (Au Tryz.func120 aKD ?_);revert h;refine BU (λAz Bm Cg=>?_) λCV Bm Cg=>?_;refine Ew ?_;rintro rfl rfl;exact Aw Hd.Aa _ _ [⟨.agg (Gn Az),.agg (Gn Az),(.plain (BP.Cr Az))⟩] [pW p Bm] (Ac 300 [Af (LF (Kr Cg) 0 1)]) (by kernel_rfl) .body;refine Ew ?_;rintro rfl rfl;exact Io CV p Bm [An (LF (Kr Cg) 0 1)] .body
def aIR:Code:=AY Tryz.f121
def aKE:Tryz.f121.body=some aIR:=by kernel_rfl
def Fb(token:Tk):Option Bool:=cond (B1 token.text.data.toList Hk.data.toList) (some true) (cond (B1 token.text.data.toList EG.data.toList) (some true) (cond (B1 token.text.data.toList JV.data.toList) (some true) (cond (Dh token.kind 2) (some true) (some false))))
def T7{token:Tk}{yR:Bool}(h:Fb  token=some yR):Pure P (G mx) 121 [.agg (Gn token)] (.zb yR):=by
 unfold Fb at h;refine CN Hd.mixed Hd.Aa (Au Tryz.func121 aKE ?_) (A3 (BP.Cr token) rfl) rfl;revert h;refine Ag (λA2=>?_) λA2=>?_;rintro⟨⟩;exact rT [pb A2];refine Ag (λhb2=>?_) λhb2=>?_;rintro⟨⟩;exact rT [pb A2,pb hb2];refine Ag (λhb3=>?_) λhb3=>?_;rintro⟨⟩;exact rT [pb A2,pb hb2,pb hb3];refine Ag (λFl=>?_) λFl=>?_;rintro⟨⟩;exact rT [pb A2,pb hb2,pb hb3,pb Fl];rintro⟨⟩;exact rT [pb A2,pb hb2,pb hb3,pb Fl]
def awS:Code:=AY Tryz.f122
def aKF:Tryz.f122.body=some awS:=by kernel_rfl
def Eu(word:ByteArray):Option Int:=cond (B1 Tq.data.toList word.data.toList) (some 1) (cond (B1 Mg.data.toList word.data.toList) (some 2) (cond (B1 Pv.data.toList word.data.toList) (some 3) (cond (B1 Ty.data.toList word.data.toList) (some 4) (some 0))))
def KZ{word:ByteArray}{yR:Int}(h:Eu  word=some yR):Pure P (G mx) 122 [.zs word] (.zi yR):=by
 unfold Eu at h;refine CN Hd.mixed Hd.Aa (Au Tryz.func122 aKF ?_) (A3 rfl rfl) rfl;revert h;refine Dw (Hb (fr2:=fr 19 [(0,.zs word),(5,.agg [.zs ByteArray.empty,.zs Tq,.zs Mg,.zs Pv,.zs Ty]),(6,.zi 0)] [] []) (s2:=⟨[],0,[],0⟩) [] 0 (sb awS 52) [.code (sb awS 7)] (Ac 300 []) (by kernel_rfl)) ?_;refine Dw (Ei (fr2:=fr 19 [(0,.zs word),(5,.agg [.zs ByteArray.empty,.zs Tq,.zs Mg,.zs Pv,.zs Ty]),(6,.zi 1),(7,.zb true),(11,.zb false),(12,.zb false),(16,.zb false)] [] []) (s2:=⟨[],0,[],0⟩) [] (Ac 300 [pk,pk,pk,pk]) (by kernel_rfl)) ?_;refine Ag (λA2=>?_) λA2=>?_;rintro⟨⟩;exact Ax _ _ (Ac 300 [pk,pk,pk,pb A2]) (by kernel_rfl) (.Ge (.outer .body)) .sc;refine Dw (Ei (fr2:=fr 19 [(0,.zs word),(5,.agg [.zs ByteArray.empty,.zs Tq,.zs Mg,.zs Pv,.zs Ty]),(6,.zi 2),(7,.zb true),(11,.zb true),(12,.zb true),(15,.zb false),(16,.zb false)] [] []) (s2:=⟨[],0,[],0⟩) [] (Ac 300 [pk,pk,pk,pb A2,pk]) (by kernel_rfl)) ?_;refine Ag (λhb2=>?_) λhb2=>?_;rintro⟨⟩;exact Ax _ _ (Ac 300 [pk,pk,pk,pb hb2]) (by kernel_rfl) (.Ge (.outer .body)) .sc;refine Dw (Ei (fr2:=fr 19 [(0,.zs word),(5,.agg [.zs ByteArray.empty,.zs Tq,.zs Mg,.zs Pv,.zs Ty]),(6,.zi 3),(7,.zb true),(11,.zb true),(12,.zb true),(15,.zb false),(16,.zb false)] [] []) (s2:=⟨[],0,[],0⟩) [] (Ac 300 [pk,pk,pk,pb hb2,pk]) (by kernel_rfl)) ?_;refine Ag (λhb3=>?_) λhb3=>?_;rintro⟨⟩;exact Ax _ _ (Ac 300 [pk,pk,pk,pb hb3]) (by kernel_rfl) (.Ge (.outer .body)) .sc;refine Dw (Ei (fr2:=fr 19 [(0,.zs word),(5,.agg [.zs ByteArray.empty,.zs Tq,.zs Mg,.zs Pv,.zs Ty]),(6,.zi 4),(7,.zb true),(11,.zb true),(12,.zb true),(15,.zb false),(16,.zb false)] [] []) (s2:=⟨[],0,[],0⟩) [] (Ac 300 [pk,pk,pk,pb hb3,pk]) (by kernel_rfl)) ?_;refine Ag (λFl=>?_) λFl=>?_;rintro⟨⟩;exact Ax _ _ (Ac 300 [pk,pk,pk,pb Fl]) (by kernel_rfl) (.Ge (.outer .body)) .sc;refine Dw (Ei (fr2:=fr 19 [(0,.zs word),(5,.agg [.zs ByteArray.empty,.zs Tq,.zs Mg,.zs Pv,.zs Ty]),(6,.zi 5),(7,.zb true),(11,.zb true),(12,.zb true),(15,.zb false),(16,.zb false)] [] []) (s2:=⟨[],0,[],0⟩) [] (Ac 300 [pk,pk,pk,pb Fl,pk]) (by kernel_rfl)) ?_;refine eR (Dx (id:=0) (fr2:=fr 19 [(7,.zb false),(11,.zb true),(12,.zb true),(15,.zb false),(16,.zb false)] [] []) (s2:=⟨[],0,[],0⟩) (Ac 300 [pk]) (by kernel_rfl)) ?_;rintro⟨⟩;exact Ax _ _ (fU 300 []) (by kernel_rfl) .body .sc
def aIS:Code:=AY Tryz.f123
def aKG:Tryz.f123.body=some aIS:=by kernel_rfl
def BV(token:Tk):Option Bool:=(Eu token.text).bind λy1=>cond (Ev 0 y1) (some true) (some false)
def LD{token:Tk}{yR:Bool}(h:BV  token=some yR):Pure P (G mx) 123 [.agg (Gn token)] (.zb yR):=by
 unfold BV at h;refine CN Hd.mixed Hd.Aa (Au Tryz.func123 aKG ?_) (A3 (BP.Cr token) rfl) rfl;revert h;refine As λy1 Cg=>?_;refine Ag (λA2=>?_) λA2=>?_;rintro⟨⟩;exact rT [AG (KZ Cg),pb A2];rintro⟨⟩;exact rT [AG (KZ Cg),pb A2]
def DB(p:Pr):Option ((Tk⊕Dg)×Int):=(AD p).bind λy1=>Sum.elim (λ(CJ:Tk)=>(Ct CJ).bind λy2=>cond y2 (some ((Sum.inl CJ:(Tk⊕Dg)),(BF p.J5 1))) (some ((Sum.inr (⟨71,CJ.AW⟩:Dg):(Tk⊕Dg)),p.J5))) (λ(LU:Dg)=>some ((Sum.inr LU:(Tk⊕Dg)),p.J5)) y1
def D3{p:Pr}{yR:(Tk⊕Dg)}{Ai:Int}(h:DB  p=some (yR,Ai)):pR mx 118 [.ptr 0 0,.fn (.func 119) [] []] p (Jf eT eD yR) Ai:=by
 unfold DB at h;refine BY Hd.mixed (Au Tryz.func118 dF ?_);revert h;refine As λy1 Cg=>?_;refine Tc (λCJ L1=>?_) λLU L1=>?_;subst L1;refine As λy2 DZ=>?_;let o1:List (PC P (G mx)):=[Af (Ay (Ao Cg) 0),AG (Om DZ)];refine Ag (λhv=>?_) λhv=>?_;subst hv;rintro⟨⟩;exact Aw Hd.Aa _ _ [⟨.agg (Gn CJ),.agg (Gn CJ),(.plain (BP.Cr CJ))⟩] [pW p (BF p.J5 1)] (Ac 300 (o1++[pk])) (by kernel_rfl) .body;subst hv;rintro⟨⟩;exact BN Hd.Aa _ [⟨.ifc 45 (.agg [.zi 71,.zi CJ.AW]),.ifc 45 (.agg [.zi 71,.zi CJ.AW]),(.plain (Cn.Cr (⟨71,CJ.AW⟩:Dg)))⟩] [bp (CM.pl p)] (Ac 300 (o1++[An (At (Am (p:=p) (err:=71) (at_:=CJ.AW) rfl) 0)])) (by kernel_rfl) .body;subst L1;rintro⟨⟩;exact BN Hd.Aa _ [gD LU] [bp (CM.pl p)] (Ac 300 [An (Ay (Ao Cg) 0)]) (by kernel_rfl) .body
def EJ(p:Pr):Option ((Tk⊕Dg)×Int):=(AD p).bind λy1=>Sum.elim (λ(CJ:Tk)=>(Fb CJ).bind λy2=>cond y2 (some ((Sum.inl CJ:(Tk⊕Dg)),(BF p.J5 1))) (some ((Sum.inr (⟨71,CJ.AW⟩:Dg):(Tk⊕Dg)),p.J5))) (λ(LU:Dg)=>some ((Sum.inr LU:(Tk⊕Dg)),p.J5)) y1
def IC{p:Pr}{yR:(Tk⊕Dg)}{Ai:Int}(h:EJ  p=some (yR,Ai)):pR mx 118 [.ptr 0 0,.fn (.func 121) [] []] p (Jf eT eD yR) Ai:=by
 unfold EJ at h;refine BY Hd.mixed (Au Tryz.func118 dF ?_);revert h;refine As λy1 Cg=>?_;refine Tc (λCJ L1=>?_) λLU L1=>?_;subst L1;refine As λy2 DZ=>?_;let o1:List (PC P (G mx)):=[Af (Ay (Ao Cg) 0),AG (T7 DZ)];refine Ag (λhv=>?_) λhv=>?_;subst hv;rintro⟨⟩;exact Aw Hd.Aa _ _ [⟨.agg (Gn CJ),.agg (Gn CJ),(.plain (BP.Cr CJ))⟩] [pW p (BF p.J5 1)] (Ac 300 (o1++[pk])) (by kernel_rfl) .body;subst hv;rintro⟨⟩;exact BN Hd.Aa _ [⟨.ifc 45 (.agg [.zi 71,.zi CJ.AW]),.ifc 45 (.agg [.zi 71,.zi CJ.AW]),(.plain (Cn.Cr (⟨71,CJ.AW⟩:Dg)))⟩] [bp (CM.pl p)] (Ac 300 (o1++[An (At (Am (p:=p) (err:=71) (at_:=CJ.AW) rfl) 0)])) (by kernel_rfl) .body;subst L1;rintro⟨⟩;exact BN Hd.Aa _ [gD LU] [bp (CM.pl p)] (Ac 300 [An (Ay (Ao Cg) 0)]) (by kernel_rfl) .body
def Gc(p:Pr):Option ((Tk⊕Dg)×Int):=(AD p).bind λy1=>Sum.elim (λ(CJ:Tk)=>(BV CJ).bind λy2=>cond y2 (some ((Sum.inl CJ:(Tk⊕Dg)),(BF p.J5 1))) (some ((Sum.inr (⟨71,CJ.AW⟩:Dg):(Tk⊕Dg)),p.J5))) (λ(LU:Dg)=>some ((Sum.inr LU:(Tk⊕Dg)),p.J5)) y1
def JY{p:Pr}{yR:(Tk⊕Dg)}{Ai:Int}(h:Gc  p=some (yR,Ai)):pR mx 118 [.ptr 0 0,.fn (.func 123) [] []] p (Jf eT eD yR) Ai:=by
 unfold Gc at h;refine BY Hd.mixed (Au Tryz.func118 dF ?_);revert h;refine As λy1 Cg=>?_;refine Tc (λCJ L1=>?_) λLU L1=>?_;subst L1;refine As λy2 DZ=>?_;let o1:List (PC P (G mx)):=[Af (Ay (Ao Cg) 0),AG (LD DZ)];refine Ag (λhv=>?_) λhv=>?_;subst hv;rintro⟨⟩;exact Aw Hd.Aa _ _ [⟨.agg (Gn CJ),.agg (Gn CJ),(.plain (BP.Cr CJ))⟩] [pW p (BF p.J5 1)] (Ac 300 (o1++[pk])) (by kernel_rfl) .body;subst hv;rintro⟨⟩;exact BN Hd.Aa _ [⟨.ifc 45 (.agg [.zi 71,.zi CJ.AW]),.ifc 45 (.agg [.zi 71,.zi CJ.AW]),(.plain (Cn.Cr (⟨71,CJ.AW⟩:Dg)))⟩] [bp (CM.pl p)] (Ac 300 (o1++[An (At (Am (p:=p) (err:=71) (at_:=CJ.AW) rfl) 0)])) (by kernel_rfl) .body;subst L1;rintro⟨⟩;exact BN Hd.Aa _ [gD LU] [bp (CM.pl p)] (Ac 300 [An (Ay (Ao Cg) 0)]) (by kernel_rfl) .body
def B70:Code:=AY Tryz.f70
def b70:Tryz.f70.body=some B70:=by kernel_rfl
def DA(p:Pr):Option ((Nd⊕Dg)×Int):=(AD p).bind λy1=>Sum.elim (λ(CJ:Tk)=>(DB (⟨p.Bu,(BF p.J5 1),p.DJ⟩:Pr)).bind λ(JM,EL)=>Sum.elim (λ(C5:Tk)=>(Ak (⟨p.Bu,EL,p.DJ⟩:Pr) Vi).bind λ(LV,E5)=>Sum.elim (λ(CK:Tk)=>(EJ (⟨p.Bu,E5,p.DJ⟩:Pr)).bind λ(Wj,JK)=>Sum.elim (λ(Di:Tk)=>cond (B1 CJ.text.data.toList O4.data.toList) ((Gc (⟨p.Bu,JK,p.DJ⟩:Pr)).bind λ(SC,H3)=>Sum.elim (λ(IM:Tk)=>(Eu IM.text).bind λy6=>(Ak (⟨p.Bu,H3,p.DJ⟩:Pr) RM).bind λ(sF,RT)=>Sum.elim (λ(VB:Tk)=>some ((Sum.inl (⟨3,C5.text,Di.text,y6,0,0,0,(⟨0,[]⟩:Fn),[],CJ.AW⟩:Nd):(Nd⊕Dg)),RT)) (λ(PP:Dg)=>some ((Sum.inr PP:(Nd⊕Dg)),RT)) sF) (λ(Hm:Dg)=>some ((Sum.inr Hm:(Nd⊕Dg)),H3)) SC) ((Ak (⟨p.Bu,JK,p.DJ⟩:Pr) RM).bind λ(ZE,LO)=>Sum.elim (λ(Hc:Tk)=>some ((Sum.inl (⟨2,C5.text,Di.text,0,0,0,0,(⟨0,[]⟩:Fn),[],CJ.AW⟩:Nd):(Nd⊕Dg)),LO)) (λ(LN:Dg)=>some ((Sum.inr LN:(Nd⊕Dg)),LO)) ZE)) (λ(IL:Dg)=>some ((Sum.inr IL:(Nd⊕Dg)),JK)) Wj) (λ(Ez:Dg)=>some ((Sum.inr Ez:(Nd⊕Dg)),E5)) LV) (λ(Hl:Dg)=>some ((Sum.inr Hl:(Nd⊕Dg)),EL)) JM) (λ(LU:Dg)=>some ((Sum.inr LU:(Nd⊕Dg)),p.J5)) y1
def D2{p:Pr}{yR:(Nd⊕Dg)}{Ai:Int}(h:DA  p=some (yR,Ai)):pR mx 70 [.ptr 0 0] p (Jf eN eD yR) Ai:=by
 unfold DA at h;refine BY Hd.mixed (Au Tryz.func70 b70 ?_);revert h;refine As λy1 Cg=>?_;refine Tc (λCJ L1=>?_) λLU L1=>?_;subst L1;let o1:List (PC P (G mx)):=[Af (Ay (Ao Cg) 0),pk];refine BU (λC5 EL DZ=>?_) λHl EL DZ=>?_;let o2:List (PC P (G mx)):=o1++[Af (It (D3 DZ) 0)];refine BU (λCK E5 Fo=>?_) λEz E5 Fo=>?_;let o3:List (PC P (G mx)):=o2++[Af (It (Ab Fo) 0)];refine BU (λDi JK J9=>?_) λIL JK J9=>?_;let o4:List (PC P (G mx)):=o3++[Af (It (IC J9) 0)];refine Ag (λA2=>?_) λA2=>?_;refine BU (λIM H3 Ka=>?_) λHm H3 Ka=>?_;refine As λy6 L5=>?_;let o5:List (PC P (G mx)):=o4++[pb A2,Af (It (JY Ka) 0),AG (KZ L5)];refine BU (λVB RT SM=>?_) λPP RT SM=>?_;refine Ew ?_;rintro rfl rfl;exact Aw Hd.Aa _ _ [⟨.agg [.zi 3,.zs C5.text,.zs Di.text,.zi y6,.zi 0,.zi 0,.zi 0,.zi 0,.sl .full 0 [],.sl .full 0 [],.zi CJ.AW],.agg [.zi 3,.zs C5.text,.zs Di.text,.zi y6,.zi 0,.zi 0,.zi 0,.zi 0,.sl .lost ([].length) (rows IE []),.sl .lost ([].length) (Bi []),.zi CJ.AW],(.wn (.g (.r (.r (.r (.r (.r (.r (.r (.r (.z (.z (.r .nil))))))))))) .nil) (AE.Cr (⟨3,C5.text,Di.text,y6,0,0,0,(⟨0,[]⟩:Fn),[],CJ.AW⟩:Nd)))⟩] [pW p RT] (Ac 300 (o5++[Af (It (Ab SM) 0)])) (by kernel_rfl) .body;refine Ew ?_;rintro rfl rfl;exact Io PP p RT (o5++[An (It (Ab SM) 0)]) .body;refine Ew ?_;rintro rfl rfl;exact Io Hm p H3 (o4++[pb A2,An (It (JY Ka) 0)]) .body;refine BU (λHc LO OK=>?_) λLN LO OK=>?_;refine Ew ?_;rintro rfl rfl;exact Aw Hd.Aa _ _ [⟨.agg [.zi 2,.zs C5.text,.zs Di.text,.zi 0,.zi 0,.zi 0,.zi 0,.zi 0,.sl .full 0 [],.sl .full 0 [],.zi CJ.AW],.agg [.zi 2,.zs C5.text,.zs Di.text,.zi 0,.zi 0,.zi 0,.zi 0,.zi 0,.sl .lost ([].length) (rows IE []),.sl .lost ([].length) (Bi []),.zi CJ.AW],(.wn (.g (.r (.r (.r (.r (.r (.r (.r (.r (.z (.z (.r .nil))))))))))) .nil) (AE.Cr (⟨2,C5.text,Di.text,0,0,0,0,(⟨0,[]⟩:Fn),[],CJ.AW⟩:Nd)))⟩] [pW p LO] (Ac 300 (o4++[pb A2,Af (It (Ab OK) 0)])) (by kernel_rfl) .body;refine Ew ?_;rintro rfl rfl;exact Io LN p LO (o4++[pb A2,An (It (Ab OK) 0)]) .body;refine Ew ?_;rintro rfl rfl;exact Io IL p JK (o3++[An (It (IC J9) 0)]) .body;refine Ew ?_;rintro rfl rfl;exact Io Ez p E5 (o2++[An (It (Ab Fo) 0)]) .body;refine Ew ?_;rintro rfl rfl;exact Io Hl p EL (o1++[An (It (D3 DZ) 0)]) .body;subst L1;refine Ew ?_;rintro rfl rfl;exact BN Hd.Aa _ [gD LU] [bp (CM.pl p)] (Ac 300 [An (Ay (Ao Cg) 0)]) (by kernel_rfl) .body
def aJK:Code:=AY Tryz.f172
def aLC:Tryz.f172.body=some aJK:=by kernel_rfl
def En(token:Tk):Option Bool:=cond (Dh token.kind 3) (some true) (some false)
def NC{token:Tk}{yR:Bool}(h:En  token=some yR):Pure P (G mx) 172 [.agg (Gn token)] (.zb yR):=by
 unfold En at h;refine CN Hd.mixed Hd.Aa (Au Tryz.func172 aLC ?_) (A3 (BP.Cr token) rfl) rfl;revert h;refine Ag (λA2=>?_) λA2=>?_;rintro⟨⟩;exact rT [pb A2];rintro⟨⟩;exact rT [pb A2]
def Ib(p:Pr):Option ((Tk⊕Dg)×Int):=(AD p).bind λy1=>Sum.elim (λ(CJ:Tk)=>(En CJ).bind λy2=>cond y2 (some ((Sum.inl CJ:(Tk⊕Dg)),(BF p.J5 1))) (some ((Sum.inr (⟨71,CJ.AW⟩:Dg):(Tk⊕Dg)),p.J5))) (λ(LU:Dg)=>some ((Sum.inr LU:(Tk⊕Dg)),p.J5)) y1
def Jz{p:Pr}{yR:(Tk⊕Dg)}{Ai:Int}(h:Ib  p=some (yR,Ai)):pR mx 118 [.ptr 0 0,.fn (.func 172) [] []] p (Jf eT eD yR) Ai:=by
 unfold Ib at h;refine BY Hd.mixed (Au Tryz.func118 dF ?_);revert h;refine As λy1 Cg=>?_;refine Tc (λCJ L1=>?_) λLU L1=>?_;subst L1;refine As λy2 DZ=>?_;let o1:List (PC P (G mx)):=[Af (Ay (Ao Cg) 0),AG (NC DZ)];refine Ag (λhv=>?_) λhv=>?_;subst hv;rintro⟨⟩;exact Aw Hd.Aa _ _ [⟨.agg (Gn CJ),.agg (Gn CJ),(.plain (BP.Cr CJ))⟩] [pW p (BF p.J5 1)] (Ac 300 (o1++[pk])) (by kernel_rfl) .body;subst hv;rintro⟨⟩;exact BN Hd.Aa _ [⟨.ifc 45 (.agg [.zi 71,.zi CJ.AW]),.ifc 45 (.agg [.zi 71,.zi CJ.AW]),(.plain (Cn.Cr (⟨71,CJ.AW⟩:Dg)))⟩] [bp (CM.pl p)] (Ac 300 (o1++[An (At (Am (p:=p) (err:=71) (at_:=CJ.AW) rfl) 0)])) (by kernel_rfl) .body;subst L1;rintro⟨⟩;exact BN Hd.Aa _ [gD LU] [bp (CM.pl p)] (Ac 300 [An (Ay (Ao Cg) 0)]) (by kernel_rfl) .body
def aJE:Code:=AY Tryz.f155
def aKW:Tryz.f155.body=some aJE:=by kernel_rfl
def ET(p:Pr):Option (((Int×Int)⊕Dg)×Int):=(Ib p).bind λ(Es,Bm)=>Sum.elim (λ(Az:Tk)=>(R4 Az.text).bind λ(JM,EL)=>some ((Sum.inl (JM,Az.AW):((Int×Int)⊕Dg)),Bm)) (λ(CV:Dg)=>some ((Sum.inr CV:((Int×Int)⊕Dg)),Bm)) Es
def Fi{p:Pr}{yR:((Int×Int)⊕Dg)}{Ai:Int}(h:ET  p=some (yR,Ai)):pR mx 155 [.ptr 0 0] p (Jf eJ eD yR) Ai:=by
 unfold ET at h;refine BY Hd.mixed (Au Tryz.func155 aKW ?_);revert h;refine BU (λAz Bm Cg=>?_) λCV Bm Cg=>?_;refine As ?_;rintro⟨JM,EL⟩ DZ;dsimp only;refine Ew ?_;rintro rfl rfl;exact Aw Hd.Aa _ _ [⟨.C4 [.zi JM,.zi Az.AW],.C4 [.zi JM,.zi Az.AW],(.plain (A3 rfl (A3 rfl rfl)))⟩] [pW p Bm] (Ac 300 [Af (It (Jz Cg) 0),AG (sR DZ)]) (by kernel_rfl) .body;refine Ew ?_;rintro rfl rfl;exact Io CV p Bm [An (It (Jz Cg) 0)] .body
def aIT:Code:=AY Tryz.f124
def aKH:Tryz.f124.body=some aIT:=by kernel_rfl
def AK(p:Pr)(least:Int):Option (((Int×Int)⊕Dg)×Int):=(ET p).bind λ(Es,Bm)=>Sum.elim (λ(Az:(Int×Int))=>cond (Ev Az.1 least) (some ((Sum.inr (⟨3,Az.2⟩:Dg):((Int×Int)⊕Dg)),Bm)) (cond (Ev 1000000 Az.1) (some ((Sum.inr (⟨3,Az.2⟩:Dg):((Int×Int)⊕Dg)),Bm)) (some ((Sum.inl (Az.1,Az.2):((Int×Int)⊕Dg)),Bm)))) (λ(CV:Dg)=>some ((Sum.inr CV:((Int×Int)⊕Dg)),Bm)) Es
def Al{p:Pr}{least:Int}{yR:((Int×Int)⊕Dg)}{Ai:Int}(h:AK  p least=some (yR,Ai)):pR mx 124 [.ptr 0 0,.zi least] p (Jf eJ eD yR) Ai:=by
 unfold AK at h;refine BY Hd.mixed (Au Tryz.func124 aKH ?_);revert h;refine BU (λAz Bm Cg=>?_) λCV Bm Cg=>?_;let o1:List (PC P (G mx)):=[Af (No (Fi Cg) 0)];refine Ag (λA2=>?_) λA2=>?_;refine Ew ?_;rintro rfl rfl;exact BN Hd.Aa _ [⟨.ifc 45 (.agg [.zi 3,.zi Az.2]),.ifc 45 (.agg [.zi 3,.zi Az.2]),(.plain (Cn.Cr (⟨3,Az.2⟩:Dg)))⟩] [pW p Bm] (Ac 300 (o1++[pb A2,An (At (Am (p:=(⟨p.Bu,Bm,p.DJ⟩:Pr)) (err:=3) (at_:=Az.2) rfl) 0)])) (by kernel_rfl) .body;refine Ag (λhb2=>?_) λhb2=>?_;refine Ew ?_;rintro rfl rfl;exact BN Hd.Aa _ [⟨.ifc 45 (.agg [.zi 3,.zi Az.2]),.ifc 45 (.agg [.zi 3,.zi Az.2]),(.plain (Cn.Cr (⟨3,Az.2⟩:Dg)))⟩] [pW p Bm] (Ac 300 (o1++[pb A2,pb hb2,An (At (Am (p:=(⟨p.Bu,Bm,p.DJ⟩:Pr)) (err:=3) (at_:=Az.2) rfl) 0)])) (by kernel_rfl) .body;refine Ew ?_;rintro rfl rfl;exact Aw Hd.Aa _ _ [⟨.C4 [.zi Az.1,.zi Az.2],.C4 [.zi Az.1,.zi Az.2],(.plain (A3 rfl (A3 rfl rfl)))⟩] [pW p Bm] (Ac 300 (o1++[pb A2,pb hb2])) (by kernel_rfl) .body;refine Ew ?_;rintro rfl rfl;exact Io CV p Bm [An (No (Fi Cg) 0)] .body
def B37:Code:=AY Tryz.f37
def b37:Tryz.f37.body=some B37:=by kernel_rfl
def Aq(p:Pr)(text:ByteArray):Option Bool:=cond (Ev p.J5 ((p.Bu.length:Nat):Int)) ((Ha p.Bu p.J5).bind λx1=>(some (B1 x1.text.data.toList text.data.toList)).bind λq2=>some q2) (some false)
def Ah{p:Pr}{text:ByteArray}{yR:Bool}(h:Aq  p text=some yR):Sound P (G mx) (.call 37 [.ptr 0 0,.zs text] (pZ p) (.ret (.zb yR)) (pZ p)):=by
 unfold Aq at h;refine BY Hd.mixed (Au Tryz.func37 b37 ?_);revert h;refine Ag (λA2=>?_) λA2=>?_;refine As λx1 nT=>?_;refine As λq2 ZH=>?_;rintro⟨⟩;exact Aw Hd.Aa _ _ [] [bp (CM.pl p)] (Ac 300 [pb A2,IR (afQ .lost nT),Qf (aIK ZH (.tmp 26) (.tmp 27))]) (by kernel_rfl) .body;rintro⟨⟩;exact Aw Hd.Aa _ _ [] [bp (CM.pl p)] (Ac 300 [pb A2]) (by kernel_rfl) .body
def aJL:Code:=AY Tryz.f174
def aLD:Tryz.f174.body=some aJL:=by kernel_rfl
def ES(token:Tk):Option Bool:=cond (Dh token.kind 5) (some true) (some false)
def OT{token:Tk}{yR:Bool}(h:ES  token=some yR):Pure P (G mx) 174 [.agg (Gn token)] (.zb yR):=by
 unfold ES at h;refine CN Hd.mixed Hd.Aa (Au Tryz.func174 aLD ?_) (A3 (BP.Cr token) rfl) rfl;revert h;refine Ag (λA2=>?_) λA2=>?_;rintro⟨⟩;exact rT [pb A2];rintro⟨⟩;exact rT [pb A2]
def aJP:Code:=AY Tryz.f212
def aLJ:Tryz.f212.body=some aJP:=by kernel_rfl
def Gp(year:Int)(month:Int):Option Int:=(Ha beforeL (BF month 1)).bind λx1=>(Ha beforeL month).bind λx2=>cond (Dh month 1) (cond (Dh (aC year 4) 0) (some (BF (LS x1 x2) 1)) (some (LS x1 x2))) (some (LS x1 x2))
def QH{year:Int}{month:Int}{yR:Int}(h:Gp  year month=some yR):Pure P (G mx) 212 [.zi year,.zi month] (.zi yR):=by
 unfold Gp at h;refine CN Hd.mixed Hd.Aa (Au Tryz.func212 aLJ ?_) (A3 rfl (A3 rfl rfl)) rfl;revert h;refine As λx1 nT=>?_;refine As λx2 yN=>?_;let o1:List (PC P (G mx)):=[pk,IR (pY nT),IR (pY yN),pk];refine Ag (λA2=>?_) λA2=>?_;refine Ag (λhb2=>?_) λhb2=>?_;rintro⟨⟩;exact rT (o1++[pb A2,pk,pb hb2,pk]);rintro⟨⟩;exact rT (o1++[pb A2,pk,pb hb2]);rintro⟨⟩;exact rT (o1++[pb A2])
def aJT:Code:=AY Tryz.f227
def aLO:Tryz.f227.body=some aJT:=by kernel_rfl
def JS(year:Int):Option Int:=some (BF (BS (LS year 2000) 365) (abG (BF (LS year 2000) 3) 4))
def PY{year:Int}{yR:Int}(h:JS  year=some yR):Pure P (G mx) 227 [.zi year] (.zi yR):=by
 unfold JS at h;refine CN Hd.mixed Hd.Aa (Au Tryz.func227 aLO ?_) (A3 rfl rfl) rfl;revert h;rintro⟨⟩;exact rT [pk,pk,pk,pk,pk]
def aJQ:Code:=AY Tryz.f213
def aLK:Tryz.f213.body=some aJQ:=by kernel_rfl
def Iv(month:Int):Option Int:=cond (Ev month 0) (some (-1)) (cond (Ev 1199 month) (some (-1)) ((JS (BF 2000 (abG month 12))).bind λy1=>(Ha beforeL (aC month 12)).bind λx2=>cond (Ev 1 (aC month 12)) (cond (Dh (aC (BF 2000 (abG month 12)) 4) 0) (some (BF (BF y1 x2) 1)) (some (BF y1 x2))) (some (BF y1 x2))))
def S0{month:Int}{yR:Int}(h:Iv  month=some yR):Pure P (G mx) 213 [.zi month] (.zi yR):=by
 unfold Iv at h;refine CN Hd.mixed Hd.Aa (Au Tryz.func213 aLK ?_) (A3 rfl rfl) rfl;revert h;refine Ag (λA2=>?_) λA2=>?_;rintro⟨⟩;exact rT [pb A2];refine Ag (λhb2=>?_) λhb2=>?_;rintro⟨⟩;exact rT [pb A2,pb hb2];refine As λy1 Cg=>?_;refine As λx2 yN=>?_;let o1:List (PC P (G mx)):=[pb A2,pb hb2,pk,pk,AG (PY Cg),pk,IR (pY yN),pk,pk];refine Ag (λhb3=>?_) λhb3=>?_;refine Ag (λFl=>?_) λFl=>?_;rintro⟨⟩;exact rT (o1++[pb hb3,pk,pb Fl,pk]);rintro⟨⟩;exact rT (o1++[pb hb3,pk,pb Fl]);rintro⟨⟩;exact rT (o1++[pb hb3])
def aJN:Code:=AY Tryz.f195
def aLH:Tryz.f195.body=some aJN:=by kernel_rfl
def JR(year:Int)(month:Int)(day:Int):Option (Int×Int):=cond (Ev year 2000) (some (0,21)) (cond (Ev 2099 year) (some (0,21)) (cond (Ev month 1) (some (0,21)) (cond (Ev 12 month) (some (0,21)) (cond (Ev day 1) (some (0,21)) ((Gp year (LS month 1)).bind λy1=>cond (Ev y1 day) (some (0,21)) ((Iv (LS (BF (BS (LS year 2000) 12) month) 1)).bind λy2=>some ((LS (BF y2 day) 1),0)))))))
def US{year:Int}{month:Int}{day:Int}{yR:(Int×Int)}(h:JR  year month day=some yR):Pure P (G mx) 195 [.zi year,.zi month,.zi day] (.C4 [.zi yR.1,.zi yR.2]):=by
 unfold JR at h;refine CN Hd.mixed Hd.Aa (Au Tryz.func195 aLH ?_) (A3 rfl (A3 rfl (A3 rfl rfl))) (A3 rfl (A3 rfl rfl));revert h;refine Ag (λA2=>?_) λA2=>?_;rintro⟨⟩;exact Ax _ _ (Ac 300 [pb A2]) (by kernel_rfl) .body (.plain (A3 rfl (A3 rfl rfl)));refine Ag (λhb2=>?_) λhb2=>?_;rintro⟨⟩;exact Ax _ _ (Ac 300 [pb A2,pb hb2]) (by kernel_rfl) .body (.plain (A3 rfl (A3 rfl rfl)));refine Ag (λhb3=>?_) λhb3=>?_;rintro⟨⟩;exact Ax _ _ (Ac 300 [pb A2,pb hb2,pb hb3]) (by kernel_rfl) .body (.plain (A3 rfl (A3 rfl rfl)));refine Ag (λFl=>?_) λFl=>?_;rintro⟨⟩;exact Ax _ _ (Ac 300 [pb A2,pb hb2,pb hb3,pb Fl]) (by kernel_rfl) .body (.plain (A3 rfl (A3 rfl rfl)));refine Ag (λH9=>?_) λH9=>?_;rintro⟨⟩;exact Ax _ _ (Ac 300 [pb A2,pb hb2,pb hb3,pb Fl,pb H9]) (by kernel_rfl) .body (.plain (A3 rfl (A3 rfl rfl)));refine As λy1 Cg=>?_;let o1:List (PC P (G mx)):=[pb A2,pb hb2,pb hb3,pb Fl,pb H9,pk,AG (QH Cg)];refine Ag (λI5=>?_) λI5=>?_;rintro⟨⟩;exact Ax _ _ (Ac 300 (o1++[pb I5])) (by kernel_rfl) .body (.plain (A3 rfl (A3 rfl rfl)));refine As λy2 DZ=>?_;rintro⟨⟩;exact Ax _ _ (Ac 300 (o1++[pb I5,pk,pk,pk,pk,AG (S0 DZ),pk,pk])) (by kernel_rfl) .body (.plain (A3 rfl (A3 rfl rfl)))
def awX:Code:=AY Tryz.f175
def aLE:Tryz.f175.body=some awX:=by kernel_rfl
def Ca(i0:Nat)(e0:UInt8)(La:Int)(E9:Int)(BC:Int)(Vu:Int):Option (Lp (Int×Int×Int×Int) (Int×Int×Int) (Int×Int)):=cond (Dh ((i0:Nat):Int) 4) (cond (Dh ((e0.toNat:Nat):Int) 45) (some (.nx ((BF La 1),E9,BC,Vu))) (some (.rt (0,12)))) (cond (Dh ((i0:Nat):Int) 7) (cond (Dh ((e0.toNat:Nat):Int) 45) (some (.nx ((BF La 1),E9,BC,Vu))) (some (.rt (0,12)))) (cond (Ev ((e0.toNat:Nat):Int) 48) (some (.rt (0,12))) (cond (Ev 57 ((e0.toNat:Nat):Int)) (some (.rt (0,12))) (cond (Dh La 0) (some (.nx (La,(BF (BS E9 10) (w64 (Nq .u8 (fY ((e0.toNat:Nat):Int) 48)))),BC,Vu))) (cond (Dh La 1) (some (.nx (La,E9,(BF (BS BC 10) (w64 (Nq .u8 (fY ((e0.toNat:Nat):Int) 48)))),Vu))) (cond (Dh La 2) (some (.nx (La,E9,BC,(BF (BS Vu 10) (w64 (Nq .u8 (fY ((e0.toNat:Nat):Int) 48))))))) (none)))))))
def Fs(text:ByteArray):Option (Int×Int):=cond (Dh ((text.data.toList.length:Nat):Int) 10) ((S6 text.data.toList.length (CQ (λi y x=>Ca   i y x.1 x.2.1 x.2.2.1 x.2.2.2) (λx=>(x.2.1,x.2.2.1,x.2.2.2)) (text.data.toList.drop 0) 0 (0,0,0,0))).bind (L8 (λ((akR,akS,akU):(Int×Int×Int))=>(JR akR akS akU).bind λ(JM,EL)=>some (JM,EL)) (λv=>some v))) (some (0,12))
def S1{text:ByteArray}{yR:(Int×Int)}(h:Fs  text=some yR):Pure P (G mx) 175 [.zs text] (.C4 [.zi yR.1,.zi yR.2]):=by
 unfold Fs at h;refine CN Hd.mixed Hd.Aa (Au Tryz.func175 aLE ?_) (A3 rfl rfl) (A3 rfl (A3 rfl rfl));revert h;refine Ag (λA2=>?_) λA2=>?_;refine RB (λQ v=>Kz P Tryz.f175 0 Q (.C4 [.zi v.1,.zi v.2])) (λi0 ((La,E9,BC,Vu):(Int×Int×Int×Int)) (j0:List Value)=>fr 58 [(0,.zs text),(4,.ptr 0 0),(5,.zi La),(13,.zi ((text.data.toList.length:Nat):Int)),(14,.zi ((i0:Nat):Int))] [10,15,30,32,33,35,36,38,41,43,44,46,47] j0) (λ((La,E9,BC,Vu):(Int×Int×Int×Int))=>⟨[(0,.cells [.zi E9,.zi BC,.zi Vu])],1,[],0⟩) (λ((E9,BC,Vu):(Int×Int×Int)) (jx:List Value)=>fr 58 [(4,.ptr 0 0)] [10,15,30,32,33,35,36,38,41,43,44,46,47] jx) (λ((E9,BC,Vu):(Int×Int×Int))=>⟨[(0,.cells [.zi E9,.zi BC,.zi Vu])],1,[],0⟩) [bF] (Hb [] 0 (sb awX 500) [.code (sb awX 63)] (Ac 300 [pn A2]) (by kernel_rfl)) ?_ ?_ ?_ (λv h=>by cases h;exact .outer .body);rintro i0 ⟨La,E9,BC,Vu⟩ j0 hge hq;exact Dx (Ac 300 [pb (fA hge)]) (by kernel_rfl) (hq (js 13 j0 [(1,bF)]));rintro i0 e0 ⟨La,E9,BC,Vu⟩ j0 r QN PS P6 k;show Ca   i0 e0 La E9 BC Vu=some r->_;unfold Ca;let o1:List (PC P (G mx)):=[pb (WD PS),Sn (WX QN)];refine Ag (λhb2=>?_) λhb2=>?_;refine Ag (λhb3=>?_) λhb3=>?_;rintro⟨⟩;exact GB (Ac 300 (o1++[pb hb2,pn hb3,pk,pi P6])) (by kernel_rfl) (k (js 13 j0 [(1,bT),(2,bT),(3,bT),(4,bT),(5,undef),(6,bT),(7,bF)]));rintro⟨⟩;exact Ax _ _ (Ac 300 (o1++[pb hb2,pn hb3])) (by kernel_rfl) (.Ge k) (.plain (A3 rfl (A3 rfl rfl)));refine Ag (λFl=>?_) λFl=>?_;refine Ag (λH9=>?_) λH9=>?_;rintro⟨⟩;exact GB (Ac 300 (o1++[pb hb2,pb Fl,pn H9,pk,pi P6])) (by kernel_rfl) (k (js 13 j0 [(1,bT),(2,bT),(3,bF),(4,bF),(5,bT),(6,bT),(7,bF)]));rintro⟨⟩;exact Ax _ _ (Ac 300 (o1++[pb hb2,pb Fl,pn H9])) (by kernel_rfl) (.Ge k) (.plain (A3 rfl (A3 rfl rfl)));refine Ag (λI5=>?_) λI5=>?_;rintro⟨⟩;exact Ax _ _ (Ac 300 (o1++[pb hb2,pb Fl,pb I5])) (by kernel_rfl) (.Ge k) (.plain (A3 rfl (A3 rfl rfl)));refine Ag (λJi=>?_) λJi=>?_;rintro⟨⟩;exact Ax _ _ (Ac 300 (o1++[pb hb2,pb Fl,pb I5,pb Ji])) (by kernel_rfl) (.Ge k) (.plain (A3 rfl (A3 rfl rfl)));refine Ag (λKv=>?_) λKv=>?_;rintro⟨⟩;exact GB (Ac 300 (o1++[pb hb2,pb Fl,pb I5,pb Ji,IR (t:=173) (a:=.ptr 0 0) (b:=.zi La) (v:=.ptr 0 0) (by rw[FQ Kv];kernel_rfl),pk,pk,pk,IR (t:=173) (a:=.ptr 0 0) (b:=.zi La) (v:=.ptr 0 0) (by rw[FQ Kv];kernel_rfl),pi P6])) (by kernel_rfl) (k [(jv j0 0),bT,bF,bF,bF,bF,bF,(jv j0 7),bF,bF,bF,bF,bF]);refine Ag (λJL=>?_) λJL=>?_;rintro⟨⟩;exact GB (Ac 300 (o1++[pb hb2,pb Fl,pb I5,pb Ji,IR (t:=173) (a:=.ptr 0 0) (b:=.zi La) (v:=.ptr 0 1) (by rw[FQ JL];kernel_rfl),pk,pk,pk,IR (t:=173) (a:=.ptr 0 0) (b:=.zi La) (v:=.ptr 0 1) (by rw[FQ JL];kernel_rfl),pi P6])) (by kernel_rfl) (k [(jv j0 0),bT,bF,bF,bF,bF,bF,(jv j0 7),bF,bF,bF,bF,bF]);refine Ag (λGO=>?_) λGO=>?_;rintro⟨⟩;exact GB (Ac 300 (o1++[pb hb2,pb Fl,pb I5,pb Ji,IR (t:=173) (a:=.ptr 0 0) (b:=.zi La) (v:=.ptr 0 2) (by rw[FQ GO];kernel_rfl),pk,pk,pk,IR (t:=173) (a:=.ptr 0 0) (b:=.zi La) (v:=.ptr 0 2) (by rw[FQ GO];kernel_rfl),pi P6])) (by kernel_rfl) (k [(jv j0 0),bT,bF,bF,bF,bF,bF,(jv j0 7),bF,bF,bF,bF,bF]);exact YV;rintro⟨akR,akS,akU⟩ aOS;dsimp only;refine As ?_;rintro⟨JM,EL⟩ DZ;dsimp only;rintro⟨⟩;exact Ax _ _ (Ip 300 [pk,pk,pk,AG (US DZ)]) (by kernel_rfl) .body (.plain (A3 rfl (A3 rfl rfl)));rintro⟨⟩;exact Ax _ _ (Ac 300 [pn A2]) (by kernel_rfl) .body (.plain (A3 rfl (A3 rfl rfl)))
def Hi(p:Pr):Option ((Tk⊕Dg)×Int):=(AD p).bind λy1=>Sum.elim (λ(CJ:Tk)=>(ES CJ).bind λy2=>cond y2 (some ((Sum.inl CJ:(Tk⊕Dg)),(BF p.J5 1))) (some ((Sum.inr (⟨71,CJ.AW⟩:Dg):(Tk⊕Dg)),p.J5))) (λ(LU:Dg)=>some ((Sum.inr LU:(Tk⊕Dg)),p.J5)) y1
def Ja{p:Pr}{yR:(Tk⊕Dg)}{Ai:Int}(h:Hi  p=some (yR,Ai)):pR mx 118 [.ptr 0 0,.fn (.func 174) [] []] p (Jf eT eD yR) Ai:=by
 unfold Hi at h;refine BY Hd.mixed (Au Tryz.func118 dF ?_);revert h;refine As λy1 Cg=>?_;refine Tc (λCJ L1=>?_) λLU L1=>?_;subst L1;refine As λy2 DZ=>?_;let o1:List (PC P (G mx)):=[Af (Ay (Ao Cg) 0),AG (OT DZ)];refine Ag (λhv=>?_) λhv=>?_;subst hv;rintro⟨⟩;exact Aw Hd.Aa _ _ [⟨.agg (Gn CJ),.agg (Gn CJ),(.plain (BP.Cr CJ))⟩] [pW p (BF p.J5 1)] (Ac 300 (o1++[pk])) (by kernel_rfl) .body;subst hv;rintro⟨⟩;exact BN Hd.Aa _ [⟨.ifc 45 (.agg [.zi 71,.zi CJ.AW]),.ifc 45 (.agg [.zi 71,.zi CJ.AW]),(.plain (Cn.Cr (⟨71,CJ.AW⟩:Dg)))⟩] [bp (CM.pl p)] (Ac 300 (o1++[An (At (Am (p:=p) (err:=71) (at_:=CJ.AW) rfl) 0)])) (by kernel_rfl) .body;subst L1;rintro⟨⟩;exact BN Hd.Aa _ [gD LU] [bp (CM.pl p)] (Ac 300 [An (Ay (Ao Cg) 0)]) (by kernel_rfl) .body
def aJF:Code:=AY Tryz.f156
def aKX:Tryz.f156.body=some aJF:=by kernel_rfl
def DT(p:Pr)(least:Int):Option ((Int⊕Dg)×Int):=(Hi p).bind λ(Es,Bm)=>Sum.elim (λ(Az:Tk)=>(Fs Az.text).bind λ(JM,EL)=>cond (Dh EL 0) (cond (Ev JM least) (some ((Sum.inr (⟨21,Az.AW⟩:Dg):(Int⊕Dg)),Bm)) (some ((Sum.inl JM:(Int⊕Dg)),Bm))) (some ((Sum.inr (⟨21,Az.AW⟩:Dg):(Int⊕Dg)),Bm))) (λ(CV:Dg)=>some ((Sum.inr CV:(Int⊕Dg)),Bm)) Es
def CC{p:Pr}{least:Int}{yR:(Int⊕Dg)}{Ai:Int}(h:DT  p least=some (yR,Ai)):pR mx 156 [.ptr 0 0,.zi least] p (Jf eI eD yR) Ai:=by
 unfold DT at h;refine BY Hd.mixed (Au Tryz.func156 aKX ?_);revert h;refine BU (λAz Bm Cg=>?_) λCV Bm Cg=>?_;refine As ?_;rintro⟨JM,EL⟩ DZ;dsimp only;let o1:List (PC P (G mx)):=[Af (It (Ja Cg) 0),AG (S1 DZ)];refine Ag (λA2=>?_) λA2=>?_;refine Ag (λhb2=>?_) λhb2=>?_;refine Ew ?_;rintro rfl rfl;exact BN Hd.Aa _ [⟨.ifc 45 (.agg [.zi 21,.zi Az.AW]),.ifc 45 (.agg [.zi 21,.zi Az.AW]),(.plain (Cn.Cr (⟨21,Az.AW⟩:Dg)))⟩] [pW p Bm] (Ac 300 (o1++[pn A2,pb hb2,An (At (Am (p:=(⟨p.Bu,Bm,p.DJ⟩:Pr)) (err:=21) (at_:=Az.AW) rfl) 0)])) (by kernel_rfl) .body;refine Ew ?_;rintro rfl rfl;exact Aw Hd.Aa _ _ [] [pW p Bm] (Ac 300 (o1++[pn A2,pb hb2])) (by kernel_rfl) .body;refine Ew ?_;rintro rfl rfl;exact BN Hd.Aa _ [⟨.ifc 45 (.agg [.zi 21,.zi Az.AW]),.ifc 45 (.agg [.zi 21,.zi Az.AW]),(.plain (Cn.Cr (⟨21,Az.AW⟩:Dg)))⟩] [pW p Bm] (Ac 300 (o1++[pn A2,An (At (Am (p:=(⟨p.Bu,Bm,p.DJ⟩:Pr)) (err:=21) (at_:=Az.AW) rfl) 0)])) (by kernel_rfl) .body;refine Ew ?_;rintro rfl rfl;exact Io CV p Bm [An (It (Ja Cg) 0)] .body
def aIU:Code:=AY Tryz.f125
def aKI:Tryz.f125.body=some aIU:=by kernel_rfl
def Hw(p:Pr):Option ((Nd⊕Dg)×Int):=(Ak p vG).bind λ(Es,Bm)=>Sum.elim (λ(Az:Tk)=>(AK (⟨p.Bu,Bm,p.DJ⟩:Pr) 0).bind λ(JM,EL)=>Sum.elim (λ(C5:(Int×Int))=>(Ak (⟨p.Bu,EL,p.DJ⟩:Pr) tJ).bind λ(LV,E5)=>Sum.elim (λ(CK:Tk)=>(DT (⟨p.Bu,E5,p.DJ⟩:Pr) 0).bind λ(Wj,JK)=>Sum.elim (λ(Di:Int)=>(Aq (⟨p.Bu,JK,p.DJ⟩:Pr) toS).bind λy5=>cond y5 ((DT (⟨p.Bu,(BF JK 1),p.DJ⟩:Pr) (BF Di 1)).bind λ(nN,OL)=>Sum.elim (λ(Jq:Int)=>(Ak (⟨p.Bu,OL,p.DJ⟩:Pr) VP).bind λ(sF,RT)=>Sum.elim (λ(VB:Tk)=>(DT (⟨p.Bu,RT,p.DJ⟩:Pr) 0).bind λ(ZE,LO)=>Sum.elim (λ(Hc:Int)=>some ((Sum.inl (⟨5,ByteArray.empty,ByteArray.empty,C5.1,Di,Jq,Hc,(⟨0,[]⟩:Fn),[],Az.AW⟩:Nd):(Nd⊕Dg)),LO)) (λ(LN:Dg)=>some ((Sum.inr LN:(Nd⊕Dg)),LO)) ZE) (λ(PP:Dg)=>some ((Sum.inr PP:(Nd⊕Dg)),RT)) sF) (λ(Ni:Dg)=>some ((Sum.inr Ni:(Nd⊕Dg)),OL)) nN) ((Ak (⟨p.Bu,JK,p.DJ⟩:Pr) VP).bind λ(y9a,UD)=>Sum.elim (λ(Xa:Tk)=>(DT (⟨p.Bu,UD,p.DJ⟩:Pr) 0).bind λ(Te,IS)=>Sum.elim (λ(J4:Int)=>some ((Sum.inl (⟨5,ByteArray.empty,ByteArray.empty,C5.1,Di,36525,J4,(⟨0,[]⟩:Fn),[],Az.AW⟩:Nd):(Nd⊕Dg)),IS)) (λ(ZB:Dg)=>some ((Sum.inr ZB:(Nd⊕Dg)),IS)) Te) (λ(ZF:Dg)=>some ((Sum.inr ZF:(Nd⊕Dg)),UD)) y9a)) (λ(IL:Dg)=>some ((Sum.inr IL:(Nd⊕Dg)),JK)) Wj) (λ(Ez:Dg)=>some ((Sum.inr Ez:(Nd⊕Dg)),E5)) LV) (λ(Hl:Dg)=>some ((Sum.inr Hl:(Nd⊕Dg)),EL)) JM) (λ(CV:Dg)=>some ((Sum.inr CV:(Nd⊕Dg)),Bm)) Es
def K8{p:Pr}{yR:(Nd⊕Dg)}{Ai:Int}(h:Hw  p=some (yR,Ai)):pR mx 125 [.ptr 0 0] p (Jf eN eD yR) Ai:=by
 unfold Hw at h;refine BY Hd.mixed (Au Tryz.func125 aKI ?_);revert h;refine BU (λAz Bm Cg=>?_) λCV Bm Cg=>?_;let o1:List (PC P (G mx)):=[Af (It (Ab Cg) 0)];refine BU (λC5 EL DZ=>?_) λHl EL DZ=>?_;let o2:List (PC P (G mx)):=o1++[Af (No (Al DZ) 0)];refine BU (λCK E5 Fo=>?_) λEz E5 Fo=>?_;let o3:List (PC P (G mx)):=o2++[Af (It (Ab Fo) 0)];refine BU (λDi JK J9=>?_) λIL JK J9=>?_;refine As λy5 Ka=>?_;let o4:List (PC P (G mx)):=o3++[Af (bL (CC J9) 0),Af (Oz (Ah Ka) 0)];refine Ag (λhv=>?_) λhv=>?_;subst hv;refine BU (λJq OL L5=>?_) λNi OL L5=>?_;let o5:List (PC P (G mx)):=o4++[pk,pk,Af (bL (CC L5) 0)];refine BU (λVB RT SM=>?_) λPP RT SM=>?_;refine BU (λHc LO OK=>?_) λLN LO OK=>?_;refine Ew ?_;rintro rfl rfl;exact Aw Hd.Aa _ _ [⟨.agg [.zi 5,.zs ByteArray.empty,.zs ByteArray.empty,.zi C5.1,.zi Di,.zi Jq,.zi Hc,.zi 0,.sl .full 0 [],.sl .full 0 [],.zi Az.AW],.agg [.zi 5,.zs ByteArray.empty,.zs ByteArray.empty,.zi C5.1,.zi Di,.zi Jq,.zi Hc,.zi 0,.sl .lost ([].length) (rows IE []),.sl .lost ([].length) (Bi []),.zi Az.AW],(.wn (.g (.r (.r (.r (.r (.r (.r (.r (.r (.z (.z (.r .nil))))))))))) .nil) (AE.Cr (⟨5,ByteArray.empty,ByteArray.empty,C5.1,Di,Jq,Hc,(⟨0,[]⟩:Fn),[],Az.AW⟩:Nd)))⟩] [pW p LO] (Ac 300 (o5++[Af (It (Ab SM) 0),Af (bL (CC OK) 0)])) (by kernel_rfl) .body;refine Ew ?_;rintro rfl rfl;exact Io LN p LO (o5++[Af (It (Ab SM) 0),An (bL (CC OK) 0)]) .body;refine Ew ?_;rintro rfl rfl;exact Io PP p RT (o5++[An (It (Ab SM) 0)]) .body;refine Ew ?_;rintro rfl rfl;exact Io Ni p OL (o4++[pk,pk,An (bL (CC L5) 0)]) .body;subst hv;refine BU (λXa UD U6=>?_) λZF UD U6=>?_;refine BU (λJ4 IS OP=>?_) λZB IS OP=>?_;refine Ew ?_;rintro rfl rfl;exact Aw Hd.Aa _ _ [⟨.agg [.zi 5,.zs ByteArray.empty,.zs ByteArray.empty,.zi C5.1,.zi Di,.zi 36525,.zi J4,.zi 0,.sl .full 0 [],.sl .full 0 [],.zi Az.AW],.agg [.zi 5,.zs ByteArray.empty,.zs ByteArray.empty,.zi C5.1,.zi Di,.zi 36525,.zi J4,.zi 0,.sl .lost ([].length) (rows IE []),.sl .lost ([].length) (Bi []),.zi Az.AW],(.wn (.g (.r (.r (.r (.r (.r (.r (.r (.r (.z (.z (.r .nil))))))))))) .nil) (AE.Cr (⟨5,ByteArray.empty,ByteArray.empty,C5.1,Di,36525,J4,(⟨0,[]⟩:Fn),[],Az.AW⟩:Nd)))⟩] [pW p IS] (Ac 300 (o4++[Af (It (Ab U6) 0),Af (bL (CC OP) 0)])) (by kernel_rfl) .body;refine Ew ?_;rintro rfl rfl;exact Io ZB p IS (o4++[Af (It (Ab U6) 0),An (bL (CC OP) 0)]) .body;refine Ew ?_;rintro rfl rfl;exact Io ZF p UD (o4++[An (It (Ab U6) 0)]) .body;refine Ew ?_;rintro rfl rfl;exact Io IL p JK (o3++[An (bL (CC J9) 0)]) .body;refine Ew ?_;rintro rfl rfl;exact Io Ez p E5 (o2++[An (It (Ab Fo) 0)]) .body;refine Ew ?_;rintro rfl rfl;exact Io Hl p EL (o1++[An (No (Al DZ) 0)]) .body;refine Ew ?_;rintro rfl rfl;exact Io CV p Bm [An (It (Ab Cg) 0)] .body
def aJH:Code:=AY Tryz.f160
def aKZ:Tryz.f160.body=some aJH:=by kernel_rfl
def EQ(token:Tk):Option Bool:=cond (Dh token.kind 4) (some true) (some false)
def OS{token:Tk}{yR:Bool}(h:EQ  token=some yR):Pure P (G mx) 160 [.agg (Gn token)] (.zb yR):=by
 unfold EQ at h;refine CN Hd.mixed Hd.Aa (Au Tryz.func160 aKZ ?_) (A3 (BP.Cr token) rfl) rfl;revert h;refine Ag (λA2=>?_) λA2=>?_;rintro⟨⟩;exact rT [pb A2];rintro⟨⟩;exact rT [pb A2]
def aJI:Code:=AY Tryz.f161
def aLA:Tryz.f161.body=some aJI:=by kernel_rfl
def Cu(token:Tk):Option Int:=(K0 token.text aBO ByteArray.empty 1).bind λy1=>(R4 y1).bind λ(JM,EL)=>some JM
def O8{token:Tk}{yR:Int}(h:Cu  token=some yR):Pure P (G mx) 161 [.agg (Gn token)] (.zi yR):=by
 unfold Cu at h;refine CN Hd.mixed Hd.Aa (Au Tryz.func161 aLA ?_) (A3 (BP.Cr token) rfl) rfl;revert h;refine As λy1 Cg=>?_;refine As ?_;rintro⟨JM,EL⟩ DZ;dsimp only;rintro⟨⟩;exact rT [AG (fP Cg),AG (sR DZ)]
def aJU:Code:=AY Tryz.f228
def aLP:Tryz.f228.body=some aJU:=by kernel_rfl
def Df(token:Tk):Option Bool:=cond (Dh token.kind 4) (some true) (cond (Dh token.kind 3) (some true) (some false))
def Ox{token:Tk}{yR:Bool}(h:Df  token=some yR):Pure P (G mx) 228 [.agg (Gn token)] (.zb yR):=by
 unfold Df at h;refine CN Hd.mixed Hd.Aa (Au Tryz.func228 aLP ?_) (A3 (BP.Cr token) rfl) rfl;revert h;refine Ag (λA2=>?_) λA2=>?_;rintro⟨⟩;exact rT [pb A2];refine Ag (λhb2=>?_) λhb2=>?_;rintro⟨⟩;exact rT [pb A2,pb hb2];rintro⟨⟩;exact rT [pb A2,pb hb2]
def GW(p:Pr):Option ((Tk⊕Dg)×Int):=(AD p).bind λy1=>Sum.elim (λ(CJ:Tk)=>(Df CJ).bind λy2=>cond y2 (some ((Sum.inl CJ:(Tk⊕Dg)),(BF p.J5 1))) (some ((Sum.inr (⟨71,CJ.AW⟩:Dg):(Tk⊕Dg)),p.J5))) (λ(LU:Dg)=>some ((Sum.inr LU:(Tk⊕Dg)),p.J5)) y1
def IW{p:Pr}{yR:(Tk⊕Dg)}{Ai:Int}(h:GW  p=some (yR,Ai)):pR mx 118 [.ptr 0 0,.fn (.func 228) [] []] p (Jf eT eD yR) Ai:=by
 unfold GW at h;refine BY Hd.mixed (Au Tryz.func118 dF ?_);revert h;refine As λy1 Cg=>?_;refine Tc (λCJ L1=>?_) λLU L1=>?_;subst L1;refine As λy2 DZ=>?_;let o1:List (PC P (G mx)):=[Af (Ay (Ao Cg) 0),AG (Ox DZ)];refine Ag (λhv=>?_) λhv=>?_;subst hv;rintro⟨⟩;exact Aw Hd.Aa _ _ [⟨.agg (Gn CJ),.agg (Gn CJ),(.plain (BP.Cr CJ))⟩] [pW p (BF p.J5 1)] (Ac 300 (o1++[pk])) (by kernel_rfl) .body;subst hv;rintro⟨⟩;exact BN Hd.Aa _ [⟨.ifc 45 (.agg [.zi 71,.zi CJ.AW]),.ifc 45 (.agg [.zi 71,.zi CJ.AW]),(.plain (Cn.Cr (⟨71,CJ.AW⟩:Dg)))⟩] [bp (CM.pl p)] (Ac 300 (o1++[An (At (Am (p:=p) (err:=71) (at_:=CJ.AW) rfl) 0)])) (by kernel_rfl) .body;subst L1;rintro⟨⟩;exact BN Hd.Aa _ [gD LU] [bp (CM.pl p)] (Ac 300 [An (Ay (Ao Cg) 0)]) (by kernel_rfl) .body
def aJR:Code:=AY Tryz.f214
def aLL:Tryz.f214.body=some aJR:=by kernel_rfl
def BT(p:Pr):Option (((Int×Int)⊕Dg)×Int):=(GW p).bind λ(Es,Bm)=>Sum.elim (λ(Az:Tk)=>(Cu Az).bind λy2=>cond (Dh Az.kind 3) (cond (Dh y2 0) (some ((Sum.inl (y2,Az.AW):((Int×Int)⊕Dg)),Bm)) (some ((Sum.inr (⟨3,Az.AW⟩:Dg):((Int×Int)⊕Dg)),Bm))) (some ((Sum.inl (y2,Az.AW):((Int×Int)⊕Dg)),Bm))) (λ(CV:Dg)=>some ((Sum.inr CV:((Int×Int)⊕Dg)),Bm)) Es
def Bp{p:Pr}{yR:((Int×Int)⊕Dg)}{Ai:Int}(h:BT  p=some (yR,Ai)):pR mx 214 [.ptr 0 0] p (Jf eJ eD yR) Ai:=by
 unfold BT at h;refine BY Hd.mixed (Au Tryz.func214 aLL ?_);revert h;refine BU (λAz Bm Cg=>?_) λCV Bm Cg=>?_;refine As λy2 DZ=>?_;let o1:List (PC P (G mx)):=[Af (It (IW Cg) 0),AG (O8 DZ)];refine Ag (λA2=>?_) λA2=>?_;refine Ag (λhb2=>?_) λhb2=>?_;refine Ew ?_;rintro rfl rfl;exact Aw Hd.Aa _ _ [⟨.C4 [.zi y2,.zi Az.AW],.C4 [.zi y2,.zi Az.AW],(.plain (A3 rfl (A3 rfl rfl)))⟩] [pW p Bm] (Ac 300 (o1++[pb A2,pn hb2])) (by kernel_rfl) .body;refine Ew ?_;rintro rfl rfl;exact BN Hd.Aa _ [⟨.ifc 45 (.agg [.zi 3,.zi Az.AW]),.ifc 45 (.agg [.zi 3,.zi Az.AW]),(.plain (Cn.Cr (⟨3,Az.AW⟩:Dg)))⟩] [pW p Bm] (Ac 300 (o1++[pb A2,pn hb2,An (At (Am (p:=(⟨p.Bu,Bm,p.DJ⟩:Pr)) (err:=3) (at_:=Az.AW) rfl) 0)])) (by kernel_rfl) .body;refine Ew ?_;rintro rfl rfl;exact Aw Hd.Aa _ _ [⟨.C4 [.zi y2,.zi Az.AW],.C4 [.zi y2,.zi Az.AW],(.plain (A3 rfl (A3 rfl rfl)))⟩] [pW p Bm] (Ac 300 (o1++[pb A2])) (by kernel_rfl) .body;refine Ew ?_;rintro rfl rfl;exact Io CV p Bm [An (It (IW Cg) 0)] .body
def aJV:Code:=AY Tryz.f229
def aLQ:Tryz.f229.body=some aJV:=by kernel_rfl
def EV(token:Tk):Option Bool:=cond (B1 token.text.data.toList Oy.data.toList) (some true) (cond (B1 token.text.data.toList Li.data.toList) (some true) (some false))
def OU{token:Tk}{yR:Bool}(h:EV  token=some yR):Pure P (G mx) 229 [.agg (Gn token)] (.zb yR):=by
 unfold EV at h;refine CN Hd.mixed Hd.Aa (Au Tryz.func229 aLQ ?_) (A3 (BP.Cr token) rfl) rfl;revert h;refine Ag (λA2=>?_) λA2=>?_;rintro⟨⟩;exact rT [pb A2];refine Ag (λhb2=>?_) λhb2=>?_;rintro⟨⟩;exact rT [pb A2,pb hb2];rintro⟨⟩;exact rT [pb A2,pb hb2]
end Mo
end Go.Proofs.YtpbkhogolfegfaaGreatDoor
