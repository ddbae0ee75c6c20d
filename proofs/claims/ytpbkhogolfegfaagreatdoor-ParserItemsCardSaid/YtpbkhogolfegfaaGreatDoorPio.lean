/- Part of a proof: see the last text. -/
import Derived.Test.YtpbkhogolfegfaaGreatDoorPin
import Derived.Test.YtpbkhogolfegfaaGreatDoorCards
import Derived.Test.YtpbkhogolfegfaaGreatDoorTie
import Derived.Lib.LaidTab
import Derived.Lib.LaidIn
import Derived.Shelf.Vars
set_option linter.unusedVariables false
set_option linter.unusedSimpArgs false
set_option linter.defProp false
noncomputable section
namespace Go.Proofs.YtpbkhogolfegfaaGreatDoor
open AI Go Go.RowKit LexS
def chunks{α:Type}{V:α->List Value}{k:Nat}:∀{l:List α} {cs:List Value},cs.length=l.length*k->(∀y,(V y).length=k)->(∀(i:Nat) y,l[i]?=some y->(cs.drop (i*k)).take k=V y)->cs=l.flatMap V
 | [],cs,h,_,_=>by
   simp only[List.length_nil,Nat.zero_mul] at h;rw[List.eq_nil_of_length_eq_zero h];rfl
 | a::l,cs,h,hV,hc=>by
   have h0:=hc 0 a rfl;rw[Nat.zero_mul,List.drop_zero] at h0
   have ih:=chunks (V:=V) (k:=k) (l:=l) (cs:=cs.drop k) (by rw[List.length_drop,h,List.length_cons,Nat.succ_mul];omega) hV λi y hy=>by
     rw[List.drop_drop];have:=hc (i+1) y (by simpa using hy)
     rwa[Nat.succ_mul,Nat.add_comm] at this
   rw[List.flatMap_cons,<- h0,<- ih,List.take_append_drop]
def NN{α H:Type}{enc:TypeId×Value->H}{P:Program}{w:World}{base:Nat}{sp:Nat->Bool}{held:Bool}{fuel:Nat}{t e:TypeId}{n k:Nat}{cs:List Value}{l:List α}{p:List MemPlace}(D:α->DataW H)(V:α->List Value)(hV:∀y,(V y).length=k)
   (N2:∀f c y q,DataW.trod enc P w base sp held f e c=some (D y,q)->c=V y)
   (ht:P.underlying t=some (.array n e)) (hce:P.cellsOf e=k) (hct:P.cellsOf t=n*k) (h:DataW.trod enc P w base sp held fuel t cs=some (.agg (l.map D),p)):cs=l.flatMap V:=by
 obtain⟨xs,m,_,hx,hl,hxl,TL⟩:=DataW.trod_array ht h
 have hd:l.map D=xs.map (·.1):=by
   have:=congrArg Prod.fst hx;simpa using this
 have wN:l.length=n:=by
   have:=congrArg List.length hd;simp at this;omega
 rw[hct] at hl;rw[hce] at TL;refine chunks (by rw[hl,wN]) hV λi y hy=>?_;have hi:i < n:=by have:=(List.getElem?_eq_some_iff.1 hy).1;omega
 have h2:=TL i hi;have hxi:xs[i]?=some xs[i]:=List.getElem?_eq_getElem (by omega);rw[hxi] at h2;have h3:(l.map D)[i]?=(xs.map (·.1))[i]?:=by rw[hd]
 rw[List.getElem?_map,List.getElem?_map,hy,hxi] at h3;simp only[Option.map_some,Option.some.injEq] at h3;refine N2 m _ y xs[i].2 ?_;rw[h2,h3]
def Y1{H:Type}{enc:TypeId×Value->H}{w:World}{base:Nat}{sp:Nat->Bool}{held:Bool}(f:Nat)(c:List Value)(y:List UInt8)(q:List MemPlace)(hh:DataW.trod enc Tryz.prog w base sp held f 9 c=some (.lit (.string y),q)):c=[.string ⟨y.toArray⟩]:=by
 obtain⟨z,hc,hz,_⟩:=DataW.trod_string Tryz.underlying9 hh;simp only[Prod.mk.injEq,DataW.lit.injEq,Lit.string.injEq] at hz;rw[hc,hz.1]
def Qw{W:World}{n:String}{g:Nat}{cs:Array Value}(hg:Tryz.prog.globalNamed n=some g)(h:W.var? Tryz.prog n=some cs):∃t fr,W.heap[g]?=some (.cells cs t fr):=by
 unfold World.var? at h;rw[hg] at h;simp only[Option.bind_some] at h;split at h;rename_i c t fr hh;injection h with h
 subst h;exact⟨t,fr,hh⟩;cases h
def gB:Tryz.prog.globalNamed "wageoffice/calendar.before"=some 12:=by kernel_rfl
def gC:Tryz.prog.globalNamed "wageoffice/lexer.classes"=some 3:=by kernel_rfl
def gS:Tryz.prog.globalNamed "wageoffice/lexer.symbols"=some 0:=by kernel_rfl
def gO:Tryz.prog.globalNamed "wageoffice/parser.operators"=some 2:=by kernel_rfl
def gR:Tryz.prog.globalNamed "wageoffice/parser.roles"=some 1:=by kernel_rfl
def gP:Tryz.prog.globalNamed "internal/strconv.uint64pow10"=some 4:=by kernel_rfl
def gPT:(Tryz.prog.globals[(4:Nat)]?).map (·.type)=some 167:=by kernel_rfl
def zW:Tryz.prog.cellsOf 146=1:=by kernel_rfl
def zP:Tryz.prog.cellsOf 167=20*1:=by kernel_rfl
def gBT:(Tryz.prog.globals[(12:Nat)]?).map (·.type)=some 203:=by kernel_rfl
def gCT:(Tryz.prog.globals[(3:Nat)]?).map (·.type)=some 151:=by kernel_rfl
def gST:(Tryz.prog.globals[(0:Nat)]?).map (·.type)=some 134:=by kernel_rfl
def gOT:(Tryz.prog.globals[(2:Nat)]?).map (·.type)=some 143:=by kernel_rfl
def gRT:(Tryz.prog.globals[(1:Nat)]?).map (·.type)=some 135:=by kernel_rfl
def zI:Tryz.prog.cellsOf 3=1:=by kernel_rfl
def zU:Tryz.prog.cellsOf 5=1:=by kernel_rfl
def zS:Tryz.prog.cellsOf 9=1:=by kernel_rfl
def zB:Tryz.prog.cellsOf 203=13*1:=by kernel_rfl
def zC:Tryz.prog.cellsOf 151=128*1:=by kernel_rfl
def zY:Tryz.prog.cellsOf 134=17*1:=by kernel_rfl
def z6:Tryz.prog.cellsOf 142=6*1:=by kernel_rfl
def zO:Tryz.prog.cellsOf 143=6*6:=by kernel_rfl
def zR:Tryz.prog.cellsOf 135=5*1:=by kernel_rfl
def aBB:List Int:=[0,31,59,90,120,151,181,212,243,273,304,334,365]
def aEG:List (List UInt8):=[[],[101,97,114,110],[100,101,100,117,99,116],[102,108,111,111,114],[105,110,102,111]]
def opsL:List (List (List UInt8)):=[[[111,114],[],[],[],[],[]],[[97,110,100],[],[],[],[],[]],[[],[],[],[],[],[]],[[61,61],[33,61],[60],[60,61],[62],[62,61]],[[43],[45],[],[],[],[]],[[42],[47],[97,116],[],[],[]]]
abbrev eM(y:List UInt8):DataW Unit:=.lit (.string y)
def aJE:(Rows.laid_wageoffice_calendar_before:DataW Unit)=.agg (aBB.map λz=>.lit (.int .i64 z)):=by rfl
def aJH:(Rows.laid_internal_strconv_uint64pow10:DataW Unit)=.agg (Lib.pow10Tab.map λz=>.lit (.int .u64 z)):=by kernel_rfl
def aJF:(Rows.laid_wageoffice_lexer_classes:DataW Unit)=.agg ((List.range 128).map λi=>.lit (.int .u8 (LY i:Nat))):=by rfl
def aJJ:(Rows.laid_wageoffice_lexer_symbols:DataW Unit)=.agg (Gc.map eM):=by rfl
def aJG:(Rows.laid_wageoffice_parser_operators:DataW Unit)=.agg (opsL.map λl=>.agg (l.map eM)):=by rfl
def aJI:(Rows.laid_wageoffice_parser_roles:DataW Unit)=.agg (aEG.map eM):=by rfl
def aMJ:((begin Tryz.prog (λ_ _=>0) default).world.heap[(5:Nat)]?).bind Obj.row?=some (#[.int .i64 0],3):=by kernel_rfl
def ayG{W:World}(h:W.ShapedOpen Tryz.prog):∃m,W.cell? ⟨5,0,none⟩=some (.int .i64 m):=by
 obtain⟨m,hm⟩:=cell_of_shapedOpen_int h (g:=5) (by decide +kernel) aMJ rfl (by kernel_rfl) (by kernel_rfl) Tryz.underlying3;exact⟨m,hm⟩
def Xw(c:Cx)(w:World):∀l:List (List UInt8),CU c w (l.map GH) (l.flatMap λy=>[.string ⟨y.toArray⟩])
 | []=>.nil
 | _::l=>.cons (.sc rfl) (Xw c w l)
def tT(c:Cx)(w:World):∀l:List Int,CU c w (l.map Hd.int) (l.flatMap λy=>[.int .i64 y])
 | []=>.nil
 | _::l=>.cons (.sc rfl) (tT c w l)
def agG(c:Cx)(w:World):∀l:List Int,CU c w (l.map Hd.aqM) (l.flatMap λy=>[.int .u64 y])
 | []=>.nil
 | _::l=>.cons (.sc rfl) (agG c w l)
def agA(c:Cx)(w:World):∀l:List Nat,CU c w (l.map λi=>.sc (.int .u8 (LY i:Nat))) (l.flatMap λi=>[.int .u8 (LY i:Nat)])
 | []=>.nil
 | _::l=>.cons (.sc rfl) (agA c w l)
def kW(c:Cx)(w:World):∀l:List (List (List UInt8)),CU c w (l.flatMap λy=>y.map GH) (l.flatMap λy=>y.flatMap λz=>[.string ⟨z.toArray⟩])
 | []=>.nil
 | a::l=>(Xw c w a).append (kW c w l)
def VF{W:World}{g:Nat}{l:List AV}{cs:Array Value}(h:∃t fr,W.heap[g]?=some (.cells cs t fr))(hr:CU (Mo.X8 W) W l cs.toList):Bk (Mo.X8 W) W g 0 l:=by
 obtain⟨t,fr,h⟩:=h;refine Bk.QX hr λi v hi=>Mo.aAL ?_;rw[Nat.zero_add,cell_of_row W g i cs t fr h];rwa[Array.getElem?_toList] at hi
def qJ{W:World}(h:laidMetH Tryz.prog Rows.parserTreesRow.laid W)(Kj:W.ShapedOpen Tryz.prog):∃mx,St (Hd.G mx) (Mo.X8 W) W s0:=by
 have h:laidMet Tryz.prog [("math/bits.deBruijn32tab",Rows.laid_math_bits_deBruijn32tab),("math/bits.deBruijn64tab",Rows.laid_math_bits_deBruijn64tab),("internal/strconv.uint64pow10",Rows.laid_internal_strconv_uint64pow10),("unicode/utf8.acceptRanges",Rows.laid_unicode_utf8_acceptRanges),("strconv.ErrRange",Rows.laid_strconv_ErrRange),("strconv.ErrSyntax",Rows.laid_strconv_ErrSyntax),("wageoffice/calendar.before",Rows.laid_wageoffice_calendar_before),("wageoffice/lexer.classes",Rows.laid_wageoffice_lexer_classes),("wageoffice/lexer.symbols",Rows.laid_wageoffice_lexer_symbols),("wageoffice/parser.operators",Rows.laid_wageoffice_parser_operators),("wageoffice/parser.roles",Rows.laid_wageoffice_parser_roles),("unicode/utf8.first",Rows.laid_unicode_utf8_first)] W:=h
 obtain⟨ps,⟨_,_,_,_,_,_,_,_,_,_,⟨_,_,_,_,_,_,_,_,_,_,⟨g3,t3,cs3,f3,p3,q3,hg3,ht3,hv3,hd3,⟨_,_,_,_,_,_,_,_,_,_,⟨_,_,_,_,_,_,_,_,_,_,⟨_,_,_,_,_,_,_,_,_,_,⟨g7,t7,cs7,f7,p7,q7,hg7,ht7,hv7,hd7,⟨g8,t8,cs8,f8,p8,q8,hg8,ht8,hv8,hd8,⟨g9,t9,cs9,f9,p9,q9,hg9,ht9,hv9,hd9,⟨g10,t10,aBI,f10,p10,q10,aKI,aLA,aLC,hd10,⟨g11,t11,aNP,f11,p11,q11,aKJ,aLB,aLD,aCF,_⟩,_⟩,_⟩,_⟩,_⟩,_⟩,_⟩,_⟩,_⟩,_⟩,_⟩,_⟩:=h;obtain rfl:=Option.some.inj (gP.symm.trans hg3);obtain rfl:=Option.some.inj (gPT.symm.trans ht3);rw[aJH] at hd3;obtain rfl:=Option.some.inj (gB.symm.trans hg7);obtain rfl:=Option.some.inj (gC.symm.trans hg8);obtain rfl:=Option.some.inj (gS.symm.trans hg9);obtain rfl:=Option.some.inj (gO.symm.trans aKI);obtain rfl:=Option.some.inj (gR.symm.trans aKJ);obtain rfl:=Option.some.inj (gBT.symm.trans ht7);obtain rfl:=Option.some.inj (gCT.symm.trans ht8);obtain rfl:=Option.some.inj (gST.symm.trans ht9);obtain rfl:=Option.some.inj (gOT.symm.trans aLA);obtain rfl:=Option.some.inj (gRT.symm.trans aLB);rw[aJE] at hd7;rw[aJF] at hd8;rw[aJJ] at hd9;rw[aJG] at hd10;rw[aJI] at aCF
 have e3:=NN (k:=1) (λz:Int=>(DataW.lit (.int .u64 z):DataW Unit)) (λz=>[.int .u64 z]) (λ_=>rfl)
   (λf c y q hh=>by obtain⟨z,hc,hz,_⟩:=DataW.trod_int Tryz.underlying146 hh;simp only[Prod.mk.injEq,DataW.lit.injEq,Lit.int.injEq,true_and] at hz;rw[hc,hz.1]) Tryz.underlying167 zW zP hd3
 have e7:=NN (k:=1) (λz:Int=>(DataW.lit (.int .i64 z):DataW Unit)) (λz=>[.int .i64 z]) (λ_=>rfl)
   (λf c y q hh=>by obtain⟨z,hc,hz,_⟩:=DataW.trod_int Tryz.underlying3 hh;simp only[Prod.mk.injEq,DataW.lit.injEq,Lit.int.injEq,true_and] at hz;rw[hc,hz.1]) Tryz.underlying203 zI zB hd7
 have e8:=NN (k:=1) (λi:Nat=>(DataW.lit (.int .u8 (LY i:Nat)):DataW Unit)) (λi=>[.int .u8 (LY i:Nat)]) (λ_=>rfl)
   (λf c y q hh=>by obtain⟨z,hc,hz,_⟩:=DataW.trod_int Tryz.underlying5 hh;simp only[Prod.mk.injEq,DataW.lit.injEq,Lit.int.injEq,true_and] at hz;rw[hc,hz.1]) Tryz.underlying151 zU zC hd8
 have e9:=NN (k:=1) eM (λy=>[.string ⟨y.toArray⟩]) (λ_=>rfl) Y1 Tryz.underlying134 zS zY hd9;have e11:=NN (k:=1) eM (λy=>[.string ⟨y.toArray⟩]) (λ_=>rfl) Y1 Tryz.underlying135 zS zR aCF
 have e10:aBI.toList=opsL.flatMap λy=>y.flatMap λz=>[.string ⟨z.toArray⟩]:=by
   obtain⟨xs,m,_,hx,hl,hxl,TL⟩:=DataW.trod_array Tryz.underlying143 hd10
   have hd:(opsL.map λl=>(DataW.agg (l.map eM):DataW Unit))=xs.map (·.1):=by
     have:=congrArg Prod.fst hx;simpa using this
   rw[zO] at hl;rw[z6] at TL;have aLZ:∀y∈opsL,(y.flatMap λz=>[(Value.string ⟨z.toArray⟩:Value)]).length=6:=by decide
   have dS:∀(i:Nat) y,opsL[i]?=some y->(aBI.toList.drop (i*6)).take 6=y.flatMap λz=>[.string ⟨z.toArray⟩]:=by
     intro i y hy;have hi:i < 6:=(List.getElem?_eq_some_iff.1 hy).1;have h2:=TL i hi;have hxi:xs[i]?=some xs[i]:=List.getElem?_eq_getElem (by omega);rw[hxi] at h2;have h3:(opsL.map λl=>(DataW.agg (l.map eM):DataW Unit))[i]?=(xs.map (·.1))[i]?:=by rw[hd]
     rw[List.getElem?_map,List.getElem?_map,hy,hxi] at h3;simp only[Option.map_some,Option.some.injEq] at h3;have h4:xs[i]=(.agg (y.map eM),xs[i].2):=Prod.ext h3.symm rfl;rw[h4] at h2;exact NN (k:=1) eM (λy=>[.string ⟨y.toArray⟩]) (λ_=>rfl) Y1 Tryz.underlying142 zS z6 h2
   have l6:∀{l:List (List (List UInt8))} {cs:List Value},(∀y∈l,(y.flatMap λz=>[(Value.string ⟨z.toArray⟩:Value)]).length=6)->cs.length=l.length*6->(∀(i:Nat) y,l[i]?=some y->(cs.drop (i*6)).take 6=y.flatMap λz=>[.string ⟨z.toArray⟩])->cs=l.flatMap λy=>y.flatMap λz=>[.string ⟨z.toArray⟩]:=by
     intro l
     induction l with
     | nil=>intro cs _ h _;exact List.eq_nil_of_length_eq_zero (by simpa using h)
     | cons a l ih =>
       intro cs hq h hc;have h0:=hc 0 a rfl;rw[Nat.zero_mul,List.drop_zero] at h0
       have:=ih (cs:=cs.drop 6) (λy hy=>hq y (by simp[hy])) (by rw[List.length_drop,h,List.length_cons,Nat.succ_mul];omega) λi y hy=>by
         rw[List.drop_drop];have:=hc (i+1) y (by simpa using hy)
         rwa[Nat.succ_mul,Nat.add_comm] at this
       rw[List.flatMap_cons,<- h0,<- this,List.take_append_drop]
   exact l6 aLZ (by rw[hl];rfl) dS
 obtain⟨mx,hm⟩:=ayG Kj;have Gr:=Mo.stW W;refine⟨mx,Gr.len,Gr.desc,Gr.nodup,Gr.low,Gr.box,Gr.JY,Gr.row,Gr.Ko,Gr.ON,Gr.OH,Gr.JU,λg cs h=>?_,Gr.R2⟩;unfold Hd.G at h;split at h;rename_i hg;cases h;rw[beq_true hg];exact VF (Qw gO aLC) (by rw[e10];exact kW _ _ opsL);split at h;rename_i hg;cases h;rw[beq_true hg];exact VF (Qw gR aLD) (by rw[e11];exact Xw _ _ aEG);split at h;rename_i hg;cases h;rw[beq_true hg];exact VF (Qw gB hv7) (by rw[e7];exact tT _ _ aBB);split at h;rename_i hg;cases h;rw[beq_true hg];exact VF (Qw gC hv8) (by rw[e8];exact agA _ _ _);split at h;rename_i hg;cases h;rw[beq_true hg];exact VF (Qw gS hv9) (by rw[e9];exact Xw _ _ _);split at h;rename_i hg;cases h;rw[beq_true hg];exact .cons (Mo.aAL hm) (.sc rfl) .nil;split at h;rename_i hg;cases h;rw[beq_true hg];exact VF (Qw gP hv3) (by rw[e3];exact agG _ _ _);cases h
def oZ{mx:Int}{f:FuncId}{args:List AV}{vs:List Value}{W:World}(Gr:St (Hd.G mx) (Mo.X8 W) W s0)(h:Pure Tryz.prog (Hd.G mx) f args (.sc (.bool true)))(ha:CU (Mo.X8 W) W args vs):Calls Tryz.prog f vs.toArray W λe W'=>e=.returned (.bool true)/\Below W.heap.size W W':=by
 refine(h s0 (Mo.X8 W) W vs Gr ha).mono ?_;rintro e w' ⟨c',hx,_,u,rfl,hu⟩;cases hu;exact⟨rfl,hx.below⟩
def ayB:DataW Unit->List Value
 | .lit l=>[l.value]
 | _=>[]
def aBQ:DataW Unit->List Value
 | .agg l=>l.flatMap ayB
 | d=>ayB d
def Tm:DataW Unit->Array Value
 | .agg l=>(l.flatMap aBQ).toArray
 | d=>(ayB d).toArray
def putCells(cs:Array Value):Obj->Obj
 | .cells _ t frozen=>.cells cs t frozen
 | o=>o
def low:Nat:=(World.holding Tryz.prog default ⟨#[],#[],[]⟩).heap.size
abbrev aET:ByteArray:={ data:=#[118,97,108,117,101,32,111,117,116,32,111,102,32,114,97,110,103,101] }
abbrev aEU:ByteArray:={ data:=#[105,110,118,97,108,105,100,32,115,121,110,116,97,120] }
def VO(os:Os):World :=
 let w0:=World.holding Tryz.prog os ⟨#[.cells #[.string aET] 210,.cells #[.string aEU] 210],#[],[]⟩
 { w0 with heap:=((((((((((((w0.heap.modify 8 (putCells (Tm Rows.laid_math_bits_deBruijn32tab))).modify
     9 (putCells (Tm Rows.laid_math_bits_deBruijn64tab))).modify
     4 (putCells (Tm Rows.laid_internal_strconv_uint64pow10))).modify
     7 (putCells (Tm Rows.laid_unicode_utf8_acceptRanges))).modify
     11 (putCells #[.iface 208 (.pointer (some ⟨low,0,none⟩))])).modify
     10 (putCells #[.iface 208 (.pointer (some ⟨low+1,0,none⟩))])).modify
     12 (putCells (Tm Rows.laid_wageoffice_calendar_before))).modify
     3 (putCells (Tm Rows.laid_wageoffice_lexer_classes))).modify
     0 (putCells (Tm Rows.laid_wageoffice_lexer_symbols))).modify
     2 (putCells (Tm Rows.laid_wageoffice_parser_operators))).modify
     1 (putCells (Tm Rows.laid_wageoffice_parser_roles))).modify
     6 (putCells (Tm Rows.laid_unicode_utf8_first))) }
def aeG(os:Os)(args:Array Value):laidMet Tryz.prog Rows.parserTreesRow.laid ((VO os).forCall (λ_ _=>0) ⟨#[],args,[]⟩).memory :=
 laidMet_of_run3 8 (by kernel_rfl) (by kernel_rfl) (by kernel_rfl)
end Go.Proofs.YtpbkhogolfegfaaGreatDoor
namespace Go.Proofs.YtpbkhogolfegfaaGreatDoor
open AI Go
namespace Mo
set_option maxRecDepth 100000
set_option maxHeartbeats 4000000
variable {mx:Int}
end Mo
end Go.Proofs.YtpbkhogolfegfaaGreatDoor
namespace Go.Proofs.YtpbkhogolfegfaaGreatDoor
open AI Go
namespace Mo
set_option maxRecDepth 100000
set_option maxHeartbeats 4000000
variable {mx:Int}
def zN(n:Nd):Nd:=⟨n.kind,n.name,n.unit,n.n,n.fr,n.to,n.known,n.Cz,n.kids,0⟩
section
variable {b:Nat} {B:Nat->Nat->Prop} {w0:World} {g cap:Nat} {ps:List (Nat×Nat)} {s:AS} {Q:QE} {j:List Value}
variable {id off nx:Nat} {L:List Nd}
end
abbrev Bx:=List (Nd×Option Nat)
def a1:Bl:=.cells [.sc (.int .i64 0),.sc (.string ByteArray.empty),.sc (.string ByteArray.empty),.sc (.int .i64 0),.sc (.int .i64 0),.sc (.int .i64 0),.sc (.int .i64 0),.sc (.int .i64 0),.sl .full 0 [],.sl .full 0 [],.sc (.int .i64 0)]
mutual
def cN:Nd->Nat
 | ⟨_,_,_,_,_,_,_,_,kids,_⟩=>1+cL kids
def cL:List Nd->Nat
 | []=>0
 | k::ks=>cN k+cL ks
end
mutual
def ZY:Nd->Prop
 | ⟨_,_,_,_,_,_,_,Cz,kids,_⟩=>Cz.ps.length*24<=140737488355328/\psL kids
def psL:List Nd->Prop
 | []=>True
 | k::ks=>ZY k/\psL ks
end
def tJ:∀l:List Nd,psL l↔∀k∈l,ZY k
 | []=>by simp[psL]
 | a::l=>by rw[psL,tJ l];simp
def SR(n:Nd):ZY n↔n.Cz.ps.length*24<=140737488355328/\∀k∈n.kids,ZY k:=by cases n;rw[ZY,tJ]
mutual
def KO:Nd->Nd
 | ⟨kind,name,unit,n,fr,to,known,Cz,kids,_⟩=>⟨kind,name,unit,n,fr,to,known,Cz,stL kids,0⟩
def stL:List Nd->List Nd
 | []=>[]
 | k::ks=>KO k::stL ks
end
def tZ:∀l:List Nd,stL l=l.map KO
 | []=>by rw[stL];rfl
 | k::l=>by rw[stL,tZ l];rfl
def Mf(n:Nd):KO n=⟨n.kind,n.name,n.unit,n.n,n.fr,n.to,n.known,n.Cz,n.kids.map KO,0⟩:=by cases n;rw[KO,tZ]
structure Inv(n0:Nd)(rk:Option Nat)(M:List Bx)(qs:List ((Nat×Nat)×List Nd)):Prop where
 aMG:∀q∈qs,(q.1=(2,0)/\rk=none/\q.2=[n0])\/∃(i a:Nat) (l:Bx) (m:Nd),q.1=(3+i,0+a*11+9)/\M[i]?=some l/\l[a]?=some (m,none)/\q.2=m.kids/\m.kids≠[]
 aNQ:(qs.map (·.1)).Nodup
 all:(rk=none->(2,0)∈qs.map (·.1))/\∀(i a:Nat) (l:Bx) (m:Nd),M[i]?=some l->l[a]?=some (m,none)->m.kids≠[]->(3+i,0+a*11+9)∈qs.map (·.1)
 done:∀(i a:Nat) (l:Bx) (m:Nd) (c:Nat),M[i]?=some l->l[a]?=some (m,some c)->∃(i2:Nat) (l2:Bx),c=3+i2/\i < i2/\M[i2]?=some l2/\l2.map (·.1)=m.kids.map zN
 root:∀c,rk=some c->∃(i2:Nat) (l2:Bx),c=3+i2/\M[i2]?=some l2/\l2.map (·.1)=[zN n0]
 small:∀q∈qs,∀x∈q.2,ZY x
 zero:∀(i a:Nat) (l:Bx) (m:Nd) (c:Option Nat),M[i]?=some l->l[a]?=some (m,c)->m.AH=0
section
variable {n0:Nd} {rk:Option Nat} {M:List Bx} {qs:List ((Nat×Nat)×List Nd)} {q:(Nat×Nat)×List Nd}
def Inv.low(h:Inv n0 rk M qs):∀q∈qs,q.1.1 < 3+M.length:=λq hq=>by
 rcases h.aMG q hq with ⟨e,_⟩ | ⟨i,a,l,m,e,hi,_⟩
 rw[e];show 2 < _;omega;rw[e];have:=(List.getElem?_eq_some_iff.1 hi).1;show 3+i < _;omega
end
end Mo
end Go.Proofs.YtpbkhogolfegfaaGreatDoor
namespace Go.Proofs.YtpbkhogolfegfaaGreatDoor
open AI Go
namespace Mo
variable {mx:Int}
end Mo
end Go.Proofs.YtpbkhogolfegfaaGreatDoor
namespace Go.Proofs.YtpbkhogolfegfaaGreatDoor
open AI Go Go.RowKit LexS
namespace Mo
variable {mx:Int}
def aMM{cx:Cx}{w:World}{s:AS}(h:St (G mx) cx w s):Np w:=by
 refine⟨λi hi=>?_,λj v hj=>?_⟩;have hc:=h.Pm 3 Hd.alG rfl;have he:Hd.alG[i]?=some (.sc (.int .u8 (LY i:Nat))):=by simp[Hd.alG,hi]
 obtain⟨v,hv,hr⟩:=hc.get he;cases hr;have:=hv.2.2;rwa[Nat.zero_add] at this;have hc:=h.Pm 0 Hd.apT rfl;have hj':(Gc.map λy=>Value.string ⟨y.toArray⟩)[j]?=some v:=by simpa[Iv] using hj
 rw[List.getElem?_map] at hj';obtain⟨y,hy,rfl⟩:=Option.map_eq_some_iff.1 hj';have he:Hd.apT[j]?=some (GH y):=by simp[Hd.apT,hy]
 obtain⟨u,hu,hr⟩:=hc.get he;unfold GH at hr;cases hr;have:=hu.2.2;rwa[Nat.zero_add] at this
def VG{w w':World}(h:Below w.heap.size w w'):SF w w' (λ_=>False):=⟨h.os,h.tape,h.output,h.size,λk hk _=>h.block k hk⟩
def vW(w:World)(e:TypeId)(s:ByteArray):SF w (Lib.bytesWorld w e s) (λ_=>False) :=
 VG (Lib.below_freeze ((Below.drew (Below.refl _ w)).alloc (Nat.le_refl _) _) (p:=⟨w.heap.size,_,Option.none⟩) (Nat.le_refl _) 1)
def IH(x:LexS.Tok):Tk:=⟨x.1,⟨x.2.1.toArray⟩,x.2.2⟩
def aqG(l:List LexS.Tok):(rows Gz (l.map IH)).length=(KD l).length:=by
 unfold KD
 induction l with
 | nil=>rfl
 | cons x l ih=>rw[List.map_cons,I2,List.flatMap_cons,List.length_append,List.length_append,ih];rfl
def aAB(cx:Cx)(w:World)(l:List LexS.Tok):CU cx w (rows Gz (l.map IH)) (KD l):=by
 unfold KD
 induction l with
 | nil=>exact .nil
 | cons x l ih =>
   rw[List.map_cons,I2,List.flatMap_cons];exact CU.append (.cons (.sc rfl) (.cons (.sc rfl) (.cons (.sc rfl) .nil))) ih
def ID(s:ByteArray):Option (List Tk×Int×Int):=some ((Lg s.data.toList).1.map IH,(((Lg s.data.toList).2.1:Nat):Int),(((Lg s.data.toList).2.2:Nat):Int))
def Nw{s:ByteArray}{yR:List Tk×Int×Int}(h:ID s=some yR):Pure P (G mx) 34 [.sc (.string s)] (.CZ [.sl .lost yR.1.length (rows Gz yR.1),.sc (.int .i64 yR.2.1),.sc (.int .i64 yR.2.2)]):=by
 cases h;intro s0 cx w vs hs ha;cases ha with
 | cons h1 tl =>
 cases tl;cases h1;refine(anC s w (aMM hs)).mono ?_;rintro e w' ⟨u,rfl,QN,hb⟩;obtain⟨x,st⟩:=hs.same (VG hb);refine⟨cx,x,st,_,rfl,?_⟩;show Rp cx w' (.CZ [.sl .lost ((Lg (L s)).1.map IH).length (rows Gz ((Lg (L s)).1.map IH)),.sc (.int .i64 (Lg (L s)).2.1),.sc (.int .i64 (Lg (L s)).2.2)]) _;refine .CZ (vs:=[u,.int .i64 (Lg (L s)).2.1,.int .i64 (Lg (L s)).2.2]) (.cons ?_ (.cons (.sc rfl) (.cons (.sc rfl) .nil)));have hl:=aqG (Lg (L s)).1;have hc:=aAB cx w' (Lg (L s)).1;rw[List.length_map];obtain⟨h1,⟨rfl,h2⟩ | ⟨g,cap,cur,rfl,hg,hw,hn,_,hsz,htk⟩⟩:=QN;have:(Lg (L s)).1=[]:=List.eq_nil_of_length_eq_zero h2;rw[this];exact .sl0 trivial;refine .M9 hn (Bk.QX hc (λi v hi=>⟨(Array.getElem?_eq_some_iff.1 hw).1,λKj=>?_,?_⟩)) trivial;have:g < w.heap.size:=hs.fL Kj;omega;rw[Nat.zero_add,cell_of_row w' g i cur _ _ hw];rw[<- htk,List.getElem?_take] at hi;split at hi;rwa[Array.getElem?_toList] at hi;cases hi
def R0(s:ByteArray):Option (Int×Unit):=if s.data.toList.length<=18 then (Lib.atoi s.data.toList).map λn=>(n,()) else none
def rC{s:ByteArray}{yR:Int×Unit}(h:R0 s=some yR):Pure P (G mx) 173 [.sc (.string s)] (.CZ [.sc (.int .i64 yR.1),.sc .nilIface]):=by
 unfold R0 at h;split at h
 · rename_i hl
   cases hn:Lib.atoi s.data.toList with
   | none=>rw[hn] at h;cases h
   | some n =>
     rw[hn] at h;cases h;intro s0 cx w vs hs ha;cases ha with
     | cons h1 tl =>
     cases tl;cases h1;refine(Tryz.strconv_Atoi s n (by show s.data.size<=18;rw[<- Array.length_toList];exact hl) hn w).mono ?_;rintro e w' ⟨rfl,tt,rfl⟩;obtain⟨x,st⟩:=hs.same (vW w _ tt);exact⟨cx,x,st,_,rfl,.CZ (vs:=[.int .i64 n,.nilIface]) (.cons (.sc rfl) (.cons (.sc rfl) .nil))⟩
 cases h
def JX(t o n:ByteArray)(k:Int):Option ByteArray:=if 1<=o.size/\t.size+Lib.countB t o*n.size<=4000 then some ⟨(Lib.replace t.data.toList o.data.toList n.data.toList k).toArray⟩ else none
def fE{t o n:ByteArray}{k:Int}{yR:ByteArray}(h:JX t o n k=some yR):Pure P (G mx) 163 [.sc (.string t),.sc (.string o),.sc (.string n),.sc (.int .i64 k)] (.sc (.string yR)):=by
 unfold JX at h;split at h
 · rename_i hl
   cases h;intro s0 cx w vs hs ha;cases ha with
   | cons a1 tl =>
   cases tl with
   | cons a2 tl =>
   cases tl with
   | cons a3 tl =>
   cases tl with
   | cons a4 tl =>
   cases tl;cases a1;cases a2;cases a3;cases a4
   have hm:w.cell? ⟨5,0,none⟩=some (.int .i64 mx):=by
     have hg:=hs.Pm 5 [Hd.int mx] rfl;obtain⟨v,hv,hr⟩:=hg.get (i:=0) rfl;unfold Hd.int at hr;cases hr;exact hv.2.2
   refine(Tryz.strings_Replace t o n k mx w (by omega) hm hl.1 (by omega)).mono ?_;rintro e w' ⟨rfl,hb⟩;obtain⟨x,st⟩:=hs.same (VG hb);exact⟨cx,x,st,_,rfl,.sc rfl⟩
 cases h
def aiF:Nd⊕Dg->Nd×Dg×Bool
 | .inl n=>(n,⟨0,0⟩,true)
 | .inr d=>(⟨0,ByteArray.empty,ByteArray.empty,0,0,0,0,⟨0,[]⟩,[],0⟩,d,false)
end Mo
end Go.Proofs.YtpbkhogolfegfaaGreatDoor

namespace AI
open Go
abbrev AV.zi(x:Int):AV:=.sc (.int .i64 x)
abbrev AV.zs(x:ByteArray):AV:=.sc (.string x)
abbrev AV.zb(x:Bool):AV:=.sc (.bool x)
abbrev bT:Value:=.bool true
abbrev bF:Value:=.bool false
def Ew{α β:Type}{a b:α}{c d:β}{Q:Prop}(k:a=b->c=d->Q):some (a,c)=some (b,d)->Q:=λh=>by cases h;exact k rfl rfl
def rT{P:Program}{G:Bc}{c:Code}{fr:List AV}{s:AS}{x:Value}{fn:Func}{m:Nat}(l:List (PC P G))(h:aoJ P fn (TK P G 300 c [] (pHs l) fr s)=some (nB l,.sc x):=by kernel_rfl):W P G (XS P G) H0 c fr s (UD P fn m (λr _=>∃a,r=.ret a/\Fits 0 0 a (.sc x))):=rS (Ac 300 l) h
end AI
namespace Go.Proofs.YtpbkhogolfegfaaGreatDoor
open AI Go
namespace Mo
variable {mx:Int}
abbrev ndL(x:Nd)(r:List AV):List AV:=.zi x.kind::.zs x.name::.zs x.unit::.zi x.n::.zi x.fr::.zi x.to::.zi x.known::.zi x.Cz.den::.sl .lost x.Cz.ps.length (rows IJ x.Cz.ps)::.sl .lost x.kids.length (BH x.kids)::.zi x.AH::r
end Mo
end Go.Proofs.YtpbkhogolfegfaaGreatDoor
namespace AI
open Go
def BS{α β γ δ:Type}{m:Option ((α⊕β)×γ)}{k:(α⊕β)×γ->Option δ}{r:δ}{X:Prop}(h1:∀a c,m=some (.inl a,c)->k (.inl a,c)=some r->X)(h2:∀b c,m=some (.inr b,c)->k (.inr b,c)=some r->X):m.bind k=some r->X:=λh=>by
 cases m with
 | none=>cases h
 | some p =>
   obtain⟨a | b,c⟩:=p;exact h1 a c rfl h;exact h2 b c rfl h
end AI
namespace Go.Proofs.YtpbkhogolfegfaaGreatDoor
open AI Go
namespace Mo
variable {mx:Int}
abbrev pC(p:Pr)(x:Int):List AV:=[.sl .lost p.Bs.length (rows Gz p.Bs),.zi x,.zi p.DI]
abbrev pZ(p:Pr):AS:=⟨[(0,.cells (Ry p))],1,[],0⟩
abbrev pS(p:Pr)(x:Int):AS:=⟨[(0,.cells (pC p x))],1,[],0⟩
def pW{n m:Nat}(p:Pr)(x:Int):FO n m:=bw (.cells (pC p x)) (.cells (pC p x)) (.cells (.plain (A1 (BM.Ky p.Bs) (A1 rfl (A1 rfl rfl)))))
abbrev SE:List AV:=[.zi 0,.zs ByteArray.empty,.zs ByteArray.empty,.zi 0,.zi 0,.zi 0,.zi 0,.zi 0,.sl .full 0 [],.sl .full 0 [],.zi 0]
def kL{n m:Nat}:FO n m:=bw (.cells SE) (.cells SE) (.cells (.plain (A1 rfl (A1 rfl (A1 rfl (A1 rfl (A1 rfl (A1 rfl (A1 rfl (A1 rfl (A1 (WH rfl) (A1 (WH rfl) (A1 rfl rfl)))))))))))))
abbrev eD:Dg->AV:=λdV=>.ifc 45 (.agg (PV dV))
def gD{n m:Nat}(d:Dg):FP n m:=⟨eD d,eD d,.plain (Cm.Cp d)⟩
abbrev eN:Nd->AV:=λyV=>.agg (CP yV)
abbrev eT:Tk->AV:=λyV=>.agg (Gz yV)
abbrev eI:Int->AV:=λyV=>.zi yV
abbrev eJ:Int×Int->AV:=λyV=>.CZ [.zi yV.1,.zi yV.2]
abbrev eL:List Nd->AV:=λyV=>.sl .lost yV.length (BH yV)
abbrev eP:Pt->AV:=λyV=>.agg (Xu yV)
abbrev pR(mx:Int)(f:Nat)(al:List AV)(p:Pr)(r:CR)(x:Int):Prop:=Sound P (G mx) (.call f al (pZ p) r (pS p x))
section
variable {c:Code} {fr0:List AV} {s s0 s2:AS} {Q:AX->List AV->AS->Prop} {m:Nat} {v:AV} {ks:List KI}
def H8(d:Dg)(p:Pr)(x:Int)(l:List (PC P (G mx)))(k:Tz (G mx) m s0 Q v s2)(h:anU s0.nx s0.nr m [v] (mW (n:=s0.nx) (m:=s0.nr) [gD d]) (oB (n:=s0.nx) (m:=s0.nr) [pW p x]) (TK P (G mx) 300 c [] (pHs l) fr0 s)=some (nB l,[v],s2,rR (n:=s0.nx) (m:=s0.nr) [gD d],zQ (n:=s0.nx) (m:=s0.nr) [pW p x]):=by kernel_rfl):W P (G mx) (XS P (G mx)) H0 c fr0 s Q:=BL Hd.Aa m [gD d] [pW p x] (Ac 300 l) h k
def qgB(d:Dg)(p:Pr)(x:Int)(l:List (PC P (G mx)))(k:Tz (G mx) m s0 Q v s2)(h:anU s0.nx s0.nr m [v] (mW (n:=s0.nx) (m:=s0.nr) [gD d]) (oB (n:=s0.nx) (m:=s0.nr) [pW p x]) (RH (TK P (G mx) 300) ks .normal (pHs l) fr0 s)=some (nB l,[v],s2,rR (n:=s0.nx) (m:=s0.nr) [gD d],zQ (n:=s0.nx) (m:=s0.nr) [pW p x]):=by kernel_rfl):Ee P (G mx) ks Q .normal fr0 s:=BL Hd.Aa m [gD d] [pW p x] (IN 300 l) h k
end
section
variable {f:Nat} {al:List AV} {p:Pr} {x:Int}
def quG{r:CR}(hr:∀ρ σ,RnR 1 0 ρ σ r r)(hS:pR mx f (.ptr 0 0::al) p r x)(u0:Nat)(ha:BN al=true):Cd.ok P (G mx) (.E7 f (.ptr u0 0::al) r [(u0,.cells (Ry p))] [] [(u0,.cells (pC p x))] []) :=
 Ht (M:=[.cells (Ry p)]) (M2:=[.cells (pC p x)]) (T:=[]) (T2:=[]) (k:=1) (j:=0) Hd.Aa _ _ _ _ hS rfl rfl rfl rfl rfl (List.nodup_cons.2 ⟨by simp,List.nodup_nil⟩) List.nodup_nil rfl rfl (.cons (.cells (.pl (CM.pl p))) .nil) (.cons (.cells (.pl (A1 (BM.Ky p.Bs) (A1 rfl (A1 rfl rfl))))) .nil) (.cons (.ptr (by decide)) (.pl ha)) (hr _ _) (λe he=>by simp only[List.mem_singleton] at he;subst he;exact(.arg (.here .ptr)))
def Hq{y:Nd⊕Dg}(hS:pR mx f (.ptr 0 0::al) p (IY eN eD y) x)(u0:Nat)(ha:BN al=true:=by kernel_rfl):Cd.ok P (G mx) (.E7 f (.ptr u0 0::al) (IY eN eD y) [(u0,.cells (Ry p))] [] [(u0,.cells (pC p x))] []):=quG (λ_ _=>Mu (enc:=eN) (encd:=eD) (λyV=>AE.Cp yV) (λdV=>Cm.Cp dV) y) hS u0 ha
def Ie{y:Tk⊕Dg}(hS:pR mx f (.ptr 0 0::al) p (IY eT eD y) x)(u0:Nat)(ha:BN al=true:=by kernel_rfl):Cd.ok P (G mx) (.E7 f (.ptr u0 0::al) (IY eT eD y) [(u0,.cells (Ry p))] [] [(u0,.cells (pC p x))] []):=quG (λ_ _=>Mu (enc:=eT) (encd:=eD) (λyV=>BM.Cp yV) (λdV=>Cm.Cp dV) y) hS u0 ha
def bA{y:Int⊕Dg}(hS:pR mx f (.ptr 0 0::al) p (IY eI eD y) x)(u0:Nat)(ha:BN al=true:=by kernel_rfl):Cd.ok P (G mx) (.E7 f (.ptr u0 0::al) (IY eI eD y) [(u0,.cells (Ry p))] [] [(u0,.cells (pC p x))] []):=quG (λ_ _=>Mu (enc:=eI) (encd:=eD) (λyV=>rfl) (λdV=>Cm.Cp dV) y) hS u0 ha
def Nj{y:(Int×Int)⊕Dg}(hS:pR mx f (.ptr 0 0::al) p (IY eJ eD y) x)(u0:Nat)(ha:BN al=true:=by kernel_rfl):Cd.ok P (G mx) (.E7 f (.ptr u0 0::al) (IY eJ eD y) [(u0,.cells (Ry p))] [] [(u0,.cells (pC p x))] []):=quG (λ_ _=>Mu (enc:=eJ) (encd:=eD) (λyV=>rfl) (λdV=>Cm.Cp dV) y) hS u0 ha
def Oq{a:AV}(hS:Sound P (G mx) (.call f (.ptr 0 0::al) (pZ p) (.ret a) (pZ p)))(u0:Nat)(ha:BN al=true:=by kernel_rfl)(hp:plain a=true:=by kernel_rfl):Cd.ok P (G mx) (.E7 f (.ptr u0 0::al) (.ret a) [(u0,.cells (Ry p))] [] [(u0,.cells (Ry p))] []):=quG (x:=p.J4) (r:=.ret a) (λ_ _=>.pl hp) hS u0 ha
end
end Mo
end Go.Proofs.YtpbkhogolfegfaaGreatDoor
namespace Go.Proofs.YtpbkhogolfegfaaGreatDoor
open AI Go
namespace Mo
set_option maxRecDepth 100000
set_option maxHeartbeats 4000000
variable {mx:Int}
def B49:Code:=A0 Tryz.f49
def b49:Tryz.f49.body=some B49:=by kernel_rfl
def MM(p:Pr)(err:Int)(at_:Int):Option (Unit⊕Dg):=some (Sum.inr (⟨err,at_⟩:Dg):(Unit⊕Dg))
def At{p:Pr}{err:Int}{at_:Int}{yR:(Unit⊕Dg)}(hS:Sound P (G mx) (.call 49 [.ptr 0 0,.zi err,.zi at_] (pZ p) (IY (λyV=>.CZ []) eD yR) (pZ p)))(u0:Nat)(PY:([u0]:List Nat).Nodup:=by decide)(PZ:([]:List Nat).Nodup:=by decide):Cd.ok P (G mx) (.E7 49 [.ptr u0 0,.zi err,.zi at_] (IY (λyV=>.CZ []) eD yR) [(u0,.cells (Ry p))] [] [(u0,.cells (Ry p))] []) :=
 Ht (M:=[.cells (Ry p)]) (M2:=[.cells (Ry p)]) (T:=[]) (T2:=[]) (k:=1) (j:=0) Hd.Aa _ _ _ _ hS rfl rfl rfl rfl rfl PY PZ rfl rfl (.cons (.cells (.pl (CM.pl p))) .nil) (.cons (.cells (.pl (CM.pl p))) .nil) (.cons (.ptr (by decide)) (.cons (.pl rfl) (.cons (.pl rfl) .nil))) (Mu (enc:=λyV=>.CZ []) (encd:=λdV=>.ifc 45 (.agg (PV dV))) (λyV=>rfl) (λdV=>(Cm.Cp dV)) yR) (λe he=>by simp only[List.mem_singleton] at he;subst he;exact(.arg (.here .ptr)))
def Am{p:Pr}{err:Int}{at_:Int}{yR:(Unit⊕Dg)}(h:MM  p err at_=some yR):Sound P (G mx) (.call 49 [.ptr 0 0,.zi err,.zi at_] (pZ p) (IY (λyV=>.CZ []) eD yR) (pZ p)):=by
 unfold MM at h;refine BW Hd.mixed (Au Tryz.func49 b49 ?_);revert h;rintro⟨⟩;exact BL Hd.Aa _ [⟨.ifc 45 (.agg [.zi err,.zi at_]),.ifc 45 (.agg [.zi err,.zi at_]),(.plain (Cm.Cp (⟨err,at_⟩:Dg)))⟩] [bp (CM.pl p)] (Ac 300 [ppn]) (by kernel_rfl) .body
def B69:Code:=A0 Tryz.f69
def b69:Tryz.f69.body=some B69:=by kernel_rfl
def AD(p:Pr):Option (Tk⊕Dg):=cond (Nv ((p.Bs.length:Nat):Int) p.J4) (some (Sum.inr (⟨72,p.DI⟩:Dg):(Tk⊕Dg))) ((Hu p.Bs p.J4).bind λx1=>some (Sum.inl x1:(Tk⊕Dg)))
def Ax{p:Pr}{yR:(Tk⊕Dg)}(hS:Sound P (G mx) (.call 69 [.ptr 0 0] (pZ p) (IY eT eD yR) (pZ p)))(u0:Nat)(PY:([u0]:List Nat).Nodup:=by decide)(PZ:([]:List Nat).Nodup:=by decide):Cd.ok P (G mx) (.E7 69 [.ptr u0 0] (IY eT eD yR) [(u0,.cells (Ry p))] [] [(u0,.cells (Ry p))] []) :=
 Ht (M:=[.cells (Ry p)]) (M2:=[.cells (Ry p)]) (T:=[]) (T2:=[]) (k:=1) (j:=0) Hd.Aa _ _ _ _ hS rfl rfl rfl rfl rfl PY PZ rfl rfl (.cons (.cells (.pl (CM.pl p))) .nil) (.cons (.cells (.pl (CM.pl p))) .nil) (.cons (.ptr (by decide)) .nil) (Mu (enc:=λyV=>.agg (Gz yV)) (encd:=λdV=>.ifc 45 (.agg (PV dV))) (λyV=>(BM.Cp yV)) (λdV=>(Cm.Cp dV)) yR) (λe he=>by simp only[List.mem_singleton] at he;subst he;exact(.arg (.here .ptr)))
def Ao{p:Pr}{yR:(Tk⊕Dg)}(h:AD  p=some yR):Sound P (G mx) (.call 69 [.ptr 0 0] (pZ p) (IY eT eD yR) (pZ p)):=by
 unfold AD at h;refine BW Hd.mixed (Au Tryz.func69 b69 ?_);revert h;refine Ag (λAW=>?_) λAW=>?_;rintro⟨⟩;exact BL Hd.Aa _ [⟨.ifc 45 (.agg [.zi 72,.zi p.DI]),.ifc 45 (.agg [.zi 72,.zi p.DI]),(.plain (Cm.Cp (⟨72,p.DI⟩:Dg)))⟩] [bp (CM.pl p)] (Ac 300 [pb AW,An (At (Am (p:=p) (err:=72) (at_:=p.DI) rfl) 0)]) (by kernel_rfl) .body;refine Aq λx1 wP=>?_;rintro⟨⟩;exact Aw Hd.Aa _ _ [⟨.agg (Gz x1),.agg (Gz x1),(.plain (BM.Cp x1))⟩] [bp (CM.pl p)] (Ac 300 [pb AW,kJ,Jp (aeB .lost wP)]) (by kernel_rfl) .body
def aGI:Code:=A0 Tryz.f143
def aIB:Tryz.f143.body=some aGI:=by kernel_rfl
def Im(word:ByteArray):Option Bool:=cond (BY word.data.toList Tl.data.toList) (some true) (cond (BY word.data.toList OX.data.toList) (some true) (cond (BY word.data.toList Ig.data.toList) (some true) (cond (BY word.data.toList acF.data.toList) (some true) (cond (BY word.data.toList tM.data.toList) (some true) (cond (BY word.data.toList rW.data.toList) (some true) (cond (BY word.data.toList toS.data.toList) (some true) (cond (BY word.data.toList VN.data.toList) (some true) (cond (BY word.data.toList cG.data.toList) (some true) (cond (BY word.data.toList SZ.data.toList) (some true) (cond (BY word.data.toList QG.data.toList) (some true) (cond (BY word.data.toList Ha.data.toList) (some true) (cond (BY word.data.toList EF.data.toList) (some true) (cond (BY word.data.toList JQ.data.toList) (some true) (cond (BY word.data.toList anG.data.toList) (some true) (cond (BY word.data.toList Tj.data.toList) (some true) (cond (BY word.data.toList Mk.data.toList) (some true) (cond (BY word.data.toList Pl.data.toList) (some true) (cond (BY word.data.toList Tq.data.toList) (some true) (cond (BY word.data.toList jW.data.toList) (some true) (cond (BY word.data.toList PQ.data.toList) (some true) (cond (BY word.data.toList U3.data.toList) (some true) (cond (BY word.data.toList iA.data.toList) (some true) (cond (BY word.data.toList Zm.data.toList) (some true) (cond (BY word.data.toList TI.data.toList) (some true) (cond (BY word.data.toList cW.data.toList) (some true) (cond (BY word.data.toList LL.data.toList) (some true) (cond (BY word.data.toList dF.data.toList) (some true) (cond (BY word.data.toList QT.data.toList) (some true) (cond (BY word.data.toList Vy.data.toList) (some true) (cond (BY word.data.toList KT.data.toList) (some true) (cond (BY word.data.toList FR.data.toList) (some true) (cond (BY word.data.toList Ra.data.toList) (some true) (some false)))))))))))))))))))))))))))))))))
def Jn{word:ByteArray}{yR:Bool}(h:Im  word=some yR):Pure P (G mx) 143 [.zs word] (.zb yR):=by
 unfold Im at h;refine CN Hd.mixed Hd.Aa (Au Tryz.func143 aIB ?_) (A1 rfl rfl) rfl;revert h;refine Ag (λAW=>?_) λAW=>?_;rintro⟨⟩;exact rT [pb AW];let o1:List (PC P (G mx)):=[pb AW];refine Ag (λhb2=>?_) λhb2=>?_;rintro⟨⟩;exact rT (o1++[pb hb2]);let o2:List (PC P (G mx)):=o1++[pb hb2];refine Ag (λhb3=>?_) λhb3=>?_;rintro⟨⟩;exact rT (o2++[pb hb3]);let o3:List (PC P (G mx)):=o2++[pb hb3];refine Ag (λFe=>?_) λFe=>?_;rintro⟨⟩;exact rT (o3++[pb Fe]);let o4:List (PC P (G mx)):=o3++[pb Fe];refine Ag (λHw=>?_) λHw=>?_;rintro⟨⟩;exact rT (o4++[pb Hw]);let o5:List (PC P (G mx)):=o4++[pb Hw];refine Ag (λIG=>?_) λIG=>?_;rintro⟨⟩;exact rT (o5++[pb IG]);let o6:List (PC P (G mx)):=o5++[pb IG];refine Ag (λI4=>?_) λI4=>?_;rintro⟨⟩;exact rT (o6++[pb I4]);let o7:List (PC P (G mx)):=o6++[pb I4];refine Ag (λKp=>?_) λKp=>?_;rintro⟨⟩;exact rT (o7++[pb Kp]);let o8:List (PC P (G mx)):=o7++[pb Kp];refine Ag (λKi=>?_) λKi=>?_;rintro⟨⟩;exact rT (o8++[pb Ki]);let o9:List (PC P (G mx)):=o8++[pb Ki];refine Ag (λGI=>?_) λGI=>?_;rintro⟨⟩;exact rT (o9++[pb GI]);let gN:List (PC P (G mx)):=o9++[pb GI];refine Ag (λIS=>?_) λIS=>?_;rintro⟨⟩;exact rT (gN++[pb IS]);let pI:List (PC P (G mx)):=gN++[pb IS];refine Ag (λJz=>?_) λJz=>?_;rintro⟨⟩;exact rT (pI++[pb Jz]);let o12:List (PC P (G mx)):=pI++[pb Jz];refine Ag (λJA=>?_) λJA=>?_;rintro⟨⟩;exact rT (o12++[pb JA]);let pJ:List (PC P (G mx)):=o12++[pb JA];refine Ag (λKR=>?_) λKR=>?_;rintro⟨⟩;exact rT (pJ++[pb KR]);let o14:List (PC P (G mx)):=pJ++[pb KR];refine Ag (λLf=>?_) λLf=>?_;rintro⟨⟩;exact rT (o14++[pb Lf]);let o15:List (PC P (G mx)):=o14++[pb Lf];refine Ag (λN1=>?_) λN1=>?_;rintro⟨⟩;exact rT (o15++[pb N1]);let xB:List (PC P (G mx)):=o15++[pb N1];refine Ag (λUN=>?_) λUN=>?_;rintro⟨⟩;exact rT (xB++[pb UN]);let o17:List (PC P (G mx)):=xB++[pb UN];refine Ag (λWV=>?_) λWV=>?_;rintro⟨⟩;exact rT (o17++[pb WV]);let o18:List (PC P (G mx)):=o17++[pb WV];refine Ag (λoF=>?_) λoF=>?_;rintro⟨⟩;exact rT (o18++[pb oF]);let o19:List (PC P (G mx)):=o18++[pb oF];refine Ag (λoG=>?_) λoG=>?_;rintro⟨⟩;exact rT (o19++[pb oG]);let o20:List (PC P (G mx)):=o19++[pb oG];refine Ag (λoH=>?_) λoH=>?_;rintro⟨⟩;exact rT (o20++[pb oH]);let o21:List (PC P (G mx)):=o20++[pb oH];refine Ag (λoI=>?_) λoI=>?_;rintro⟨⟩;exact rT (o21++[pb oI]);let o22:List (PC P (G mx)):=o21++[pb oI];refine Ag (λoJ=>?_) λoJ=>?_;rintro⟨⟩;exact rT (o22++[pb oJ]);let o23:List (PC P (G mx)):=o22++[pb oJ];refine Ag (λawE=>?_) λawE=>?_;rintro⟨⟩;exact rT (o23++[pb awE]);let o24:List (PC P (G mx)):=o23++[pb awE];refine Ag (λamG=>?_) λamG=>?_;rintro⟨⟩;exact rT (o24++[pb amG]);refine Ag (λawF=>?_) λawF=>?_;rintro⟨⟩;exact rT (o24++[pb amG,pb awF]);let o25:List (PC P (G mx)):=o24++[pb amG,pb awF];refine Ag (λamH=>?_) λamH=>?_;rintro⟨⟩;exact rT (o25++[pb amH]);refine Ag (λawG=>?_) λawG=>?_;rintro⟨⟩;exact rT (o25++[pb amH,pb awG]);let o26:List (PC P (G mx)):=o25++[pb amH,pb awG];refine Ag (λoK=>?_) λoK=>?_;rintro⟨⟩;exact rT (o26++[pb oK]);refine Ag (λwK=>?_) λwK=>?_;rintro⟨⟩;exact rT (o26++[pb oK,pb wK]);refine Ag (λadC=>?_) λadC=>?_;rintro⟨⟩;exact rT (o26++[pb oK,pb wK,pb adC]);refine Ag (λamI=>?_) λamI=>?_;rintro⟨⟩;exact rT (o26++[pb oK,pb wK,pb adC,pb amI]);refine Ag (λawH=>?_) λawH=>?_;rintro⟨⟩;exact rT (o26++[pb oK,pb wK,pb adC,pb amI,pb awH]);rintro⟨⟩;exact rT (o26++[pb oK,pb wK,pb adC,pb amI,pb awH])
def aFX:Code:=A0 Tryz.f119
def aHL:Tryz.f119.body=some aFX:=by kernel_rfl
def Cw(token:Tk):Option Bool:=cond (CV token.kind 1) ((Im token.text).bind λy1=>cond y1 (some false) (some true)) (some false)
def Oe{token:Tk}{yR:Bool}(h:Cw  token=some yR):Pure P (G mx) 119 [.agg (Gz token)] (.zb yR):=by
 unfold Cw at h;refine CN Hd.mixed Hd.Aa (Au Tryz.func119 aHL ?_) (A1 (BM.Cp token) rfl) rfl;revert h;refine Ag (λAW=>?_) λAW=>?_;refine Aq λy1 B7=>?_;refine Ag (λhv=>?_) λhv=>?_;subst hv;rintro⟨⟩;exact rT [pb AW,AG (Jn B7)];subst hv;rintro⟨⟩;exact rT [pb AW,AG (Jn B7)];rintro⟨⟩;exact rT [pb AW]
def aGL:Code:=A0 Tryz.f154
def aIE:Tryz.f154.body=some aGL:=by kernel_rfl
def Ds(token:Tk)(a1:ByteArray):Option Bool:=cond (BY token.text.data.toList a1.data.toList) (some true) (some false)
def Pz{token:Tk}{a1:ByteArray}{yR:Bool}(hS:Sound P (G mx) (.call 154 [.agg (Gz token),.ptr 0 0] ⟨[(0,.cells [.zs a1])],1,[],0⟩ (.ret (.zb yR)) ⟨[(0,.cells [.zs a1])],1,[],0⟩))(u0:Nat)(PY:([u0]:List Nat).Nodup:=by decide)(PZ:([]:List Nat).Nodup:=by decide):Cd.ok P (G mx) (.E7 154 [.agg (Gz token),.ptr u0 0] (.ret (.zb yR)) [(u0,.cells [.zs a1])] [] [(u0,.cells [.zs a1])] []) :=
 Ht (M:=[.cells [.zs a1]]) (M2:=[.cells [.zs a1]]) (T:=[]) (T2:=[]) (k:=1) (j:=0) Hd.Aa _ _ _ _ hS rfl rfl rfl rfl rfl PY PZ rfl rfl (.cons (.cells (.pl (A1 rfl rfl))) .nil) (.cons (.cells (.pl (A1 rfl rfl))) .nil) (.cons (.pl (BM.Cp token)) (.cons (.ptr (by decide)) .nil)) (.pl rfl) (λe he=>by simp only[List.mem_singleton] at he;subst he;exact(.arg (.there (.here .ptr))))
def NB{token:Tk}{a1:ByteArray}{yR:Bool}(h:Ds  token a1=some yR):Sound P (G mx) (.call 154 [.agg (Gz token),.ptr 0 0] ⟨[(0,.cells [.zs a1])],1,[],0⟩ (.ret (.zb yR)) ⟨[(0,.cells [.zs a1])],1,[],0⟩):=by
 unfold Ds at h;refine BW Hd.mixed (Au Tryz.func154 aIE ?_);revert h;refine Ag (λAW=>?_) λAW=>?_;rintro⟨⟩;exact Aw Hd.Aa _ _ [] [none] (Ac 300 [pb AW]) (by kernel_rfl) .body;rintro⟨⟩;exact Aw Hd.Aa _ _ [] [none] (Ac 300 [pb AW]) (by kernel_rfl) .body
def aFW:Code:=A0 Tryz.f118
def cX:Tryz.f118.body=some aFW:=by kernel_rfl
def Gm(p:Pr)(fits:ByteArray):Option ((Tk⊕Dg)×Int):=(AD p).bind λy1=>Sum.elim (λ(CI:Tk)=>(Ds CI fits).bind λy2=>cond y2 (some ((Sum.inl CI:(Tk⊕Dg)),(Bt p.J4 1))) (some ((Sum.inr (⟨71,CI.AH⟩:Dg):(Tk⊕Dg)),p.J4))) (λ(LW:Dg)=>some ((Sum.inr LW:(Tk⊕Dg)),p.J4)) y1
def LA{p:Pr}{fits:ByteArray}{yR:(Tk⊕Dg)}{Ai:Int}(hS:Sound P (G mx) (.call 118 [.ptr 0 0,.fn (.func 154) [] [.ptr 1 0]] ⟨[(1,.cells [.zs fits]),(0,.cells (Ry p))],2,[],0⟩ (IY eT eD yR) ⟨[(1,.cells [.zs fits]),(0,.cells (pC p Ai))],2,[],0⟩))(u0 u1:Nat)(PY:([u0,u1]:List Nat).Nodup:=by decide)(PZ:([]:List Nat).Nodup:=by decide):Cd.ok P (G mx) (.E7 118 [.ptr u0 0,.fn (.func 154) [] [.ptr u1 0]] (IY eT eD yR) [(u0,.cells (Ry p)),(u1,.cells [.zs fits])] [] [(u0,.cells (pC p Ai)),(u1,.cells [.zs fits])] []) :=
 Ht (M:=[.cells (Ry p),.cells [.zs fits]]) (M2:=[.cells (pC p Ai),.cells [.zs fits]]) (T:=[]) (T2:=[]) (k:=2) (j:=0) Hd.Aa _ _ _ _ hS rfl rfl rfl rfl rfl PY PZ rfl rfl (.cons (.cells (.pl (CM.pl p))) (.cons (.cells (.pl (A1 rfl rfl))) .nil)) (.cons (.cells (.pl (A1 (BM.Ky p.Bs) (A1 rfl (A1 rfl rfl))))) (.cons (.cells (.pl (A1 rfl rfl))) .nil)) (.cons (.ptr (by decide)) (.cons (.fn (.pl rfl) (.cons (.ptr (by decide)) .nil)) .nil)) (Mu (enc:=λyV=>.agg (Gz yV)) (encd:=λdV=>.ifc 45 (.agg (PV dV))) (λyV=>(BM.Cp yV)) (λdV=>(Cm.Cp dV)) yR) (by
   intro e he;simp only[List.mem_cons,List.not_mem_nil,or_false] at he;rcases he with rfl | rfl
   exact(.arg (.here .ptr));exact(.arg (.there (.here (.fn2 (.here .ptr)))))
   )
def Km{p:Pr}{fits:ByteArray}{yR:(Tk⊕Dg)}{Ai:Int}(h:Gm  p fits=some (yR,Ai)):Sound P (G mx) (.call 118 [.ptr 0 0,.fn (.func 154) [] [.ptr 1 0]] ⟨[(1,.cells [.zs fits]),(0,.cells (Ry p))],2,[],0⟩ (IY eT eD yR) ⟨[(1,.cells [.zs fits]),(0,.cells (pC p Ai))],2,[],0⟩):=by
 unfold Gm at h;refine BW Hd.mixed (Au Tryz.func118 cX ?_);revert h;refine Aq λy1 B7=>?_;refine Tc (λCI L5=>?_) λLW L5=>?_;subst L5;refine Aq λy2 D1=>?_;let o1:List (PC P (G mx)):=[Af (Ax (Ao B7) 0),Af (Pz (NB D1) 1)];refine Ag (λhv=>?_) λhv=>?_;subst hv;rintro⟨⟩;exact Aw Hd.Aa _ _ [⟨.agg (Gz CI),.agg (Gz CI),(.plain (BM.Cp CI))⟩] [none,pW p (Bt p.J4 1)] (Ac 300 (o1++[pk])) (by kernel_rfl) .body;subst hv;rintro⟨⟩;exact BL Hd.Aa _ [⟨.ifc 45 (.agg [.zi 71,.zi CI.AH]),.ifc 45 (.agg [.zi 71,.zi CI.AH]),(.plain (Cm.Cp (⟨71,CI.AH⟩:Dg)))⟩] [none,bp (CM.pl p)] (Ac 300 (o1++[An (At (Am (p:=p) (err:=71) (at_:=CI.AH) rfl) 0)])) (by kernel_rfl) .body;subst L5;rintro⟨⟩;exact BL Hd.Aa _ [gD LW] [none,bp (CM.pl p)] (Ac 300 [An (Ax (Ao B7) 0)]) (by kernel_rfl) .body
def aFY:Code:=A0 Tryz.f120
def aHM:Tryz.f120.body=some aFY:=by kernel_rfl
def Ak(p:Pr)(text:ByteArray):Option ((Tk⊕Dg)×Int):=(Gm p text).bind λ(Ej,Bj)=>Sum.elim (λ(Ay:Tk)=>some ((Sum.inl Ay:(Tk⊕Dg)),Bj)) (λ(CT:Dg)=>some ((Sum.inr CT:(Tk⊕Dg)),Bj)) Ej
def Ab{p:Pr}{text:ByteArray}{yR:(Tk⊕Dg)}{Ai:Int}(h:Ak  p text=some (yR,Ai)):pR mx 120 [.ptr 0 0,.zs text] p (IY eT eD yR) Ai:=by
 unfold Ak at h;refine BW Hd.mixed (Au Tryz.func120 aHM ?_);revert h;refine BS (λAy Bj B7=>?_) λCT Bj B7=>?_;refine Ew ?_;rintro rfl rfl;exact Aw Hd.Aa _ _ [⟨.agg (Gz Ay),.agg (Gz Ay),(.plain (BM.Cp Ay))⟩] [pW p Bj] (Ac 300 [Af (LA (Km B7) 0 1)]) (by kernel_rfl) .body;refine Ew ?_;rintro rfl rfl;exact H8 CT p Bj [An (LA (Km B7) 0 1)] .body
def aFZ:Code:=A0 Tryz.f121
def aHN:Tryz.f121.body=some aFZ:=by kernel_rfl
def Fa(token:Tk):Option Bool:=cond (BY token.text.data.toList Ha.data.toList) (some true) (cond (BY token.text.data.toList EF.data.toList) (some true) (cond (BY token.text.data.toList JQ.data.toList) (some true) (cond (CV token.kind 2) (some true) (some false))))
def TV{token:Tk}{yR:Bool}(h:Fa  token=some yR):Pure P (G mx) 121 [.agg (Gz token)] (.zb yR):=by
 unfold Fa at h;refine CN Hd.mixed Hd.Aa (Au Tryz.func121 aHN ?_) (A1 (BM.Cp token) rfl) rfl;revert h;refine Ag (λAW=>?_) λAW=>?_;rintro⟨⟩;exact rT [pb AW];refine Ag (λhb2=>?_) λhb2=>?_;rintro⟨⟩;exact rT [pb AW,pb hb2];refine Ag (λhb3=>?_) λhb3=>?_;rintro⟨⟩;exact rT [pb AW,pb hb2,pb hb3];refine Ag (λFe=>?_) λFe=>?_;rintro⟨⟩;exact rT [pb AW,pb hb2,pb hb3,pb Fe];rintro⟨⟩;exact rT [pb AW,pb hb2,pb hb3,pb Fe]
def auM:Code:=A0 Tryz.f122
def aHO:Tryz.f122.body=some auM:=by kernel_rfl
def Ev(word:ByteArray):Option Int:=cond (BY Tj.data.toList word.data.toList) (some 1) (cond (BY Mk.data.toList word.data.toList) (some 2) (cond (BY Pl.data.toList word.data.toList) (some 3) (cond (BY Tq.data.toList word.data.toList) (some 4) (some 0))))
def KV{word:ByteArray}{yR:Int}(h:Ev  word=some yR):Pure P (G mx) 122 [.zs word] (.zi yR):=by
 unfold Ev at h;refine CN Hd.mixed Hd.Aa (Au Tryz.func122 aHO ?_) (A1 rfl rfl) rfl;revert h;refine Du (G4 (fr2:=fr 19 [(0,.zs word),(5,.agg [.zs ByteArray.empty,.zs Tj,.zs Mk,.zs Pl,.zs Tq]),(6,.zi 0)] [] []) (s2:=⟨[],0,[],0⟩) [] 0 (sb auM 52) [.code (sb auM 7)] (Ac 300 []) (by kernel_rfl)) ?_;refine Du (El (fr2:=fr 19 [(0,.zs word),(5,.agg [.zs ByteArray.empty,.zs Tj,.zs Mk,.zs Pl,.zs Tq]),(6,.zi 1),(7,.zb true),(11,.zb false),(12,.zb false),(16,.zb false)] [] []) (s2:=⟨[],0,[],0⟩) [] (Ac 300 [pk,pk,pk,pk]) (by kernel_rfl)) ?_;refine Ag (λAW=>?_) λAW=>?_;rintro⟨⟩;exact AA _ _ (Ac 300 [pk,pk,pk,pb AW]) (by kernel_rfl) (.Gb (.outer .body)) .sc;refine Du (El (fr2:=fr 19 [(0,.zs word),(5,.agg [.zs ByteArray.empty,.zs Tj,.zs Mk,.zs Pl,.zs Tq]),(6,.zi 2),(7,.zb true),(11,.zb true),(12,.zb true),(15,.zb false),(16,.zb false)] [] []) (s2:=⟨[],0,[],0⟩) [] (Ac 300 [pk,pk,pk,pb AW,pk]) (by kernel_rfl)) ?_;refine Ag (λhb2=>?_) λhb2=>?_;rintro⟨⟩;exact AA _ _ (Ac 300 [pk,pk,pk,pb hb2]) (by kernel_rfl) (.Gb (.outer .body)) .sc;refine Du (El (fr2:=fr 19 [(0,.zs word),(5,.agg [.zs ByteArray.empty,.zs Tj,.zs Mk,.zs Pl,.zs Tq]),(6,.zi 3),(7,.zb true),(11,.zb true),(12,.zb true),(15,.zb false),(16,.zb false)] [] []) (s2:=⟨[],0,[],0⟩) [] (Ac 300 [pk,pk,pk,pb hb2,pk]) (by kernel_rfl)) ?_;refine Ag (λhb3=>?_) λhb3=>?_;rintro⟨⟩;exact AA _ _ (Ac 300 [pk,pk,pk,pb hb3]) (by kernel_rfl) (.Gb (.outer .body)) .sc;refine Du (El (fr2:=fr 19 [(0,.zs word),(5,.agg [.zs ByteArray.empty,.zs Tj,.zs Mk,.zs Pl,.zs Tq]),(6,.zi 4),(7,.zb true),(11,.zb true),(12,.zb true),(15,.zb false),(16,.zb false)] [] []) (s2:=⟨[],0,[],0⟩) [] (Ac 300 [pk,pk,pk,pb hb3,pk]) (by kernel_rfl)) ?_;refine Ag (λFe=>?_) λFe=>?_;rintro⟨⟩;exact AA _ _ (Ac 300 [pk,pk,pk,pb Fe]) (by kernel_rfl) (.Gb (.outer .body)) .sc;refine Du (El (fr2:=fr 19 [(0,.zs word),(5,.agg [.zs ByteArray.empty,.zs Tj,.zs Mk,.zs Pl,.zs Tq]),(6,.zi 5),(7,.zb true),(11,.zb true),(12,.zb true),(15,.zb false),(16,.zb false)] [] []) (s2:=⟨[],0,[],0⟩) [] (Ac 300 [pk,pk,pk,pb Fe,pk]) (by kernel_rfl)) ?_;refine eE (Dx (id:=0) (fr2:=fr 19 [(7,.zb false),(11,.zb true),(12,.zb true),(15,.zb false),(16,.zb false)] [] []) (s2:=⟨[],0,[],0⟩) (Ac 300 [pk]) (by kernel_rfl)) ?_;rintro⟨⟩;exact AA _ _ (fI 300 []) (by kernel_rfl) .body .sc
def aGA:Code:=A0 Tryz.f123
def aHP:Tryz.f123.body=some aGA:=by kernel_rfl
def BT(token:Tk):Option Bool:=(Ev token.text).bind λy1=>cond (Et 0 y1) (some true) (some false)
def Lz{token:Tk}{yR:Bool}(h:BT  token=some yR):Pure P (G mx) 123 [.agg (Gz token)] (.zb yR):=by
 unfold BT at h;refine CN Hd.mixed Hd.Aa (Au Tryz.func123 aHP ?_) (A1 (BM.Cp token) rfl) rfl;revert h;refine Aq λy1 B7=>?_;refine Ag (λAW=>?_) λAW=>?_;rintro⟨⟩;exact rT [AG (KV B7),pb AW];rintro⟨⟩;exact rT [AG (KV B7),pb AW]
def DA(p:Pr):Option ((Tk⊕Dg)×Int):=(AD p).bind λy1=>Sum.elim (λ(CI:Tk)=>(Cw CI).bind λy2=>cond y2 (some ((Sum.inl CI:(Tk⊕Dg)),(Bt p.J4 1))) (some ((Sum.inr (⟨71,CI.AH⟩:Dg):(Tk⊕Dg)),p.J4))) (λ(LW:Dg)=>some ((Sum.inr LW:(Tk⊕Dg)),p.J4)) y1
def D6{p:Pr}{yR:(Tk⊕Dg)}{Ai:Int}(h:DA  p=some (yR,Ai)):pR mx 118 [.ptr 0 0,.fn (.func 119) [] []] p (IY eT eD yR) Ai:=by
 unfold DA at h;refine BW Hd.mixed (Au Tryz.func118 cX ?_);revert h;refine Aq λy1 B7=>?_;refine Tc (λCI L5=>?_) λLW L5=>?_;subst L5;refine Aq λy2 D1=>?_;let o1:List (PC P (G mx)):=[Af (Ax (Ao B7) 0),AG (Oe D1)];refine Ag (λhv=>?_) λhv=>?_;subst hv;rintro⟨⟩;exact Aw Hd.Aa _ _ [⟨.agg (Gz CI),.agg (Gz CI),(.plain (BM.Cp CI))⟩] [pW p (Bt p.J4 1)] (Ac 300 (o1++[pk])) (by kernel_rfl) .body;subst hv;rintro⟨⟩;exact BL Hd.Aa _ [⟨.ifc 45 (.agg [.zi 71,.zi CI.AH]),.ifc 45 (.agg [.zi 71,.zi CI.AH]),(.plain (Cm.Cp (⟨71,CI.AH⟩:Dg)))⟩] [bp (CM.pl p)] (Ac 300 (o1++[An (At (Am (p:=p) (err:=71) (at_:=CI.AH) rfl) 0)])) (by kernel_rfl) .body;subst L5;rintro⟨⟩;exact BL Hd.Aa _ [gD LW] [bp (CM.pl p)] (Ac 300 [An (Ax (Ao B7) 0)]) (by kernel_rfl) .body
def EI(p:Pr):Option ((Tk⊕Dg)×Int):=(AD p).bind λy1=>Sum.elim (λ(CI:Tk)=>(Fa CI).bind λy2=>cond y2 (some ((Sum.inl CI:(Tk⊕Dg)),(Bt p.J4 1))) (some ((Sum.inr (⟨71,CI.AH⟩:Dg):(Tk⊕Dg)),p.J4))) (λ(LW:Dg)=>some ((Sum.inr LW:(Tk⊕Dg)),p.J4)) y1
def Ip{p:Pr}{yR:(Tk⊕Dg)}{Ai:Int}(h:EI  p=some (yR,Ai)):pR mx 118 [.ptr 0 0,.fn (.func 121) [] []] p (IY eT eD yR) Ai:=by
 unfold EI at h;refine BW Hd.mixed (Au Tryz.func118 cX ?_);revert h;refine Aq λy1 B7=>?_;refine Tc (λCI L5=>?_) λLW L5=>?_;subst L5;refine Aq λy2 D1=>?_;let o1:List (PC P (G mx)):=[Af (Ax (Ao B7) 0),AG (TV D1)];refine Ag (λhv=>?_) λhv=>?_;subst hv;rintro⟨⟩;exact Aw Hd.Aa _ _ [⟨.agg (Gz CI),.agg (Gz CI),(.plain (BM.Cp CI))⟩] [pW p (Bt p.J4 1)] (Ac 300 (o1++[pk])) (by kernel_rfl) .body;subst hv;rintro⟨⟩;exact BL Hd.Aa _ [⟨.ifc 45 (.agg [.zi 71,.zi CI.AH]),.ifc 45 (.agg [.zi 71,.zi CI.AH]),(.plain (Cm.Cp (⟨71,CI.AH⟩:Dg)))⟩] [bp (CM.pl p)] (Ac 300 (o1++[An (At (Am (p:=p) (err:=71) (at_:=CI.AH) rfl) 0)])) (by kernel_rfl) .body;subst L5;rintro⟨⟩;exact BL Hd.Aa _ [gD LW] [bp (CM.pl p)] (Ac 300 [An (Ax (Ao B7) 0)]) (by kernel_rfl) .body
def F3(p:Pr):Option ((Tk⊕Dg)×Int):=(AD p).bind λy1=>Sum.elim (λ(CI:Tk)=>(BT CI).bind λy2=>cond y2 (some ((Sum.inl CI:(Tk⊕Dg)),(Bt p.J4 1))) (some ((Sum.inr (⟨71,CI.AH⟩:Dg):(Tk⊕Dg)),p.J4))) (λ(LW:Dg)=>some ((Sum.inr LW:(Tk⊕Dg)),p.J4)) y1
def JT{p:Pr}{yR:(Tk⊕Dg)}{Ai:Int}(h:F3  p=some (yR,Ai)):pR mx 118 [.ptr 0 0,.fn (.func 123) [] []] p (IY eT eD yR) Ai:=by
 unfold F3 at h;refine BW Hd.mixed (Au Tryz.func118 cX ?_);revert h;refine Aq λy1 B7=>?_;refine Tc (λCI L5=>?_) λLW L5=>?_;subst L5;refine Aq λy2 D1=>?_;let o1:List (PC P (G mx)):=[Af (Ax (Ao B7) 0),AG (Lz D1)];refine Ag (λhv=>?_) λhv=>?_;subst hv;rintro⟨⟩;exact Aw Hd.Aa _ _ [⟨.agg (Gz CI),.agg (Gz CI),(.plain (BM.Cp CI))⟩] [pW p (Bt p.J4 1)] (Ac 300 (o1++[pk])) (by kernel_rfl) .body;subst hv;rintro⟨⟩;exact BL Hd.Aa _ [⟨.ifc 45 (.agg [.zi 71,.zi CI.AH]),.ifc 45 (.agg [.zi 71,.zi CI.AH]),(.plain (Cm.Cp (⟨71,CI.AH⟩:Dg)))⟩] [bp (CM.pl p)] (Ac 300 (o1++[An (At (Am (p:=p) (err:=71) (at_:=CI.AH) rfl) 0)])) (by kernel_rfl) .body;subst L5;rintro⟨⟩;exact BL Hd.Aa _ [gD LW] [bp (CM.pl p)] (Ac 300 [An (Ax (Ao B7) 0)]) (by kernel_rfl) .body
def B70:Code:=A0 Tryz.f70
def b70:Tryz.f70.body=some B70:=by kernel_rfl
def Dz(p:Pr):Option ((Nd⊕Dg)×Int):=(AD p).bind λy1=>Sum.elim (λ(CI:Tk)=>(DA (⟨p.Bs,(Bt p.J4 1),p.DI⟩:Pr)).bind λ(Ks,EL)=>Sum.elim (λ(C5:Tk)=>(Ak (⟨p.Bs,EL,p.DI⟩:Pr) Vb).bind λ(LX,E3)=>Sum.elim (λ(CK:Tk)=>(EI (⟨p.Bs,E3,p.DI⟩:Pr)).bind λ(Wh,JD)=>Sum.elim (λ(Di:Tk)=>cond (BY CI.text.data.toList OX.data.toList) ((F3 (⟨p.Bs,JD,p.DI⟩:Pr)).bind λ(Nb,G7)=>Sum.elim (λ(Iy:Tk)=>(Ev Iy.text).bind λy6=>(Ak (⟨p.Bs,G7,p.DI⟩:Pr) RL).bind λ(qV,RN)=>Sum.elim (λ(Vv:Tk)=>some ((Sum.inl (⟨3,C5.text,Di.text,y6,0,0,0,(⟨0,[]⟩:Fn),[],CI.AH⟩:Nd):(Nd⊕Dg)),RN)) (λ(PI:Dg)=>some ((Sum.inr PI:(Nd⊕Dg)),RN)) qV) (λ(Hc:Dg)=>some ((Sum.inr Hc:(Nd⊕Dg)),G7)) Nb) ((Ak (⟨p.Bs,JD,p.DI⟩:Pr) RL).bind λ(ZF,LN)=>Sum.elim (λ(G5:Tk)=>some ((Sum.inl (⟨2,C5.text,Di.text,0,0,0,0,(⟨0,[]⟩:Fn),[],CI.AH⟩:Nd):(Nd⊕Dg)),LN)) (λ(LM:Dg)=>some ((Sum.inr LM:(Nd⊕Dg)),LN)) ZF)) (λ(Ix:Dg)=>some ((Sum.inr Ix:(Nd⊕Dg)),JD)) Wh) (λ(Ez:Dg)=>some ((Sum.inr Ez:(Nd⊕Dg)),E3)) LX) (λ(Hb:Dg)=>some ((Sum.inr Hb:(Nd⊕Dg)),EL)) Ks) (λ(LW:Dg)=>some ((Sum.inr LW:(Nd⊕Dg)),p.J4)) y1
def D5{p:Pr}{yR:(Nd⊕Dg)}{Ai:Int}(h:Dz  p=some (yR,Ai)):pR mx 70 [.ptr 0 0] p (IY eN eD yR) Ai:=by
 unfold Dz at h;refine BW Hd.mixed (Au Tryz.func70 b70 ?_);revert h;refine Aq λy1 B7=>?_;refine Tc (λCI L5=>?_) λLW L5=>?_;subst L5;let o1:List (PC P (G mx)):=[Af (Ax (Ao B7) 0),pk];refine BS (λC5 EL D1=>?_) λHb EL D1=>?_;let o2:List (PC P (G mx)):=o1++[Af (Ie (D6 D1) 0)];refine BS (λCK E3 Fl=>?_) λEz E3 Fl=>?_;let o3:List (PC P (G mx)):=o2++[Af (Ie (Ab Fl) 0)];refine BS (λDi JD JM=>?_) λIx JD JM=>?_;let o4:List (PC P (G mx)):=o3++[Af (Ie (Ip JM) 0)];refine Ag (λAW=>?_) λAW=>?_;refine BS (λIy G7 J6=>?_) λHc G7 J6=>?_;refine Aq λy6 LS=>?_;let o5:List (PC P (G mx)):=o4++[pb AW,Af (Ie (JT J6) 0),AG (KV LS)];refine BS (λVv RN RU=>?_) λPI RN RU=>?_;refine Ew ?_;rintro rfl rfl;exact Aw Hd.Aa _ _ [⟨.agg [.zi 3,.zs C5.text,.zs Di.text,.zi y6,.zi 0,.zi 0,.zi 0,.zi 0,.sl .full 0 [],.sl .full 0 [],.zi CI.AH],.agg [.zi 3,.zs C5.text,.zs Di.text,.zi y6,.zi 0,.zi 0,.zi 0,.zi 0,.sl .lost ([].length) (rows IJ []),.sl .lost ([].length) (BH []),.zi CI.AH],(.wn (.g (.r (.r (.r (.r (.r (.r (.r (.r (.z (.z (.r .nil))))))))))) .nil) (AE.Cp (⟨3,C5.text,Di.text,y6,0,0,0,(⟨0,[]⟩:Fn),[],CI.AH⟩:Nd)))⟩] [pW p RN] (Ac 300 (o5++[Af (Ie (Ab RU) 0)])) (by kernel_rfl) .body;refine Ew ?_;rintro rfl rfl;exact H8 PI p RN (o5++[An (Ie (Ab RU) 0)]) .body;refine Ew ?_;rintro rfl rfl;exact H8 Hc p G7 (o4++[pb AW,An (Ie (JT J6) 0)]) .body;refine BS (λG5 LN NP=>?_) λLM LN NP=>?_;refine Ew ?_;rintro rfl rfl;exact Aw Hd.Aa _ _ [⟨.agg [.zi 2,.zs C5.text,.zs Di.text,.zi 0,.zi 0,.zi 0,.zi 0,.zi 0,.sl .full 0 [],.sl .full 0 [],.zi CI.AH],.agg [.zi 2,.zs C5.text,.zs Di.text,.zi 0,.zi 0,.zi 0,.zi 0,.zi 0,.sl .lost ([].length) (rows IJ []),.sl .lost ([].length) (BH []),.zi CI.AH],(.wn (.g (.r (.r (.r (.r (.r (.r (.r (.r (.z (.z (.r .nil))))))))))) .nil) (AE.Cp (⟨2,C5.text,Di.text,0,0,0,0,(⟨0,[]⟩:Fn),[],CI.AH⟩:Nd)))⟩] [pW p LN] (Ac 300 (o4++[pb AW,Af (Ie (Ab NP) 0)])) (by kernel_rfl) .body;refine Ew ?_;rintro rfl rfl;exact H8 LM p LN (o4++[pb AW,An (Ie (Ab NP) 0)]) .body;refine Ew ?_;rintro rfl rfl;exact H8 Ix p JD (o3++[An (Ie (Ip JM) 0)]) .body;refine Ew ?_;rintro rfl rfl;exact H8 Ez p E3 (o2++[An (Ie (Ab Fl) 0)]) .body;refine Ew ?_;rintro rfl rfl;exact H8 Hb p EL (o1++[An (Ie (D6 D1) 0)]) .body;subst L5;refine Ew ?_;rintro rfl rfl;exact BL Hd.Aa _ [gD LW] [bp (CM.pl p)] (Ac 300 [An (Ax (Ao B7) 0)]) (by kernel_rfl) .body
def aGS:Code:=A0 Tryz.f172
def aIL:Tryz.f172.body=some aGS:=by kernel_rfl
def Eo(token:Tk):Option Bool:=cond (CV token.kind 3) (some true) (some false)
def NC{token:Tk}{yR:Bool}(h:Eo  token=some yR):Pure P (G mx) 172 [.agg (Gz token)] (.zb yR):=by
 unfold Eo at h;refine CN Hd.mixed Hd.Aa (Au Tryz.func172 aIL ?_) (A1 (BM.Cp token) rfl) rfl;revert h;refine Ag (λAW=>?_) λAW=>?_;rintro⟨⟩;exact rT [pb AW];rintro⟨⟩;exact rT [pb AW]
def Hy(p:Pr):Option ((Tk⊕Dg)×Int):=(AD p).bind λy1=>Sum.elim (λ(CI:Tk)=>(Eo CI).bind λy2=>cond y2 (some ((Sum.inl CI:(Tk⊕Dg)),(Bt p.J4 1))) (some ((Sum.inr (⟨71,CI.AH⟩:Dg):(Tk⊕Dg)),p.J4))) (λ(LW:Dg)=>some ((Sum.inr LW:(Tk⊕Dg)),p.J4)) y1
def Jo{p:Pr}{yR:(Tk⊕Dg)}{Ai:Int}(h:Hy  p=some (yR,Ai)):pR mx 118 [.ptr 0 0,.fn (.func 172) [] []] p (IY eT eD yR) Ai:=by
 unfold Hy at h;refine BW Hd.mixed (Au Tryz.func118 cX ?_);revert h;refine Aq λy1 B7=>?_;refine Tc (λCI L5=>?_) λLW L5=>?_;subst L5;refine Aq λy2 D1=>?_;let o1:List (PC P (G mx)):=[Af (Ax (Ao B7) 0),AG (NC D1)];refine Ag (λhv=>?_) λhv=>?_;subst hv;rintro⟨⟩;exact Aw Hd.Aa _ _ [⟨.agg (Gz CI),.agg (Gz CI),(.plain (BM.Cp CI))⟩] [pW p (Bt p.J4 1)] (Ac 300 (o1++[pk])) (by kernel_rfl) .body;subst hv;rintro⟨⟩;exact BL Hd.Aa _ [⟨.ifc 45 (.agg [.zi 71,.zi CI.AH]),.ifc 45 (.agg [.zi 71,.zi CI.AH]),(.plain (Cm.Cp (⟨71,CI.AH⟩:Dg)))⟩] [bp (CM.pl p)] (Ac 300 (o1++[An (At (Am (p:=p) (err:=71) (at_:=CI.AH) rfl) 0)])) (by kernel_rfl) .body;subst L5;rintro⟨⟩;exact BL Hd.Aa _ [gD LW] [bp (CM.pl p)] (Ac 300 [An (Ax (Ao B7) 0)]) (by kernel_rfl) .body
def aGM:Code:=A0 Tryz.f155
def aIF:Tryz.f155.body=some aGM:=by kernel_rfl
def EQ(p:Pr):Option (((Int×Int)⊕Dg)×Int):=(Hy p).bind λ(Ej,Bj)=>Sum.elim (λ(Ay:Tk)=>(R0 Ay.text).bind λ(Ks,EL)=>some ((Sum.inl (Ks,Ay.AH):((Int×Int)⊕Dg)),Bj)) (λ(CT:Dg)=>some ((Sum.inr CT:((Int×Int)⊕Dg)),Bj)) Ej
def Fj{p:Pr}{yR:((Int×Int)⊕Dg)}{Ai:Int}(h:EQ  p=some (yR,Ai)):pR mx 155 [.ptr 0 0] p (IY eJ eD yR) Ai:=by
 unfold EQ at h;refine BW Hd.mixed (Au Tryz.func155 aIF ?_);revert h;refine BS (λAy Bj B7=>?_) λCT Bj B7=>?_;refine Aq ?_;rintro⟨Ks,EL⟩ D1;dsimp only;refine Ew ?_;rintro rfl rfl;exact Aw Hd.Aa _ _ [⟨.CZ [.zi Ks,.zi Ay.AH],.CZ [.zi Ks,.zi Ay.AH],(.plain (A1 rfl (A1 rfl rfl)))⟩] [pW p Bj] (Ac 300 [Af (Ie (Jo B7) 0),AG (rC D1)]) (by kernel_rfl) .body;refine Ew ?_;rintro rfl rfl;exact H8 CT p Bj [An (Ie (Jo B7) 0)] .body
def aGB:Code:=A0 Tryz.f124
def aHQ:Tryz.f124.body=some aGB:=by kernel_rfl
def AL(p:Pr)(least:Int):Option (((Int×Int)⊕Dg)×Int):=(EQ p).bind λ(Ej,Bj)=>Sum.elim (λ(Ay:(Int×Int))=>cond (Et Ay.1 least) (some ((Sum.inr (⟨3,Ay.2⟩:Dg):((Int×Int)⊕Dg)),Bj)) (cond (Et 1000000 Ay.1) (some ((Sum.inr (⟨3,Ay.2⟩:Dg):((Int×Int)⊕Dg)),Bj)) (some ((Sum.inl (Ay.1,Ay.2):((Int×Int)⊕Dg)),Bj)))) (λ(CT:Dg)=>some ((Sum.inr CT:((Int×Int)⊕Dg)),Bj)) Ej
def Al{p:Pr}{least:Int}{yR:((Int×Int)⊕Dg)}{Ai:Int}(h:AL  p least=some (yR,Ai)):pR mx 124 [.ptr 0 0,.zi least] p (IY eJ eD yR) Ai:=by
 unfold AL at h;refine BW Hd.mixed (Au Tryz.func124 aHQ ?_);revert h;refine BS (λAy Bj B7=>?_) λCT Bj B7=>?_;let o1:List (PC P (G mx)):=[Af (Nj (Fj B7) 0)];refine Ag (λAW=>?_) λAW=>?_;refine Ew ?_;rintro rfl rfl;exact BL Hd.Aa _ [⟨.ifc 45 (.agg [.zi 3,.zi Ay.2]),.ifc 45 (.agg [.zi 3,.zi Ay.2]),(.plain (Cm.Cp (⟨3,Ay.2⟩:Dg)))⟩] [pW p Bj] (Ac 300 (o1++[pb AW,An (At (Am (p:=(⟨p.Bs,Bj,p.DI⟩:Pr)) (err:=3) (at_:=Ay.2) rfl) 0)])) (by kernel_rfl) .body;refine Ag (λhb2=>?_) λhb2=>?_;refine Ew ?_;rintro rfl rfl;exact BL Hd.Aa _ [⟨.ifc 45 (.agg [.zi 3,.zi Ay.2]),.ifc 45 (.agg [.zi 3,.zi Ay.2]),(.plain (Cm.Cp (⟨3,Ay.2⟩:Dg)))⟩] [pW p Bj] (Ac 300 (o1++[pb AW,pb hb2,An (At (Am (p:=(⟨p.Bs,Bj,p.DI⟩:Pr)) (err:=3) (at_:=Ay.2) rfl) 0)])) (by kernel_rfl) .body;refine Ew ?_;rintro rfl rfl;exact Aw Hd.Aa _ _ [⟨.CZ [.zi Ay.1,.zi Ay.2],.CZ [.zi Ay.1,.zi Ay.2],(.plain (A1 rfl (A1 rfl rfl)))⟩] [pW p Bj] (Ac 300 (o1++[pb AW,pb hb2])) (by kernel_rfl) .body;refine Ew ?_;rintro rfl rfl;exact H8 CT p Bj [An (Nj (Fj B7) 0)] .body
def B37:Code:=A0 Tryz.f37
def b37:Tryz.f37.body=some B37:=by kernel_rfl
def As(p:Pr)(text:ByteArray):Option Bool:=cond (Et p.J4 ((p.Bs.length:Nat):Int)) ((Hu p.Bs p.J4).bind λx1=>(some (BY x1.text.data.toList text.data.toList)).bind λq2=>some q2) (some false)
def Ah{p:Pr}{text:ByteArray}{yR:Bool}(h:As  p text=some yR):Sound P (G mx) (.call 37 [.ptr 0 0,.zs text] (pZ p) (.ret (.zb yR)) (pZ p)):=by
 unfold As at h;refine BW Hd.mixed (Au Tryz.func37 b37 ?_);revert h;refine Ag (λAW=>?_) λAW=>?_;refine Aq λx1 wP=>?_;refine Aq λq2 ZH=>?_;rintro⟨⟩;exact Aw Hd.Aa _ _ [] [bp (CM.pl p)] (Ac 300 [pb AW,Jp (aeB .lost wP),ND (aFS ZH (.tmp 26) (.tmp 27))]) (by kernel_rfl) .body;rintro⟨⟩;exact Aw Hd.Aa _ _ [] [bp (CM.pl p)] (Ac 300 [pb AW]) (by kernel_rfl) .body
def aGT:Code:=A0 Tryz.f174
def aIM:Tryz.f174.body=some aGT:=by kernel_rfl
def EP(token:Tk):Option Bool:=cond (CV token.kind 5) (some true) (some false)
def OL{token:Tk}{yR:Bool}(h:EP  token=some yR):Pure P (G mx) 174 [.agg (Gz token)] (.zb yR):=by
 unfold EP at h;refine CN Hd.mixed Hd.Aa (Au Tryz.func174 aIM ?_) (A1 (BM.Cp token) rfl) rfl;revert h;refine Ag (λAW=>?_) λAW=>?_;rintro⟨⟩;exact rT [pb AW];rintro⟨⟩;exact rT [pb AW]
def aGX:Code:=A0 Tryz.f212
def aIS:Tryz.f212.body=some aGX:=by kernel_rfl
def Gg(year:Int)(month:Int):Option Int:=(Hu beforeL (Bt month 1)).bind λx1=>(Hu beforeL month).bind λx2=>cond (CV month 1) (cond (CV (mB year 4) 0) (some (Bt (LV x1 x2) 1)) (some (LV x1 x2))) (some (LV x1 x2))
def QI{year:Int}{month:Int}{yR:Int}(h:Gg  year month=some yR):Pure P (G mx) 212 [.zi year,.zi month] (.zi yR):=by
 unfold Gg at h;refine CN Hd.mixed Hd.Aa (Au Tryz.func212 aIS ?_) (A1 rfl (A1 rfl rfl)) rfl;revert h;refine Aq λx1 wP=>?_;refine Aq λx2 hx2=>?_;let o1:List (PC P (G mx)):=[pk,Jp (oY wP),Jp (oY hx2),pk];refine Ag (λAW=>?_) λAW=>?_;refine Ag (λhb2=>?_) λhb2=>?_;rintro⟨⟩;exact rT (o1++[pb AW,pk,pb hb2,pk]);rintro⟨⟩;exact rT (o1++[pb AW,pk,pb hb2]);rintro⟨⟩;exact rT (o1++[pb AW])
def aHB:Code:=A0 Tryz.f227
def aIX:Tryz.f227.body=some aHB:=by kernel_rfl
def JH(year:Int):Option Int:=some (Bt (BQ (LV year 2000) 365) (zF (Bt (LV year 2000) 3) 4))
def PS{year:Int}{yR:Int}(h:JH  year=some yR):Pure P (G mx) 227 [.zi year] (.zi yR):=by
 unfold JH at h;refine CN Hd.mixed Hd.Aa (Au Tryz.func227 aIX ?_) (A1 rfl rfl) rfl;revert h;rintro⟨⟩;exact rT [pk,pk,pk,pk,pk]
def aGY:Code:=A0 Tryz.f213
def aIT:Tryz.f213.body=some aGY:=by kernel_rfl
def Ih(month:Int):Option Int:=cond (Et month 0) (some (-1)) (cond (Et 1199 month) (some (-1)) ((JH (Bt 2000 (zF month 12))).bind λy1=>(Hu beforeL (mB month 12)).bind λx2=>cond (Et 1 (mB month 12)) (cond (CV (mB (Bt 2000 (zF month 12)) 4) 0) (some (Bt (Bt y1 x2) 1)) (some (Bt y1 x2))) (some (Bt y1 x2))))
def S3{month:Int}{yR:Int}(h:Ih  month=some yR):Pure P (G mx) 213 [.zi month] (.zi yR):=by
 unfold Ih at h;refine CN Hd.mixed Hd.Aa (Au Tryz.func213 aIT ?_) (A1 rfl rfl) rfl;revert h;refine Ag (λAW=>?_) λAW=>?_;rintro⟨⟩;exact rT [pb AW];refine Ag (λhb2=>?_) λhb2=>?_;rintro⟨⟩;exact rT [pb AW,pb hb2];refine Aq λy1 B7=>?_;refine Aq λx2 hx2=>?_;let o1:List (PC P (G mx)):=[pb AW,pb hb2,pk,pk,AG (PS B7),pk,Jp (oY hx2),pk,pk];refine Ag (λhb3=>?_) λhb3=>?_;refine Ag (λFe=>?_) λFe=>?_;rintro⟨⟩;exact rT (o1++[pb hb3,pk,pb Fe,pk]);rintro⟨⟩;exact rT (o1++[pb hb3,pk,pb Fe]);rintro⟨⟩;exact rT (o1++[pb hb3])
def aGV:Code:=A0 Tryz.f195
def aIQ:Tryz.f195.body=some aGV:=by kernel_rfl
def JG(year:Int)(month:Int)(day:Int):Option (Int×Int):=cond (Et year 2000) (some (0,21)) (cond (Et 2099 year) (some (0,21)) (cond (Et month 1) (some (0,21)) (cond (Et 12 month) (some (0,21)) (cond (Et day 1) (some (0,21)) ((Gg year (LV month 1)).bind λy1=>cond (Et y1 day) (some (0,21)) ((Ih (LV (Bt (BQ (LV year 2000) 12) month) 1)).bind λy2=>some ((LV (Bt y2 day) 1),0)))))))
def UF{year:Int}{month:Int}{day:Int}{yR:(Int×Int)}(h:JG  year month day=some yR):Pure P (G mx) 195 [.zi year,.zi month,.zi day] (.CZ [.zi yR.1,.zi yR.2]):=by
 unfold JG at h;refine CN Hd.mixed Hd.Aa (Au Tryz.func195 aIQ ?_) (A1 rfl (A1 rfl (A1 rfl rfl))) (A1 rfl (A1 rfl rfl));revert h;refine Ag (λAW=>?_) λAW=>?_;rintro⟨⟩;exact AA _ _ (Ac 300 [pb AW]) (by kernel_rfl) .body (.plain (A1 rfl (A1 rfl rfl)));refine Ag (λhb2=>?_) λhb2=>?_;rintro⟨⟩;exact AA _ _ (Ac 300 [pb AW,pb hb2]) (by kernel_rfl) .body (.plain (A1 rfl (A1 rfl rfl)));refine Ag (λhb3=>?_) λhb3=>?_;rintro⟨⟩;exact AA _ _ (Ac 300 [pb AW,pb hb2,pb hb3]) (by kernel_rfl) .body (.plain (A1 rfl (A1 rfl rfl)));refine Ag (λFe=>?_) λFe=>?_;rintro⟨⟩;exact AA _ _ (Ac 300 [pb AW,pb hb2,pb hb3,pb Fe]) (by kernel_rfl) .body (.plain (A1 rfl (A1 rfl rfl)));refine Ag (λHw=>?_) λHw=>?_;rintro⟨⟩;exact AA _ _ (Ac 300 [pb AW,pb hb2,pb hb3,pb Fe,pb Hw]) (by kernel_rfl) .body (.plain (A1 rfl (A1 rfl rfl)));refine Aq λy1 B7=>?_;let o1:List (PC P (G mx)):=[pb AW,pb hb2,pb hb3,pb Fe,pb Hw,pk,AG (QI B7)];refine Ag (λIG=>?_) λIG=>?_;rintro⟨⟩;exact AA _ _ (Ac 300 (o1++[pb IG])) (by kernel_rfl) .body (.plain (A1 rfl (A1 rfl rfl)));refine Aq λy2 D1=>?_;rintro⟨⟩;exact AA _ _ (Ac 300 (o1++[pb IG,pk,pk,pk,pk,AG (S3 D1),pk,pk])) (by kernel_rfl) .body (.plain (A1 rfl (A1 rfl rfl)))
def auR:Code:=A0 Tryz.f175
def aIN:Tryz.f175.body=some auR:=by kernel_rfl
def B5(i0:Nat)(e0:UInt8)(K8:Int)(E6:Int)(BB:Int)(Vp:Int):Option (Lp (Int×Int×Int×Int) (Int×Int×Int) (Int×Int)):=cond (CV ((i0:Nat):Int) 4) (cond (CV ((e0.toNat:Nat):Int) 45) (some (.nx ((Bt K8 1),E6,BB,Vp))) (some (.rt (0,12)))) (cond (CV ((i0:Nat):Int) 7) (cond (CV ((e0.toNat:Nat):Int) 45) (some (.nx ((Bt K8 1),E6,BB,Vp))) (some (.rt (0,12)))) (cond (Et ((e0.toNat:Nat):Int) 48) (some (.rt (0,12))) (cond (Et 57 ((e0.toNat:Nat):Int)) (some (.rt (0,12))) (cond (CV K8 0) (some (.nx (K8,(Bt (BQ E6 10) (w64 (Nl .u8 (fN ((e0.toNat:Nat):Int) 48)))),BB,Vp))) (cond (CV K8 1) (some (.nx (K8,E6,(Bt (BQ BB 10) (w64 (Nl .u8 (fN ((e0.toNat:Nat):Int) 48)))),Vp))) (cond (CV K8 2) (some (.nx (K8,E6,BB,(Bt (BQ Vp 10) (w64 (Nl .u8 (fN ((e0.toNat:Nat):Int) 48))))))) (none)))))))
def Fs(text:ByteArray):Option (Int×Int):=cond (CV ((text.data.toList.length:Nat):Int) 10) ((Rt text.data.toList.length (CL (λi y x=>B5   i y x.1 x.2.1 x.2.2.1 x.2.2.2) (λx=>(x.2.1,x.2.2.1,x.2.2.2)) (text.data.toList.drop 0) 0 (0,0,0,0))).bind (LZ (λ((aiW,aiX,aiZ):(Int×Int×Int))=>(JG aiW aiX aiZ).bind λ(Ks,EL)=>some (Ks,EL)) (λv=>some v))) (some (0,12))
def S4{text:ByteArray}{yR:(Int×Int)}(h:Fs  text=some yR):Pure P (G mx) 175 [.zs text] (.CZ [.zi yR.1,.zi yR.2]):=by
 unfold Fs at h;refine CN Hd.mixed Hd.Aa (Au Tryz.func175 aIN ?_) (A1 rfl rfl) (A1 rfl (A1 rfl rfl));revert h;refine Ag (λAW=>?_) λAW=>?_;refine RF (λQ v=>Ku P Tryz.f175 0 Q (.CZ [.zi v.1,.zi v.2])) (λi0 ((K8,E6,BB,Vp):(Int×Int×Int×Int)) (j0:List Value)=>fr 58 [(0,.zs text),(4,.ptr 0 0),(5,.zi K8),(13,.zi ((text.data.toList.length:Nat):Int)),(14,.zi ((i0:Nat):Int))] [10,15,30,32,33,35,36,38,41,43,44,46,47] j0) (λ((K8,E6,BB,Vp):(Int×Int×Int×Int))=>⟨[(0,.cells [.zi E6,.zi BB,.zi Vp])],1,[],0⟩) (λ((E6,BB,Vp):(Int×Int×Int)) (jx:List Value)=>fr 58 [(4,.ptr 0 0)] [10,15,30,32,33,35,36,38,41,43,44,46,47] jx) (λ((E6,BB,Vp):(Int×Int×Int))=>⟨[(0,.cells [.zi E6,.zi BB,.zi Vp])],1,[],0⟩) [bF] (G4 [] 0 (sb auR 500) [.code (sb auR 63)] (Ac 300 [pn AW]) (by kernel_rfl)) ?_ ?_ ?_ (λv h=>by cases h;exact .outer .body);rintro i0 ⟨K8,E6,BB,Vp⟩ j0 hge hq;exact Dx (Ac 300 [pb (gM hge)]) (by kernel_rfl) (hq (js 13 j0 [(1,bF)]));rintro i0 e0 ⟨K8,E6,BB,Vp⟩ j0 r PX OU PK k;show B5   i0 e0 K8 E6 BB Vp=some r->_;unfold B5;let o1:List (PC P (G mx)):=[pb (Xo OU),Sl (WX PX)];refine Ag (λhb2=>?_) λhb2=>?_;refine Ag (λhb3=>?_) λhb3=>?_;rintro⟨⟩;exact G6 (Ac 300 (o1++[pb hb2,pn hb3,pk,pi PK])) (by kernel_rfl) (k (js 13 j0 [(1,bT),(2,bT),(3,bT),(4,bT),(5,undef),(6,bT),(7,bF)]));rintro⟨⟩;exact AA _ _ (Ac 300 (o1++[pb hb2,pn hb3])) (by kernel_rfl) (.Gb k) (.plain (A1 rfl (A1 rfl rfl)));refine Ag (λFe=>?_) λFe=>?_;refine Ag (λHw=>?_) λHw=>?_;rintro⟨⟩;exact G6 (Ac 300 (o1++[pb hb2,pb Fe,pn Hw,pk,pi PK])) (by kernel_rfl) (k (js 13 j0 [(1,bT),(2,bT),(3,bF),(4,bF),(5,bT),(6,bT),(7,bF)]));rintro⟨⟩;exact AA _ _ (Ac 300 (o1++[pb hb2,pb Fe,pn Hw])) (by kernel_rfl) (.Gb k) (.plain (A1 rfl (A1 rfl rfl)));refine Ag (λIG=>?_) λIG=>?_;rintro⟨⟩;exact AA _ _ (Ac 300 (o1++[pb hb2,pb Fe,pb IG])) (by kernel_rfl) (.Gb k) (.plain (A1 rfl (A1 rfl rfl)));refine Ag (λI4=>?_) λI4=>?_;rintro⟨⟩;exact AA _ _ (Ac 300 (o1++[pb hb2,pb Fe,pb IG,pb I4])) (by kernel_rfl) (.Gb k) (.plain (A1 rfl (A1 rfl rfl)));refine Ag (λKp=>?_) λKp=>?_;rintro⟨⟩;exact G6 (Ac 300 (o1++[pb hb2,pb Fe,pb IG,pb I4,Jp (t:=173) (a:=.ptr 0 0) (b:=.zi K8) (v:=.ptr 0 0) (by rw[E8 Kp];kernel_rfl),pk,pk,pk,Jp (t:=173) (a:=.ptr 0 0) (b:=.zi K8) (v:=.ptr 0 0) (by rw[E8 Kp];kernel_rfl),pi PK])) (by kernel_rfl) (k [(jv j0 0),bT,bF,bF,bF,bF,bF,(jv j0 7),bF,bF,bF,bF,bF]);refine Ag (λKi=>?_) λKi=>?_;rintro⟨⟩;exact G6 (Ac 300 (o1++[pb hb2,pb Fe,pb IG,pb I4,Jp (t:=173) (a:=.ptr 0 0) (b:=.zi K8) (v:=.ptr 0 1) (by rw[E8 Ki];kernel_rfl),pk,pk,pk,Jp (t:=173) (a:=.ptr 0 0) (b:=.zi K8) (v:=.ptr 0 1) (by rw[E8 Ki];kernel_rfl),pi PK])) (by kernel_rfl) (k [(jv j0 0),bT,bF,bF,bF,bF,bF,(jv j0 7),bF,bF,bF,bF,bF]);refine Ag (λGI=>?_) λGI=>?_;rintro⟨⟩;exact G6 (Ac 300 (o1++[pb hb2,pb Fe,pb IG,pb I4,Jp (t:=173) (a:=.ptr 0 0) (b:=.zi K8) (v:=.ptr 0 2) (by rw[E8 GI];kernel_rfl),pk,pk,pk,Jp (t:=173) (a:=.ptr 0 0) (b:=.zi K8) (v:=.ptr 0 2) (by rw[E8 GI];kernel_rfl),pi PK])) (by kernel_rfl) (k [(jv j0 0),bT,bF,bF,bF,bF,bF,(jv j0 7),bF,bF,bF,bF,bF]);exact eR;rintro⟨aiW,aiX,aiZ⟩ aLU;dsimp only;refine Aq ?_;rintro⟨Ks,EL⟩ D1;dsimp only;rintro⟨⟩;exact AA _ _ (IN 300 [pk,pk,pk,AG (UF D1)]) (by kernel_rfl) .body (.plain (A1 rfl (A1 rfl rfl)));rintro⟨⟩;exact AA _ _ (Ac 300 [pn AW]) (by kernel_rfl) .body (.plain (A1 rfl (A1 rfl rfl)))
def G8(p:Pr):Option ((Tk⊕Dg)×Int):=(AD p).bind λy1=>Sum.elim (λ(CI:Tk)=>(EP CI).bind λy2=>cond y2 (some ((Sum.inl CI:(Tk⊕Dg)),(Bt p.J4 1))) (some ((Sum.inr (⟨71,CI.AH⟩:Dg):(Tk⊕Dg)),p.J4))) (λ(LW:Dg)=>some ((Sum.inr LW:(Tk⊕Dg)),p.J4)) y1
def IU{p:Pr}{yR:(Tk⊕Dg)}{Ai:Int}(h:G8  p=some (yR,Ai)):pR mx 118 [.ptr 0 0,.fn (.func 174) [] []] p (IY eT eD yR) Ai:=by
 unfold G8 at h;refine BW Hd.mixed (Au Tryz.func118 cX ?_);revert h;refine Aq λy1 B7=>?_;refine Tc (λCI L5=>?_) λLW L5=>?_;subst L5;refine Aq λy2 D1=>?_;let o1:List (PC P (G mx)):=[Af (Ax (Ao B7) 0),AG (OL D1)];refine Ag (λhv=>?_) λhv=>?_;subst hv;rintro⟨⟩;exact Aw Hd.Aa _ _ [⟨.agg (Gz CI),.agg (Gz CI),(.plain (BM.Cp CI))⟩] [pW p (Bt p.J4 1)] (Ac 300 (o1++[pk])) (by kernel_rfl) .body;subst hv;rintro⟨⟩;exact BL Hd.Aa _ [⟨.ifc 45 (.agg [.zi 71,.zi CI.AH]),.ifc 45 (.agg [.zi 71,.zi CI.AH]),(.plain (Cm.Cp (⟨71,CI.AH⟩:Dg)))⟩] [bp (CM.pl p)] (Ac 300 (o1++[An (At (Am (p:=p) (err:=71) (at_:=CI.AH) rfl) 0)])) (by kernel_rfl) .body;subst L5;rintro⟨⟩;exact BL Hd.Aa _ [gD LW] [bp (CM.pl p)] (Ac 300 [An (Ax (Ao B7) 0)]) (by kernel_rfl) .body
def aGN:Code:=A0 Tryz.f156
def aIG:Tryz.f156.body=some aGN:=by kernel_rfl
def DU(p:Pr)(least:Int):Option ((Int⊕Dg)×Int):=(G8 p).bind λ(Ej,Bj)=>Sum.elim (λ(Ay:Tk)=>(Fs Ay.text).bind λ(Ks,EL)=>cond (CV EL 0) (cond (Et Ks least) (some ((Sum.inr (⟨21,Ay.AH⟩:Dg):(Int⊕Dg)),Bj)) (some ((Sum.inl Ks:(Int⊕Dg)),Bj))) (some ((Sum.inr (⟨21,Ay.AH⟩:Dg):(Int⊕Dg)),Bj))) (λ(CT:Dg)=>some ((Sum.inr CT:(Int⊕Dg)),Bj)) Ej
def CH{p:Pr}{least:Int}{yR:(Int⊕Dg)}{Ai:Int}(h:DU  p least=some (yR,Ai)):pR mx 156 [.ptr 0 0,.zi least] p (IY eI eD yR) Ai:=by
 unfold DU at h;refine BW Hd.mixed (Au Tryz.func156 aIG ?_);revert h;refine BS (λAy Bj B7=>?_) λCT Bj B7=>?_;refine Aq ?_;rintro⟨Ks,EL⟩ D1;dsimp only;let o1:List (PC P (G mx)):=[Af (Ie (IU B7) 0),AG (S4 D1)];refine Ag (λAW=>?_) λAW=>?_;refine Ag (λhb2=>?_) λhb2=>?_;refine Ew ?_;rintro rfl rfl;exact BL Hd.Aa _ [⟨.ifc 45 (.agg [.zi 21,.zi Ay.AH]),.ifc 45 (.agg [.zi 21,.zi Ay.AH]),(.plain (Cm.Cp (⟨21,Ay.AH⟩:Dg)))⟩] [pW p Bj] (Ac 300 (o1++[pn AW,pb hb2,An (At (Am (p:=(⟨p.Bs,Bj,p.DI⟩:Pr)) (err:=21) (at_:=Ay.AH) rfl) 0)])) (by kernel_rfl) .body;refine Ew ?_;rintro rfl rfl;exact Aw Hd.Aa _ _ [] [pW p Bj] (Ac 300 (o1++[pn AW,pb hb2])) (by kernel_rfl) .body;refine Ew ?_;rintro rfl rfl;exact BL Hd.Aa _ [⟨.ifc 45 (.agg [.zi 21,.zi Ay.AH]),.ifc 45 (.agg [.zi 21,.zi Ay.AH]),(.plain (Cm.Cp (⟨21,Ay.AH⟩:Dg)))⟩] [pW p Bj] (Ac 300 (o1++[pn AW,An (At (Am (p:=(⟨p.Bs,Bj,p.DI⟩:Pr)) (err:=21) (at_:=Ay.AH) rfl) 0)])) (by kernel_rfl) .body;refine Ew ?_;rintro rfl rfl;exact H8 CT p Bj [An (Ie (IU B7) 0)] .body
def aGC:Code:=A0 Tryz.f125
def aHR:Tryz.f125.body=some aGC:=by kernel_rfl
def Hm(p:Pr):Option ((Nd⊕Dg)×Int):=(Ak p tM).bind λ(Ej,Bj)=>Sum.elim (λ(Ay:Tk)=>(AL (⟨p.Bs,Bj,p.DI⟩:Pr) 0).bind λ(Ks,EL)=>Sum.elim (λ(C5:(Int×Int))=>(Ak (⟨p.Bs,EL,p.DI⟩:Pr) rW).bind λ(LX,E3)=>Sum.elim (λ(CK:Tk)=>(DU (⟨p.Bs,E3,p.DI⟩:Pr) 0).bind λ(Wh,JD)=>Sum.elim (λ(Di:Int)=>(As (⟨p.Bs,JD,p.DI⟩:Pr) toS).bind λy5=>cond y5 ((DU (⟨p.Bs,(Bt JD 1),p.DI⟩:Pr) (Bt Di 1)).bind λ(ZJ,NL)=>Sum.elim (λ(Je:Int)=>(Ak (⟨p.Bs,NL,p.DI⟩:Pr) VN).bind λ(qV,RN)=>Sum.elim (λ(Vv:Tk)=>(DU (⟨p.Bs,RN,p.DI⟩:Pr) 0).bind λ(ZF,LN)=>Sum.elim (λ(G5:Int)=>some ((Sum.inl (⟨5,ByteArray.empty,ByteArray.empty,C5.1,Di,Je,G5,(⟨0,[]⟩:Fn),[],Ay.AH⟩:Nd):(Nd⊕Dg)),LN)) (λ(LM:Dg)=>some ((Sum.inr LM:(Nd⊕Dg)),LN)) ZF) (λ(PI:Dg)=>some ((Sum.inr PI:(Nd⊕Dg)),RN)) qV) (λ(Nc:Dg)=>some ((Sum.inr Nc:(Nd⊕Dg)),NL)) ZJ) ((Ak (⟨p.Bs,JD,p.DI⟩:Pr) VN).bind λ(nD,Vw)=>Sum.elim (λ(Xc:Tk)=>(DU (⟨p.Bs,Vw,p.DI⟩:Pr) 0).bind λ(ZB,KW)=>Sum.elim (λ(J3:Int)=>some ((Sum.inl (⟨5,ByteArray.empty,ByteArray.empty,C5.1,Di,36525,J3,(⟨0,[]⟩:Fn),[],Ay.AH⟩:Nd):(Nd⊕Dg)),KW)) (λ(ZC:Dg)=>some ((Sum.inr ZC:(Nd⊕Dg)),KW)) ZB) (λ(ZG:Dg)=>some ((Sum.inr ZG:(Nd⊕Dg)),Vw)) nD)) (λ(Ix:Dg)=>some ((Sum.inr Ix:(Nd⊕Dg)),JD)) Wh) (λ(Ez:Dg)=>some ((Sum.inr Ez:(Nd⊕Dg)),E3)) LX) (λ(Hb:Dg)=>some ((Sum.inr Hb:(Nd⊕Dg)),EL)) Ks) (λ(CT:Dg)=>some ((Sum.inr CT:(Nd⊕Dg)),Bj)) Ej
def K6{p:Pr}{yR:(Nd⊕Dg)}{Ai:Int}(h:Hm  p=some (yR,Ai)):pR mx 125 [.ptr 0 0] p (IY eN eD yR) Ai:=by
 unfold Hm at h;refine BW Hd.mixed (Au Tryz.func125 aHR ?_);revert h;refine BS (λAy Bj B7=>?_) λCT Bj B7=>?_;let o1:List (PC P (G mx)):=[Af (Ie (Ab B7) 0)];refine BS (λC5 EL D1=>?_) λHb EL D1=>?_;let o2:List (PC P (G mx)):=o1++[Af (Nj (Al D1) 0)];refine BS (λCK E3 Fl=>?_) λEz E3 Fl=>?_;let o3:List (PC P (G mx)):=o2++[Af (Ie (Ab Fl) 0)];refine BS (λDi JD JM=>?_) λIx JD JM=>?_;refine Aq λy5 J6=>?_;let o4:List (PC P (G mx)):=o3++[Af (bA (CH JM) 0),Af (Oq (Ah J6) 0)];refine Ag (λhv=>?_) λhv=>?_;subst hv;refine BS (λJe NL LS=>?_) λNc NL LS=>?_;let o5:List (PC P (G mx)):=o4++[pk,pk,Af (bA (CH LS) 0)];refine BS (λVv RN RU=>?_) λPI RN RU=>?_;refine BS (λG5 LN NP=>?_) λLM LN NP=>?_;refine Ew ?_;rintro rfl rfl;exact Aw Hd.Aa _ _ [⟨.agg [.zi 5,.zs ByteArray.empty,.zs ByteArray.empty,.zi C5.1,.zi Di,.zi Je,.zi G5,.zi 0,.sl .full 0 [],.sl .full 0 [],.zi Ay.AH],.agg [.zi 5,.zs ByteArray.empty,.zs ByteArray.empty,.zi C5.1,.zi Di,.zi Je,.zi G5,.zi 0,.sl .lost ([].length) (rows IJ []),.sl .lost ([].length) (BH []),.zi Ay.AH],(.wn (.g (.r (.r (.r (.r (.r (.r (.r (.r (.z (.z (.r .nil))))))))))) .nil) (AE.Cp (⟨5,ByteArray.empty,ByteArray.empty,C5.1,Di,Je,G5,(⟨0,[]⟩:Fn),[],Ay.AH⟩:Nd)))⟩] [pW p LN] (Ac 300 (o5++[Af (Ie (Ab RU) 0),Af (bA (CH NP) 0)])) (by kernel_rfl) .body;refine Ew ?_;rintro rfl rfl;exact H8 LM p LN (o5++[Af (Ie (Ab RU) 0),An (bA (CH NP) 0)]) .body;refine Ew ?_;rintro rfl rfl;exact H8 PI p RN (o5++[An (Ie (Ab RU) 0)]) .body;refine Ew ?_;rintro rfl rfl;exact H8 Nc p NL (o4++[pk,pk,An (bA (CH LS) 0)]) .body;subst hv;refine BS (λXc Vw UR=>?_) λZG Vw UR=>?_;refine BS (λJ3 KW P0=>?_) λZC KW P0=>?_;refine Ew ?_;rintro rfl rfl;exact Aw Hd.Aa _ _ [⟨.agg [.zi 5,.zs ByteArray.empty,.zs ByteArray.empty,.zi C5.1,.zi Di,.zi 36525,.zi J3,.zi 0,.sl .full 0 [],.sl .full 0 [],.zi Ay.AH],.agg [.zi 5,.zs ByteArray.empty,.zs ByteArray.empty,.zi C5.1,.zi Di,.zi 36525,.zi J3,.zi 0,.sl .lost ([].length) (rows IJ []),.sl .lost ([].length) (BH []),.zi Ay.AH],(.wn (.g (.r (.r (.r (.r (.r (.r (.r (.r (.z (.z (.r .nil))))))))))) .nil) (AE.Cp (⟨5,ByteArray.empty,ByteArray.empty,C5.1,Di,36525,J3,(⟨0,[]⟩:Fn),[],Ay.AH⟩:Nd)))⟩] [pW p KW] (Ac 300 (o4++[Af (Ie (Ab UR) 0),Af (bA (CH P0) 0)])) (by kernel_rfl) .body;refine Ew ?_;rintro rfl rfl;exact H8 ZC p KW (o4++[Af (Ie (Ab UR) 0),An (bA (CH P0) 0)]) .body;refine Ew ?_;rintro rfl rfl;exact H8 ZG p Vw (o4++[An (Ie (Ab UR) 0)]) .body;refine Ew ?_;rintro rfl rfl;exact H8 Ix p JD (o3++[An (bA (CH JM) 0)]) .body;refine Ew ?_;rintro rfl rfl;exact H8 Ez p E3 (o2++[An (Ie (Ab Fl) 0)]) .body;refine Ew ?_;rintro rfl rfl;exact H8 Hb p EL (o1++[An (Nj (Al D1) 0)]) .body;refine Ew ?_;rintro rfl rfl;exact H8 CT p Bj [An (Ie (Ab B7) 0)] .body
def aGP:Code:=A0 Tryz.f160
def aII:Tryz.f160.body=some aGP:=by kernel_rfl
def D4(token:Tk):Option Bool:=cond (CV token.kind 4) (some true) (some false)
def OK{token:Tk}{yR:Bool}(h:D4  token=some yR):Pure P (G mx) 160 [.agg (Gz token)] (.zb yR):=by
 unfold D4 at h;refine CN Hd.mixed Hd.Aa (Au Tryz.func160 aII ?_) (A1 (BM.Cp token) rfl) rfl;revert h;refine Ag (λAW=>?_) λAW=>?_;rintro⟨⟩;exact rT [pb AW];rintro⟨⟩;exact rT [pb AW]
def aGQ:Code:=A0 Tryz.f161
def aIJ:Tryz.f161.body=some aGQ:=by kernel_rfl
def Cr(token:Tk):Option Int:=(JX token.text azC ByteArray.empty 1).bind λy1=>(R0 y1).bind λ(Ks,EL)=>some Ks
def OY{token:Tk}{yR:Int}(h:Cr  token=some yR):Pure P (G mx) 161 [.agg (Gz token)] (.zi yR):=by
 unfold Cr at h;refine CN Hd.mixed Hd.Aa (Au Tryz.func161 aIJ ?_) (A1 (BM.Cp token) rfl) rfl;revert h;refine Aq λy1 B7=>?_;refine Aq ?_;rintro⟨Ks,EL⟩ D1;dsimp only;rintro⟨⟩;exact rT [AG (fE B7),AG (rC D1)]
def aHC:Code:=A0 Tryz.f228
def aIY:Tryz.f228.body=some aHC:=by kernel_rfl
def Df(token:Tk):Option Bool:=cond (CV token.kind 4) (some true) (cond (CV token.kind 3) (some true) (some false))
def On{token:Tk}{yR:Bool}(h:Df  token=some yR):Pure P (G mx) 228 [.agg (Gz token)] (.zb yR):=by
 unfold Df at h;refine CN Hd.mixed Hd.Aa (Au Tryz.func228 aIY ?_) (A1 (BM.Cp token) rfl) rfl;revert h;refine Ag (λAW=>?_) λAW=>?_;rintro⟨⟩;exact rT [pb AW];refine Ag (λhb2=>?_) λhb2=>?_;rintro⟨⟩;exact rT [pb AW,pb hb2];rintro⟨⟩;exact rT [pb AW,pb hb2]
def GN(p:Pr):Option ((Tk⊕Dg)×Int):=(AD p).bind λy1=>Sum.elim (λ(CI:Tk)=>(Df CI).bind λy2=>cond y2 (some ((Sum.inl CI:(Tk⊕Dg)),(Bt p.J4 1))) (some ((Sum.inr (⟨71,CI.AH⟩:Dg):(Tk⊕Dg)),p.J4))) (λ(LW:Dg)=>some ((Sum.inr LW:(Tk⊕Dg)),p.J4)) y1
def IE{p:Pr}{yR:(Tk⊕Dg)}{Ai:Int}(h:GN  p=some (yR,Ai)):pR mx 118 [.ptr 0 0,.fn (.func 228) [] []] p (IY eT eD yR) Ai:=by
 unfold GN at h;refine BW Hd.mixed (Au Tryz.func118 cX ?_);revert h;refine Aq λy1 B7=>?_;refine Tc (λCI L5=>?_) λLW L5=>?_;subst L5;refine Aq λy2 D1=>?_;let o1:List (PC P (G mx)):=[Af (Ax (Ao B7) 0),AG (On D1)];refine Ag (λhv=>?_) λhv=>?_;subst hv;rintro⟨⟩;exact Aw Hd.Aa _ _ [⟨.agg (Gz CI),.agg (Gz CI),(.plain (BM.Cp CI))⟩] [pW p (Bt p.J4 1)] (Ac 300 (o1++[pk])) (by kernel_rfl) .body;subst hv;rintro⟨⟩;exact BL Hd.Aa _ [⟨.ifc 45 (.agg [.zi 71,.zi CI.AH]),.ifc 45 (.agg [.zi 71,.zi CI.AH]),(.plain (Cm.Cp (⟨71,CI.AH⟩:Dg)))⟩] [bp (CM.pl p)] (Ac 300 (o1++[An (At (Am (p:=p) (err:=71) (at_:=CI.AH) rfl) 0)])) (by kernel_rfl) .body;subst L5;rintro⟨⟩;exact BL Hd.Aa _ [gD LW] [bp (CM.pl p)] (Ac 300 [An (Ax (Ao B7) 0)]) (by kernel_rfl) .body
def aGZ:Code:=A0 Tryz.f214
def aIU:Tryz.f214.body=some aGZ:=by kernel_rfl
def BR(p:Pr):Option (((Int×Int)⊕Dg)×Int):=(GN p).bind λ(Ej,Bj)=>Sum.elim (λ(Ay:Tk)=>(Cr Ay).bind λy2=>cond (CV Ay.kind 3) (cond (CV y2 0) (some ((Sum.inl (y2,Ay.AH):((Int×Int)⊕Dg)),Bj)) (some ((Sum.inr (⟨3,Ay.AH⟩:Dg):((Int×Int)⊕Dg)),Bj))) (some ((Sum.inl (y2,Ay.AH):((Int×Int)⊕Dg)),Bj))) (λ(CT:Dg)=>some ((Sum.inr CT:((Int×Int)⊕Dg)),Bj)) Ej
def Bo{p:Pr}{yR:((Int×Int)⊕Dg)}{Ai:Int}(h:BR  p=some (yR,Ai)):pR mx 214 [.ptr 0 0] p (IY eJ eD yR) Ai:=by
 unfold BR at h;refine BW Hd.mixed (Au Tryz.func214 aIU ?_);revert h;refine BS (λAy Bj B7=>?_) λCT Bj B7=>?_;refine Aq λy2 D1=>?_;let o1:List (PC P (G mx)):=[Af (Ie (IE B7) 0),AG (OY D1)];refine Ag (λAW=>?_) λAW=>?_;refine Ag (λhb2=>?_) λhb2=>?_;refine Ew ?_;rintro rfl rfl;exact Aw Hd.Aa _ _ [⟨.CZ [.zi y2,.zi Ay.AH],.CZ [.zi y2,.zi Ay.AH],(.plain (A1 rfl (A1 rfl rfl)))⟩] [pW p Bj] (Ac 300 (o1++[pb AW,pn hb2])) (by kernel_rfl) .body;refine Ew ?_;rintro rfl rfl;exact BL Hd.Aa _ [⟨.ifc 45 (.agg [.zi 3,.zi Ay.AH]),.ifc 45 (.agg [.zi 3,.zi Ay.AH]),(.plain (Cm.Cp (⟨3,Ay.AH⟩:Dg)))⟩] [pW p Bj] (Ac 300 (o1++[pb AW,pn hb2,An (At (Am (p:=(⟨p.Bs,Bj,p.DI⟩:Pr)) (err:=3) (at_:=Ay.AH) rfl) 0)])) (by kernel_rfl) .body;refine Ew ?_;rintro rfl rfl;exact Aw Hd.Aa _ _ [⟨.CZ [.zi y2,.zi Ay.AH],.CZ [.zi y2,.zi Ay.AH],(.plain (A1 rfl (A1 rfl rfl)))⟩] [pW p Bj] (Ac 300 (o1++[pb AW])) (by kernel_rfl) .body;refine Ew ?_;rintro rfl rfl;exact H8 CT p Bj [An (Ie (IE B7) 0)] .body
def aHD:Code:=A0 Tryz.f229
def aIZ:Tryz.f229.body=some aHD:=by kernel_rfl
def ET(token:Tk):Option Bool:=cond (BY token.text.data.toList Oo.data.toList) (some true) (cond (BY token.text.data.toList Lh.data.toList) (some true) (some false))
def OM{token:Tk}{yR:Bool}(h:ET  token=some yR):Pure P (G mx) 229 [.agg (Gz token)] (.zb yR):=by
 unfold ET at h;refine CN Hd.mixed Hd.Aa (Au Tryz.func229 aIZ ?_) (A1 (BM.Cp token) rfl) rfl;revert h;refine Ag (λAW=>?_) λAW=>?_;rintro⟨⟩;exact rT [pb AW];refine Ag (λhb2=>?_) λhb2=>?_;rintro⟨⟩;exact rT [pb AW,pb hb2];rintro⟨⟩;exact rT [pb AW,pb hb2]
end Mo
end Go.Proofs.YtpbkhogolfegfaaGreatDoor
