/- Part of a proof: see the last text. -/
import Derived.Test.YtpbkhogolfegfaaGreatDoorPpn
import Derived.Test.YtpbkhogolfegfaaGreatDoorCards
import Derived.Test.YtpbkhogolfegfaaGreatDoorTie
import Derived.Lib.LaidTab
import Derived.Lib.LaidIn
import Derived.Shelf.Vars
set_option linter.unusedVariables false
set_option linter.unusedSimpArgs false
set_option linter.defProp false
noncomputable section
namespace Go.Proofs.YtpbkhogolfegfaaGreatDoor
open AI Go Go.RowKit LexS
def chunks{α:Type}{V:α->List Value}{k:Nat}:∀{l:List α} {cs:List Value},cs.length=l.length*k->(∀y,(V y).length=k)->(∀(i:Nat) y,l[i]?=some y->(cs.drop (i*k)).take k=V y)->cs=l.flatMap V
 | [],cs,h,_,_=>by
   simp only[List.length_nil,Nat.zero_mul] at h;rw[List.eq_nil_of_length_eq_zero h];rfl
 | a::l,cs,h,hV,hc=>by
   have h0:=hc 0 a rfl;rw[Nat.zero_mul,List.drop_zero] at h0
   have ih:=chunks (V:=V) (k:=k) (l:=l) (cs:=cs.drop k) (by rw[List.length_drop,h,List.length_cons,Nat.succ_mul];omega) hV λi y hy=>by
     rw[List.drop_drop];have:=hc (i+1) y (by simpa using hy)
     rwa[Nat.succ_mul,Nat.add_comm] at this
   rw[List.flatMap_cons,<- h0,<- ih,List.take_append_drop]
def NW{α H:Type}{enc:TypeId×Value->H}{P:Program}{w:World}{base:Nat}{sp:Nat->Bool}{held:Bool}{Lr:Nat}{t e:TypeId}{n k:Nat}{cs:List Value}{l:List α}{p:List MemPlace}(D:α->DataW H)(V:α->List Value)(hV:∀y,(V y).length=k)
   (N9:∀f c y q,DataW.trod enc P w base sp held f e c=some (D y,q)->c=V y)
   (ht:P.underlying t=some (.array n e)) (hce:P.cellsOf e=k) (hct:P.cellsOf t=n*k) (h:DataW.trod enc P w base sp held Lr t cs=some (.agg (l.map D),p)):cs=l.flatMap V:=by
 obtain⟨xs,m,_,hx,hl,hxl,R2⟩:=DataW.trod_array ht h
 have hd:l.map D=xs.map (·.1):=by
   have:=congrArg Prod.fst hx;simpa using this
 have wH:l.length=n:=by
   have:=congrArg List.length hd;simp at this;omega
 rw[hct] at hl;rw[hce] at R2;refine chunks (by rw[hl,wH]) hV λi y hy=>?_;have hi:i < n:=by have:=(List.getElem?_eq_some_iff.1 hy).1;omega
 have h2:=R2 i hi;have hxi:xs[i]?=some xs[i]:=List.getElem?_eq_getElem (by omega);rw[hxi] at h2;have h3:(l.map D)[i]?=(xs.map (·.1))[i]?:=by rw[hd]
 rw[List.getElem?_map,List.getElem?_map,hy,hxi] at h3;simp only[Option.map_some,Option.some.injEq] at h3;refine N9 m _ y xs[i].2 ?_;rw[h2,h3]
def Y8{H:Type}{enc:TypeId×Value->H}{w:World}{base:Nat}{sp:Nat->Bool}{held:Bool}(f:Nat)(c:List Value)(y:List UInt8)(q:List MemPlace)(hh:DataW.trod enc Tryz.prog w base sp held f 9 c=some (.lit (.string y),q)):c=[.string ⟨y.toArray⟩]:=by
 obtain⟨z,hc,hz,_⟩:=DataW.trod_string Tryz.underlying9 hh;simp only[Prod.mk.injEq,DataW.lit.injEq,Lit.string.injEq] at hz;rw[hc,hz.1]
def QH{W:World}{n:String}{g:Nat}{cs:Array Value}(hg:Tryz.prog.globalNamed n=some g)(h:W.var? Tryz.prog n=some cs):∃t fr,W.heap[g]?=some (.cells cs t fr):=by
 unfold World.var? at h;rw[hg] at h;simp only[Option.bind_some] at h;split at h;rename_i c t fr hh;injection h with h
 subst h;exact⟨t,fr,hh⟩;cases h
def gB:Tryz.prog.globalNamed "wageoffice/calendar.before"=some 12:=by kernel_rfl
def gC:Tryz.prog.globalNamed "wageoffice/lexer.classes"=some 3:=by kernel_rfl
def gS:Tryz.prog.globalNamed "wageoffice/lexer.symbols"=some 0:=by kernel_rfl
def gO:Tryz.prog.globalNamed "wageoffice/parser.operators"=some 2:=by kernel_rfl
def gR:Tryz.prog.globalNamed "wageoffice/parser.roles"=some 1:=by kernel_rfl
def gP:Tryz.prog.globalNamed "internal/strconv.uint64pow10"=some 4:=by kernel_rfl
def gPT:(Tryz.prog.globals[(4:Nat)]?).map (·.type)=some 167:=by kernel_rfl
def zW:Tryz.prog.cellsOf 146=1:=by kernel_rfl
def zP:Tryz.prog.cellsOf 167=20*1:=by kernel_rfl
def gBT:(Tryz.prog.globals[(12:Nat)]?).map (·.type)=some 203:=by kernel_rfl
def gCT:(Tryz.prog.globals[(3:Nat)]?).map (·.type)=some 151:=by kernel_rfl
def gST:(Tryz.prog.globals[(0:Nat)]?).map (·.type)=some 134:=by kernel_rfl
def gOT:(Tryz.prog.globals[(2:Nat)]?).map (·.type)=some 143:=by kernel_rfl
def gRT:(Tryz.prog.globals[(1:Nat)]?).map (·.type)=some 135:=by kernel_rfl
def zI:Tryz.prog.cellsOf 3=1:=by kernel_rfl
def zU:Tryz.prog.cellsOf 5=1:=by kernel_rfl
def zS:Tryz.prog.cellsOf 9=1:=by kernel_rfl
def zB:Tryz.prog.cellsOf 203=13*1:=by kernel_rfl
def zC:Tryz.prog.cellsOf 151=128*1:=by kernel_rfl
def zY:Tryz.prog.cellsOf 134=17*1:=by kernel_rfl
def z6:Tryz.prog.cellsOf 142=6*1:=by kernel_rfl
def zO:Tryz.prog.cellsOf 143=6*6:=by kernel_rfl
def zR:Tryz.prog.cellsOf 135=5*1:=by kernel_rfl
def alE:List Int:=[0,31,59,90,120,151,181,212,243,273,304,334,365]
def am7:List (List UInt8):=[[],[101,97,114,110],[100,101,100,117,99,116],[102,108,111,111,114],[105,110,102,111]]
def opsL:List (List (List UInt8)):=[[[111,114],[],[],[],[],[]],[[97,110,100],[],[],[],[],[]],[[],[],[],[],[],[]],[[61,61],[33,61],[60],[60,61],[62],[62,61]],[[43],[45],[],[],[],[]],[[42],[47],[97,116],[],[],[]]]
abbrev eZ(y:List UInt8):DataW Unit:=.lit (.string y)
def apc:(Rows.laid_wageoffice_calendar_before:DataW Unit)=.agg (alE.map λz=>.lit (.int .i64 z)):=by rfl
def apg:(Rows.laid_internal_strconv_uint64pow10:DataW Unit)=.agg (Lib.pow10Tab.map λz=>.lit (.int .u64 z)):=by kernel_rfl
def apd:(Rows.laid_wageoffice_lexer_classes:DataW Unit)=.agg ((List.range 128).map λi=>.lit (.int .u8 (Me i:Nat))):=by rfl
def api:(Rows.laid_wageoffice_lexer_symbols:DataW Unit)=.agg (Gj.map eZ):=by rfl
def ape:(Rows.laid_wageoffice_parser_operators:DataW Unit)=.agg (opsL.map λl=>.agg (l.map eZ)):=by rfl
def aph:(Rows.laid_wageoffice_parser_roles:DataW Unit)=.agg (am7.map eZ):=by rfl
def aqJ:((begin Tryz.prog (λ_ _=>0) default).world.heap[(5:Nat)]?).bind Obj.row?=some (#[.int .i64 0],3):=by kernel_rfl
def akw{W:World}(h:W.ShapedOpen Tryz.prog):∃m,W.cell? ⟨5,0,none⟩=some (.int .i64 m):=by
 obtain⟨m,hm⟩:=cell_of_shapedOpen_int h (g:=5) (by decide +kernel) aqJ rfl (by kernel_rfl) (by kernel_rfl) Tryz.underlying3;exact⟨m,hm⟩
def XC(c:Cx)(w:World):∀l:List (List UInt8),CX c w (l.map GM) (l.flatMap λy=>[.string ⟨y.toArray⟩])
 | []=>.nil
 | _::l=>.cons (.sc rfl) (XC c w l)
def tZ(c:Cx)(w:World):∀l:List Int,CX c w (l.map Hd.int) (l.flatMap λy=>[.int .i64 y])
 | []=>.nil
 | _::l=>.cons (.sc rfl) (tZ c w l)
def acT(c:Cx)(w:World):∀l:List Int,CX c w (l.map Hd.ahc) (l.flatMap λy=>[.int .u64 y])
 | []=>.nil
 | _::l=>.cons (.sc rfl) (acT c w l)
def acN(c:Cx)(w:World):∀l:List Nat,CX c w (l.map λi=>.sc (.int .u8 (Me i:Nat))) (l.flatMap λi=>[.int .u8 (Me i:Nat)])
 | []=>.nil
 | _::l=>.cons (.sc rfl) (acN c w l)
def lF(c:Cx)(w:World):∀l:List (List (List UInt8)),CX c w (l.flatMap λy=>y.map GM) (l.flatMap λy=>y.flatMap λz=>[.string ⟨z.toArray⟩])
 | []=>.nil
 | a::l=>(XC c w a).append (lF c w l)
def VG{W:World}{g:Nat}{l:List AV}{cs:Array Value}(h:∃t fr,W.heap[g]?=some (.cells cs t fr))(hr:CX (Mo.Ye W) W l cs.toList):Bk (Mo.Ye W) W g 0 l:=by
 obtain⟨t,fr,h⟩:=h;refine Bk.Q6 hr λi v hi=>Mo.alo ?_;rw[Nat.zero_add,cell_of_row W g i cs t fr h];rwa[Array.getElem?_toList] at hi
def qO{W:World}(h:laidMetH Tryz.prog Rows.parserTreesRow.laid W)(K0:W.ShapedOpen Tryz.prog):∃mx,St (Hd.G mx) (Mo.Ye W) W s0:=by
 have h:laidMet Tryz.prog [("math/bits.deBruijn32tab",Rows.laid_math_bits_deBruijn32tab),("math/bits.deBruijn64tab",Rows.laid_math_bits_deBruijn64tab),("internal/strconv.uint64pow10",Rows.laid_internal_strconv_uint64pow10),("unicode/utf8.acceptRanges",Rows.laid_unicode_utf8_acceptRanges),("strconv.ErrRange",Rows.laid_strconv_ErrRange),("strconv.ErrSyntax",Rows.laid_strconv_ErrSyntax),("wageoffice/calendar.before",Rows.laid_wageoffice_calendar_before),("wageoffice/lexer.classes",Rows.laid_wageoffice_lexer_classes),("wageoffice/lexer.symbols",Rows.laid_wageoffice_lexer_symbols),("wageoffice/parser.operators",Rows.laid_wageoffice_parser_operators),("wageoffice/parser.roles",Rows.laid_wageoffice_parser_roles),("unicode/utf8.first",Rows.laid_unicode_utf8_first)] W:=h
 obtain⟨ps,⟨_,_,_,_,_,_,_,_,_,_,⟨_,_,_,_,_,_,_,_,_,_,⟨g3,t3,cs3,f3,p3,q3,hg3,ht3,hv3,hd3,⟨_,_,_,_,_,_,_,_,_,_,⟨_,_,_,_,_,_,_,_,_,_,⟨_,_,_,_,_,_,_,_,_,_,⟨g7,t7,cs7,f7,p7,q7,hg7,ht7,hv7,hd7,⟨g8,t8,cs8,f8,p8,q8,hg8,ht8,hv8,hd8,⟨g9,t9,cs9,f9,p9,q9,hg9,ht9,hv9,hd9,⟨g10,t10,alK,f10,p10,q10,apK,ap8,aqa,afo,⟨g11,t11,arj,f11,p11,q11,apL,ap9,aqb,ama,_⟩,_⟩,_⟩,_⟩,_⟩,_⟩,_⟩,_⟩,_⟩,_⟩,_⟩,_⟩:=h;obtain rfl:=Option.some.inj (gP.symm.trans hg3);obtain rfl:=Option.some.inj (gPT.symm.trans ht3);rw[apg] at hd3;obtain rfl:=Option.some.inj (gB.symm.trans hg7);obtain rfl:=Option.some.inj (gC.symm.trans hg8);obtain rfl:=Option.some.inj (gS.symm.trans hg9);obtain rfl:=Option.some.inj (gO.symm.trans apK);obtain rfl:=Option.some.inj (gR.symm.trans apL);obtain rfl:=Option.some.inj (gBT.symm.trans ht7);obtain rfl:=Option.some.inj (gCT.symm.trans ht8);obtain rfl:=Option.some.inj (gST.symm.trans ht9);obtain rfl:=Option.some.inj (gOT.symm.trans ap8);obtain rfl:=Option.some.inj (gRT.symm.trans ap9);rw[apc] at hd7;rw[apd] at hd8;rw[api] at hd9;rw[ape] at afo;rw[aph] at ama
 have e3:=NW (k:=1) (λz:Int=>(DataW.lit (.int .u64 z):DataW Unit)) (λz=>[.int .u64 z]) (λ_=>rfl)
   (λf c y q hh=>by obtain⟨z,hc,hz,_⟩:=DataW.trod_int Tryz.underlying146 hh;simp only[Prod.mk.injEq,DataW.lit.injEq,Lit.int.injEq,true_and] at hz;rw[hc,hz.1]) Tryz.underlying167 zW zP hd3
 have e7:=NW (k:=1) (λz:Int=>(DataW.lit (.int .i64 z):DataW Unit)) (λz=>[.int .i64 z]) (λ_=>rfl)
   (λf c y q hh=>by obtain⟨z,hc,hz,_⟩:=DataW.trod_int Tryz.underlying3 hh;simp only[Prod.mk.injEq,DataW.lit.injEq,Lit.int.injEq,true_and] at hz;rw[hc,hz.1]) Tryz.underlying203 zI zB hd7
 have e8:=NW (k:=1) (λi:Nat=>(DataW.lit (.int .u8 (Me i:Nat)):DataW Unit)) (λi=>[.int .u8 (Me i:Nat)]) (λ_=>rfl)
   (λf c y q hh=>by obtain⟨z,hc,hz,_⟩:=DataW.trod_int Tryz.underlying5 hh;simp only[Prod.mk.injEq,DataW.lit.injEq,Lit.int.injEq,true_and] at hz;rw[hc,hz.1]) Tryz.underlying151 zU zC hd8
 have e9:=NW (k:=1) eZ (λy=>[.string ⟨y.toArray⟩]) (λ_=>rfl) Y8 Tryz.underlying134 zS zY hd9;have e11:=NW (k:=1) eZ (λy=>[.string ⟨y.toArray⟩]) (λ_=>rfl) Y8 Tryz.underlying135 zS zR ama
 have e10:alK.toList=opsL.flatMap λy=>y.flatMap λz=>[.string ⟨z.toArray⟩]:=by
   obtain⟨xs,m,_,hx,hl,hxl,R2⟩:=DataW.trod_array Tryz.underlying143 afo
   have hd:(opsL.map λl=>(DataW.agg (l.map eZ):DataW Unit))=xs.map (·.1):=by
     have:=congrArg Prod.fst hx;simpa using this
   rw[zO] at hl;rw[z6] at R2;have aqy:∀y∈opsL,(y.flatMap λz=>[(Value.string ⟨z.toArray⟩:Value)]).length=6:=by decide
   have eA:∀(i:Nat) y,opsL[i]?=some y->(alK.toList.drop (i*6)).take 6=y.flatMap λz=>[.string ⟨z.toArray⟩]:=by
     intro i y hy;have hi:i < 6:=(List.getElem?_eq_some_iff.1 hy).1;have h2:=R2 i hi;have hxi:xs[i]?=some xs[i]:=List.getElem?_eq_getElem (by omega);rw[hxi] at h2;have h3:(opsL.map λl=>(DataW.agg (l.map eZ):DataW Unit))[i]?=(xs.map (·.1))[i]?:=by rw[hd]
     rw[List.getElem?_map,List.getElem?_map,hy,hxi] at h3;simp only[Option.map_some,Option.some.injEq] at h3;have h4:xs[i]=(.agg (y.map eZ),xs[i].2):=Prod.ext h3.symm rfl;rw[h4] at h2;exact NW (k:=1) eZ (λy=>[.string ⟨y.toArray⟩]) (λ_=>rfl) Y8 Tryz.underlying142 zS z6 h2
   have l6:∀{l:List (List (List UInt8))} {cs:List Value},(∀y∈l,(y.flatMap λz=>[(Value.string ⟨z.toArray⟩:Value)]).length=6)->cs.length=l.length*6->(∀(i:Nat) y,l[i]?=some y->(cs.drop (i*6)).take 6=y.flatMap λz=>[.string ⟨z.toArray⟩])->cs=l.flatMap λy=>y.flatMap λz=>[.string ⟨z.toArray⟩]:=by
     intro l
     induction l with
     | nil=>intro cs _ h _;exact List.eq_nil_of_length_eq_zero (by simpa using h)
     | cons a l ih =>
       intro cs hq h hc;have h0:=hc 0 a rfl;rw[Nat.zero_mul,List.drop_zero] at h0
       have:=ih (cs:=cs.drop 6) (λy hy=>hq y (by simp[hy])) (by rw[List.length_drop,h,List.length_cons,Nat.succ_mul];omega) λi y hy=>by
         rw[List.drop_drop];have:=hc (i+1) y (by simpa using hy)
         rwa[Nat.succ_mul,Nat.add_comm] at this
       rw[List.flatMap_cons,<- h0,<- this,List.take_append_drop]
   exact l6 aqy (by rw[hl];rfl) eA
 obtain⟨mx,hm⟩:=akw K0;have GC:=Mo.stW W;refine⟨mx,GC.len,GC.desc,GC.nodup,GC.low,GC.box,GC.J2,GC.row,GC.Kv,GC.O5,GC.OW,GC.JZ,λg cs h=>?_,GC.Sd⟩;unfold Hd.G at h;split at h;rename_i hg;cases h;rw[beq_true hg];exact VG (QH gO aqa) (by rw[e10];exact lF _ _ opsL);split at h;rename_i hg;cases h;rw[beq_true hg];exact VG (QH gR aqb) (by rw[e11];exact XC _ _ am7);split at h;rename_i hg;cases h;rw[beq_true hg];exact VG (QH gB hv7) (by rw[e7];exact tZ _ _ alE);split at h;rename_i hg;cases h;rw[beq_true hg];exact VG (QH gC hv8) (by rw[e8];exact acN _ _ _);split at h;rename_i hg;cases h;rw[beq_true hg];exact VG (QH gS hv9) (by rw[e9];exact XC _ _ _);split at h;rename_i hg;cases h;rw[beq_true hg];exact .cons (Mo.alo hm) (.sc rfl) .nil;split at h;rename_i hg;cases h;rw[beq_true hg];exact VG (QH gP hv3) (by rw[e3];exact acT _ _ _);cases h
def pH{mx:Int}{f:FuncId}{args:List AV}{vs:List Value}{W:World}(GC:St (Hd.G mx) (Mo.Ye W) W s0)(h:Pure Tryz.prog (Hd.G mx) f args (.sc (.bool true)))(ha:CX (Mo.Ye W) W args vs):Calls Tryz.prog f vs.toArray W λe W'=>e=.returned (.bool true)/\Below W.heap.size W W':=by
 refine(h s0 (Mo.Ye W) W vs GC ha).mono ?_;rintro e w' ⟨c',hx,_,u,rfl,hu⟩;cases hu;exact⟨rfl,hx.below⟩
def akr:DataW Unit->List Value
 | .lit l=>[l.value]
 | _=>[]
def alS:DataW Unit->List Value
 | .agg l=>l.flatMap akr
 | d=>akr d
def Tv:DataW Unit->Array Value
 | .agg l=>(l.flatMap alS).toArray
 | d=>(akr d).toArray
def putCells(cs:Array Value):Obj->Obj
 | .cells _ t frozen=>.cells cs t frozen
 | o=>o
def low:Nat:=(World.holding Tryz.prog default ⟨#[],#[],[]⟩).heap.size
abbrev anm:ByteArray:={ data:=#[118,97,108,117,101,32,111,117,116,32,111,102,32,114,97,110,103,101] }
abbrev ann:ByteArray:={ data:=#[105,110,118,97,108,105,100,32,115,121,110,116,97,120] }
def VO(os:Os):World :=
 let w0:=World.holding Tryz.prog os ⟨#[.cells #[.string anm] 210,.cells #[.string ann] 210],#[],[]⟩
 { w0 with heap:=((((((((((((w0.heap.modify 8 (putCells (Tv Rows.laid_math_bits_deBruijn32tab))).modify
     9 (putCells (Tv Rows.laid_math_bits_deBruijn64tab))).modify
     4 (putCells (Tv Rows.laid_internal_strconv_uint64pow10))).modify
     7 (putCells (Tv Rows.laid_unicode_utf8_acceptRanges))).modify
     11 (putCells #[.iface 208 (.pointer (some ⟨low,0,none⟩))])).modify
     10 (putCells #[.iface 208 (.pointer (some ⟨low+1,0,none⟩))])).modify
     12 (putCells (Tv Rows.laid_wageoffice_calendar_before))).modify
     3 (putCells (Tv Rows.laid_wageoffice_lexer_classes))).modify
     0 (putCells (Tv Rows.laid_wageoffice_lexer_symbols))).modify
     2 (putCells (Tv Rows.laid_wageoffice_parser_operators))).modify
     1 (putCells (Tv Rows.laid_wageoffice_parser_roles))).modify
     6 (putCells (Tv Rows.laid_unicode_utf8_first))) }
def abW(os:Os)(args:Array Value):laidMet Tryz.prog Rows.parserTreesRow.laid ((VO os).forCall (λ_ _=>0) ⟨#[],args,[]⟩).memory :=
 laidMet_of_run3 8 (by kernel_rfl) (by kernel_rfl) (by kernel_rfl)
end Go.Proofs.YtpbkhogolfegfaaGreatDoor
namespace Go.Proofs.YtpbkhogolfegfaaGreatDoor
open AI Go
namespace Mo
set_option maxRecDepth 100000
set_option maxHeartbeats 4000000
variable {mx:Int}
end Mo
end Go.Proofs.YtpbkhogolfegfaaGreatDoor
namespace Go.Proofs.YtpbkhogolfegfaaGreatDoor
open AI Go
namespace Mo
set_option maxRecDepth 100000
set_option maxHeartbeats 4000000
variable {mx:Int}
def zN(n:Nd):Nd:=⟨n.kind,n.name,n.unit,n.n,n.fr,n.to,n.known,n.CZ,n.kids,0⟩
abbrev FO(g k cap:Nat)(j:List Value):List AV:=fr 72 [(2,.ptr 1 0),(3,.ptr 2 0),(4,.raw (some ⟨g,0,none⟩) k cap)] [13,36,61] j
section
variable {b:Nat} {B:Nat->Nat->Prop} {w0:World} {g cap:Nat} {ps:List (Nat×Nat)} {s:AS} {Q:QE} {j:List Value}
variable {id off nx:Nat} {L:List Nd}
end
abbrev Bx:=List (Nd×Option Nat)
def a1:Bo:=.cells [.sc (.int .i64 0),.sc (.string ByteArray.empty),.sc (.string ByteArray.empty),.sc (.int .i64 0),.sc (.int .i64 0),.sc (.int .i64 0),.sc (.int .i64 0),.sc (.int .i64 0),.sl .full 0 [],.sl .full 0 [],.sc (.int .i64 0)]
mutual
def cN:Nd->Nat
 | ⟨_,_,_,_,_,_,_,_,kids,_⟩=>1+cL kids
def cL:List Nd->Nat
 | []=>0
 | k::ks=>cN k+cL ks
end
mutual
def Z4:Nd->Prop
 | ⟨_,_,_,_,_,_,_,CZ,kids,_⟩=>CZ.ps.length*24<=140737488355328/\psL kids
def psL:List Nd->Prop
 | []=>True
 | k::ks=>Z4 k/\psL ks
end
def tP:∀l:List Nd,psL l↔∀k∈l,Z4 k
 | []=>by simp[psL]
 | a::l=>by rw[psL,tP l];simp
def SZ(n:Nd):Z4 n↔n.CZ.ps.length*24<=140737488355328/\∀k∈n.kids,Z4 k:=by cases n;rw[Z4,tP]
mutual
def Mc:Nd->Nd
 | ⟨kind,name,unit,n,fr,to,known,CZ,kids,_⟩=>⟨kind,name,unit,n,fr,to,known,CZ,stL kids,0⟩
def stL:List Nd->List Nd
 | []=>[]
 | k::ks=>Mc k::stL ks
end
def uF:∀l:List Nd,stL l=l.map Mc
 | []=>by rw[stL];rfl
 | k::l=>by rw[stL,uF l];rfl
def OH(n:Nd):Mc n=⟨n.kind,n.name,n.unit,n.n,n.fr,n.to,n.known,n.CZ,n.kids.map Mc,0⟩:=by cases n;rw[Mc,uF]
structure Inv(n0:Nd)(rk:Option Nat)(M:List Bx)(qs:List ((Nat×Nat)×List Nd)):Prop where
 aqG:∀q∈qs,(q.1=(2,0)/\rk=none/\q.2=[n0])\/∃(i a:Nat) (l:Bx) (m:Nd),q.1=(3+i,0+a*11+9)/\M[i]?=some l/\l[a]?=some (m,none)/\q.2=m.kids/\m.kids≠[]
 ark:(qs.map (·.1)).Nodup
 all:(rk=none->(2,0)∈qs.map (·.1))/\∀(i a:Nat) (l:Bx) (m:Nd),M[i]?=some l->l[a]?=some (m,none)->m.kids≠[]->(3+i,0+a*11+9)∈qs.map (·.1)
 done:∀(i a:Nat) (l:Bx) (m:Nd) (c:Nat),M[i]?=some l->l[a]?=some (m,some c)->∃(i2:Nat) (l2:Bx),c=3+i2/\i < i2/\M[i2]?=some l2/\l2.map (·.1)=m.kids.map zN
 root:∀c,rk=some c->∃(i2:Nat) (l2:Bx),c=3+i2/\M[i2]?=some l2/\l2.map (·.1)=[zN n0]
 small:∀q∈qs,∀x∈q.2,Z4 x
 zero:∀(i a:Nat) (l:Bx) (m:Nd) (c:Option Nat),M[i]?=some l->l[a]?=some (m,c)->m.AH=0
section
variable {n0:Nd} {rk:Option Nat} {M:List Bx} {qs:List ((Nat×Nat)×List Nd)} {q:(Nat×Nat)×List Nd}
def Inv.low(h:Inv n0 rk M qs):∀q∈qs,q.1.1 < 3+M.length:=λq hq=>by
 rcases h.aqG q hq with ⟨e,_⟩ | ⟨i,a,l,m,e,hi,_⟩
 rw[e];show 2 < _;omega;rw[e];have:=(List.getElem?_eq_some_iff.1 hi).1;show 3+i < _;omega
end
end Mo
end Go.Proofs.YtpbkhogolfegfaaGreatDoor
namespace Go.Proofs.YtpbkhogolfegfaaGreatDoor
open AI Go
namespace Mo
variable {mx:Int}
open Classical in
end Mo
end Go.Proofs.YtpbkhogolfegfaaGreatDoor
namespace Go.Proofs.YtpbkhogolfegfaaGreatDoor
open AI Go Go.RowKit LexS
namespace Mo
variable {mx:Int}
def aqM{cx:Cx}{w:World}{s:AS}(h:St (G mx) cx w s):Nx w:=by
 refine⟨λi hi=>?_,λj v hj=>?_⟩;have hc:=h.PB 3 Hd.aeV rfl;have he:Hd.aeV[i]?=some (.sc (.int .u8 (Me i:Nat))):=by simp[Hd.aeV,hi]
 obtain⟨v,hv,hr⟩:=hc.get he;cases hr;have:=hv.2.2;rwa[Nat.zero_add] at this;have hc:=h.PB 0 Hd.agU rfl;have hj':(Gj.map λy=>Value.string ⟨y.toArray⟩)[j]?=some v:=by simpa[IB] using hj
 rw[List.getElem?_map] at hj';obtain⟨y,hy,rfl⟩:=Option.map_eq_some_iff.1 hj';have he:Hd.agU[j]?=some (GM y):=by simp[Hd.agU,hy]
 obtain⟨u,hu,hr⟩:=hc.get he;unfold GM at hr;cases hr;have:=hu.2.2;rwa[Nat.zero_add] at this
def VH{w w':World}(h:Below w.heap.size w w'):SI w w' (λ_=>False):=⟨h.os,h.tape,h.output,h.size,λk hk _=>h.block k hk⟩
def vR(w:World)(e:TypeId)(s:ByteArray):SI w (Lib.bytesWorld w e s) (λ_=>False) :=
 VH (Lib.below_freeze ((Below.drew (Below.refl _ w)).alloc (Nat.le_refl _) _) (p:=⟨w.heap.size,_,Option.none⟩) (Nat.le_refl _) 1)
def Hq(x:Tok):Tk:=⟨x.1,⟨x.2.1.toArray⟩,x.2.2⟩
def ag7(l:List Tok):(rows GA (l.map Hq)).length=(KO l).length:=by
 unfold KO
 induction l with
 | nil=>rfl
 | cons x l ih=>rw[List.map_cons,I8,List.flatMap_cons,List.length_append,List.length_append,ih];rfl
def alf(cx:Cx)(w:World)(l:List Tok):CX cx w (rows GA (l.map Hq)) (KO l):=by
 unfold KO
 induction l with
 | nil=>exact .nil
 | cons x l ih =>
   rw[List.map_cons,I8,List.flatMap_cons];exact CX.append (.cons (.sc rfl) (.cons (.sc rfl) (.cons (.sc rfl) .nil))) ih
def IL(s:ByteArray):Option (List Tk×Int×Int):=some ((Jh s.data.toList).1.map Hq,(((Jh s.data.toList).2.1:Nat):Int),(((Jh s.data.toList).2.2:Nat):Int))
def NF{s:ByteArray}{yR:List Tk×Int×Int}(h:IL s=some yR):Pure P (G mx) 34 [.sc (.string s)] (.C6 [.sl .lost yR.1.length (rows GA yR.1),.sc (.int .i64 yR.2.1),.sc (.int .i64 yR.2.2)]):=by
 cases h;intro s0 cx w vs hs ha;cases ha with
 | cons h1 tl =>
 cases tl;cases h1;refine(afO s w (aqM hs)).mono ?_;rintro e w' ⟨u,rfl,QW,hb⟩;obtain⟨x,st⟩:=hs.same (VH hb);refine⟨cx,x,st,_,rfl,?_⟩;show Rp cx w' (.C6 [.sl .lost ((Jh (L s)).1.map Hq).length (rows GA ((Jh (L s)).1.map Hq)),.sc (.int .i64 (Jh (L s)).2.1),.sc (.int .i64 (Jh (L s)).2.2)]) _;refine .C6 (vs:=[u,.int .i64 (Jh (L s)).2.1,.int .i64 (Jh (L s)).2.2]) (.cons ?_ (.cons (.sc rfl) (.cons (.sc rfl) .nil)));have hl:=ag7 (Jh (L s)).1;have hc:=alf cx w' (Jh (L s)).1;rw[List.length_map];obtain⟨h1,⟨rfl,h2⟩ | ⟨g,cap,nX,rfl,hg,hw,hn,_,Qc,htk⟩⟩:=QW;have:(Jh (L s)).1=[]:=List.eq_nil_of_length_eq_zero h2;rw[this];exact .KB trivial;refine .Ni hn (Bk.Q6 hc (λi v hi=>⟨(Array.getElem?_eq_some_iff.1 hw).1,λK0=>?_,?_⟩)) trivial;have:g < w.heap.size:=hs.fU K0;omega;rw[Nat.zero_add,cell_of_row w' g i nX _ _ hw];rw[<- htk,List.getElem?_take] at hi;split at hi;rwa[Array.getElem?_toList] at hi;cases hi
def Sa(s:ByteArray):Option (Int×Unit):=if s.data.toList.length<=18 then (Lib.atoi s.data.toList).map λn=>(n,()) else none
def rG{s:ByteArray}{yR:Int×Unit}(h:Sa s=some yR):Pure P (G mx) 173 [.sc (.string s)] (.C6 [.sc (.int .i64 yR.1),.sc .nilIface]):=by
 unfold Sa at h;split at h;rename_i hl;cases hn:Lib.atoi s.data.toList with
 | none=>rw[hn] at h;cases h
 | some n =>
   rw[hn] at h;cases h;intro s0 cx w vs hs ha;cases ha with
   | cons h1 tl =>
   cases tl;cases h1;refine(Tryz.strconv_Atoi s n (by show s.data.size<=18;rw[<- Array.length_toList];exact hl) hn w).mono ?_;rintro e w' ⟨rfl,tt,rfl⟩;obtain⟨x,st⟩:=hs.same (vR w _ tt);exact⟨cx,x,st,_,rfl,.C6 (vs:=[.int .i64 n,.nilIface]) (.cons (.sc rfl) (.cons (.sc rfl) .nil))⟩
 cases h
def K5(t o n:ByteArray)(k:Int):Option ByteArray:=if 1<=o.size/\t.size+Lib.countB t o*n.size<=4000 then some ⟨(Lib.replace t.data.toList o.data.toList n.data.toList k).toArray⟩ else none
def fN{t o n:ByteArray}{k:Int}{yR:ByteArray}(h:K5 t o n k=some yR):Pure P (G mx) 163 [.sc (.string t),.sc (.string o),.sc (.string n),.sc (.int .i64 k)] (.sc (.string yR)):=by
 unfold K5 at h;split at h;rename_i hl;cases h;intro s0 cx w vs hs ha;cases ha with
 | cons a1 tl =>
 cases tl with
 | cons a2 tl =>
 cases tl with
 | cons a3 tl =>
 cases tl with
 | cons a4 tl =>
 cases tl;cases a1;cases a2;cases a3;cases a4
 have hm:w.cell? ⟨5,0,none⟩=some (.int .i64 mx):=by
   have hg:=hs.PB 5 [Hd.int mx] rfl;obtain⟨v,hv,hr⟩:=hg.get (i:=0) rfl;unfold Hd.int at hr;cases hr;exact hv.2.2
 refine(Tryz.strings_Replace t o n k mx w (by omega) hm hl.1 (by omega)).mono ?_;rintro e w' ⟨rfl,hb⟩;obtain⟨x,st⟩:=hs.same (VH hb);exact⟨cx,x,st,_,rfl,.sc rfl⟩;cases h
def adJ:Nd⊕Dg->Nd×Dg×Bool
 | .inl n=>(n,⟨0,0⟩,true)
 | .inr d=>(⟨0,ByteArray.empty,ByteArray.empty,0,0,0,0,⟨0,[]⟩,[],0⟩,d,false)
end Mo
end Go.Proofs.YtpbkhogolfegfaaGreatDoor

namespace AI
open Go
abbrev AV.zi(x:Int):AV:=.sc (.int .i64 x)
abbrev AV.zs(x:ByteArray):AV:=.sc (.string x)
abbrev AV.zb(x:Bool):AV:=.sc (.bool x)
abbrev bT:Value:=.bool true
abbrev bF:Value:=.bool false
def EC{α β:Type}{a b:α}{c d:β}{Q:Prop}(k:a=b->c=d->Q):some (a,c)=some (b,d)->Q:=λh=>by cases h;exact k rfl rfl
def rT{P:Program}{G:Bc}{c:Code}{fr:List AV}{s:AS}{x:Value}{fn:Func}{m:Nat}(l:List (PC P G))(h:agl P fn (TS P G 300 c [] (pHs l) fr s)=some (nF l,.sc x):=by kernel_rfl):W P G (XS P G) H0 c fr s (UJ P fn m (λr _=>∃a,r=.ret a/\Fits 0 0 a (.sc x))):=rS (Ac 300 l) h
end AI
namespace Go.Proofs.YtpbkhogolfegfaaGreatDoor
open AI Go
namespace Mo
variable {mx:Int}
abbrev ndL(x:Nd)(r:List AV):List AV:=.zi x.kind::.zs x.name::.zs x.unit::.zi x.n::.zi x.fr::.zi x.to::.zi x.known::.zi x.CZ.den::.sl .lost x.CZ.ps.length (rows Jj x.CZ.ps)::.sl .lost x.kids.length (BF x.kids)::.zi x.AH::r
end Mo
end Go.Proofs.YtpbkhogolfegfaaGreatDoor
namespace AI
open Go
def BW{α β γ δ:Type}{m:Option ((α⊕β)×γ)}{k:(α⊕β)×γ->Option δ}{r:δ}{X:Prop}(h1:∀a c,m=some (.inl a,c)->k (.inl a,c)=some r->X)(h2:∀b c,m=some (.inr b,c)->k (.inr b,c)=some r->X):m.bind k=some r->X:=λh=>by
 cases m with
 | none=>cases h
 | some p =>
   obtain⟨a | b,c⟩:=p;exact h1 a c rfl h;exact h2 b c rfl h
end AI
namespace Go.Proofs.YtpbkhogolfegfaaGreatDoor
open AI Go
namespace Mo
variable {mx:Int}
abbrev pC(p:Pr)(x:Int):List AV:=[.sl .lost p.Bj.length (rows GA p.Bj),.zi x,.zi p.DP]
abbrev pZ(p:Pr):AS:=⟨[(0,.cells (RH p))],1,[],0⟩
abbrev pS(p:Pr)(x:Int):AS:=⟨[(0,.cells (pC p x))],1,[],0⟩
def pW{n m:Nat}(p:Pr)(x:Int):FO n m:=bw (.cells (pC p x)) (.cells (pC p x)) (.cells (.plain (A1 (BK.IH p.Bj) (A1 rfl (A1 rfl rfl)))))
abbrev Tl:List AV:=[.zi 0,.zs ByteArray.empty,.zs ByteArray.empty,.zi 0,.zi 0,.zi 0,.zi 0,.zi 0,.sl .full 0 [],.sl .full 0 [],.zi 0]
def nH{n m:Nat}:FO n m:=bw (.cells Tl) (.cells Tl) (.cells (.plain (A1 rfl (A1 rfl (A1 rfl (A1 rfl (A1 rfl (A1 rfl (A1 rfl (A1 rfl (A1 (WH rfl) (A1 (WH rfl) (A1 rfl rfl)))))))))))))
abbrev eD:Dg->AV:=λdV=>.Fu 45 (.agg (OX dV))
def gD{n m:Nat}(d:Dg):FP n m:=⟨eD d,eD d,.plain (B7.Cw d)⟩
abbrev eN:Nd->AV:=λyV=>.agg (Dd yV)
abbrev eT:Tk->AV:=λyV=>.agg (GA yV)
abbrev eI:Int->AV:=λyV=>.zi yV
abbrev eJ:Int×Int->AV:=λyV=>.C6 [.zi yV.1,.zi yV.2]
abbrev eL:List Nd->AV:=λyV=>.sl .lost yV.length (BF yV)
abbrev eP:Pt->AV:=λyV=>.agg (Xz yV)
abbrev pR(mx:Int)(f:Nat)(al:List AV)(p:Pr)(r:CR)(x:Int):Prop:=Sound P (G mx) (.call f al (pZ p) r (pS p x))
section
variable {c:Code} {fr0:List AV} {s s0 s2:AS} {Q:AX->List AV->AS->Prop} {m:Nat} {v:AV} {ks:List KI}
def Ik(d:Dg)(p:Pr)(x:Int)(l:List (PC P (G mx)))(k:TI (G mx) m s0 Q v s2)(h:af5 s0.nx s0.nr m [v] (nB (n:=s0.nx) (m:=s0.nr) [gD d]) (oD (n:=s0.nx) (m:=s0.nr) [pW p x]) (TS P (G mx) 300 c [] (pHs l) fr0 s)=some (nF l,[v],s2,rX (n:=s0.nx) (m:=s0.nr) [gD d],y0 (n:=s0.nx) (m:=s0.nr) [pW p x]):=by kernel_rfl):W P (G mx) (XS P (G mx)) H0 c fr0 s Q:=BR Hd.Aa m [gD d] [pW p x] (Ac 300 l) h k
def qgB(d:Dg)(p:Pr)(x:Int)(l:List (PC P (G mx)))(k:TI (G mx) m s0 Q v s2)(h:af5 s0.nx s0.nr m [v] (nB (n:=s0.nx) (m:=s0.nr) [gD d]) (oD (n:=s0.nx) (m:=s0.nr) [pW p x]) (RU (TS P (G mx) 300) ks .normal (pHs l) fr0 s)=some (nF l,[v],s2,rX (n:=s0.nx) (m:=s0.nr) [gD d],y0 (n:=s0.nx) (m:=s0.nr) [pW p x]):=by kernel_rfl):Ej P (G mx) ks Q .normal fr0 s:=BR Hd.Aa m [gD d] [pW p x] (HH 300 l) h k
end
section
variable {f:Nat} {al:List AV} {p:Pr} {x:Int}
def quG{r:CR}(hr:∀ρ σ,RnR 1 0 ρ σ r r)(hS:pR mx f (.ptr 0 0::al) p r x)(u0:Nat)(ha:BS al=true):Cd.ok P (G mx) (.Ff f (.ptr u0 0::al) r [(u0,.cells (RH p))] [] [(u0,.cells (pC p x))] []) :=
 H5 (M:=[.cells (RH p)]) (M2:=[.cells (pC p x)]) (T:=[]) (T2:=[]) (k:=1) (j:=0) Hd.Aa _ _ _ _ hS rfl rfl rfl rfl rfl (List.nodup_cons.2 ⟨by simp,List.nodup_nil⟩) List.nodup_nil rfl rfl (.cons (.cells (.pl (CP.pl p))) .nil) (.cons (.cells (.pl (A1 (BK.IH p.Bj) (A1 rfl (A1 rfl rfl))))) .nil) (.cons (.ptr (by decide)) (.pl ha)) (hr _ _) (λe he=>by simp only[List.mem_singleton] at he;subst he;exact(.arg (.here .ptr)))
def Hy{y:Nd⊕Dg}(hS:pR mx f (.ptr 0 0::al) p (I4 eN eD y) x)(u0:Nat)(ha:BS al=true:=by kernel_rfl):Cd.ok P (G mx) (.Ff f (.ptr u0 0::al) (I4 eN eD y) [(u0,.cells (RH p))] [] [(u0,.cells (pC p x))] []):=quG (λ_ _=>MA (enc:=eN) (encd:=eD) (λyV=>AD.Cw yV) (λdV=>B7.Cw dV) y) hS u0 ha
def Ip{y:Tk⊕Dg}(hS:pR mx f (.ptr 0 0::al) p (I4 eT eD y) x)(u0:Nat)(ha:BS al=true:=by kernel_rfl):Cd.ok P (G mx) (.Ff f (.ptr u0 0::al) (I4 eT eD y) [(u0,.cells (RH p))] [] [(u0,.cells (pC p x))] []):=quG (λ_ _=>MA (enc:=eT) (encd:=eD) (λyV=>BK.Cw yV) (λdV=>B7.Cw dV) y) hS u0 ha
def bL{y:Int⊕Dg}(hS:pR mx f (.ptr 0 0::al) p (I4 eI eD y) x)(u0:Nat)(ha:BS al=true:=by kernel_rfl):Cd.ok P (G mx) (.Ff f (.ptr u0 0::al) (I4 eI eD y) [(u0,.cells (RH p))] [] [(u0,.cells (pC p x))] []):=quG (λ_ _=>MA (enc:=eI) (encd:=eD) (λyV=>rfl) (λdV=>B7.Cw dV) y) hS u0 ha
def Ns{y:(Int×Int)⊕Dg}(hS:pR mx f (.ptr 0 0::al) p (I4 eJ eD y) x)(u0:Nat)(ha:BS al=true:=by kernel_rfl):Cd.ok P (G mx) (.Ff f (.ptr u0 0::al) (I4 eJ eD y) [(u0,.cells (RH p))] [] [(u0,.cells (pC p x))] []):=quG (λ_ _=>MA (enc:=eJ) (encd:=eD) (λyV=>rfl) (λdV=>B7.Cw dV) y) hS u0 ha
def OB{a:AV}(hS:Sound P (G mx) (.call f (.ptr 0 0::al) (pZ p) (.ret a) (pZ p)))(u0:Nat)(ha:BS al=true:=by kernel_rfl)(hp:plain a=true:=by kernel_rfl):Cd.ok P (G mx) (.Ff f (.ptr u0 0::al) (.ret a) [(u0,.cells (RH p))] [] [(u0,.cells (RH p))] []):=quG (x:=p.Kb) (r:=.ret a) (λ_ _=>.pl hp) hS u0 ha
end
end Mo
end Go.Proofs.YtpbkhogolfegfaaGreatDoor
namespace Go.Proofs.YtpbkhogolfegfaaGreatDoor
open AI Go
namespace Mo
set_option maxRecDepth 100000
set_option maxHeartbeats 4000000
variable {mx:Int}
def B49:Code:=A3 Tryz.f49
def b49:Tryz.f49.body=some B49:=by kernel_rfl
def MT(p:Pr)(err:Int)(at_:Int):Option (Unit⊕Dg):=some (Sum.inr (⟨err,at_⟩:Dg):(Unit⊕Dg))
def Au{p:Pr}{err:Int}{at_:Int}{yR:(Unit⊕Dg)}(hS:Sound P (G mx) (.call 49 [.ptr 0 0,.zi err,.zi at_] (pZ p) (I4 (λyV=>.C6 []) eD yR) (pZ p)))(u0:Nat)(Qa:([u0]:List Nat).Nodup:=by decide)(Qb:([]:List Nat).Nodup:=by decide):Cd.ok P (G mx) (.Ff 49 [.ptr u0 0,.zi err,.zi at_] (I4 (λyV=>.C6 []) eD yR) [(u0,.cells (RH p))] [] [(u0,.cells (RH p))] []) :=
 H5 (M:=[.cells (RH p)]) (M2:=[.cells (RH p)]) (T:=[]) (T2:=[]) (k:=1) (j:=0) Hd.Aa _ _ _ _ hS rfl rfl rfl rfl rfl Qa Qb rfl rfl (.cons (.cells (.pl (CP.pl p))) .nil) (.cons (.cells (.pl (CP.pl p))) .nil) (.cons (.ptr (by decide)) (.cons (.pl rfl) (.cons (.pl rfl) .nil))) (MA (enc:=λyV=>.C6 []) (encd:=λdV=>.Fu 45 (.agg (OX dV))) (λyV=>rfl) (λdV=>(B7.Cw dV)) yR) (λe he=>by simp only[List.mem_singleton] at he;subst he;exact(.arg (.here .ptr)))
def Am{p:Pr}{err:Int}{at_:Int}{yR:(Unit⊕Dg)}(h:MT  p err at_=some yR):Sound P (G mx) (.call 49 [.ptr 0 0,.zi err,.zi at_] (pZ p) (I4 (λyV=>.C6 []) eD yR) (pZ p)):=by
 unfold MT at h;refine B0 Hd.mixed (Ay Tryz.func49 b49 ?_);revert h;rintro⟨⟩;exact BR Hd.Aa _ [⟨.Fu 45 (.agg [.zi err,.zi at_]),.Fu 45 (.agg [.zi err,.zi at_]),(.plain (B7.Cw (⟨err,at_⟩:Dg)))⟩] [bp (CP.pl p)] (Ac 300 [ppn]) (by kernel_rfl) .body
def B69:Code:=A3 Tryz.f69
def b69:Tryz.f69.body=some B69:=by kernel_rfl
def AF(p:Pr):Option (Tk⊕Dg):=cond (Oe ((p.Bj.length:Nat):Int) p.Kb) (some (Sum.inr (⟨72,p.DP⟩:Dg):(Tk⊕Dg))) ((Hc p.Bj p.Kb).bind λx1=>some (Sum.inl x1:(Tk⊕Dg)))
def AA{p:Pr}{yR:(Tk⊕Dg)}(hS:Sound P (G mx) (.call 69 [.ptr 0 0] (pZ p) (I4 eT eD yR) (pZ p)))(u0:Nat)(Qa:([u0]:List Nat).Nodup:=by decide)(Qb:([]:List Nat).Nodup:=by decide):Cd.ok P (G mx) (.Ff 69 [.ptr u0 0] (I4 eT eD yR) [(u0,.cells (RH p))] [] [(u0,.cells (RH p))] []) :=
 H5 (M:=[.cells (RH p)]) (M2:=[.cells (RH p)]) (T:=[]) (T2:=[]) (k:=1) (j:=0) Hd.Aa _ _ _ _ hS rfl rfl rfl rfl rfl Qa Qb rfl rfl (.cons (.cells (.pl (CP.pl p))) .nil) (.cons (.cells (.pl (CP.pl p))) .nil) (.cons (.ptr (by decide)) .nil) (MA (enc:=λyV=>.agg (GA yV)) (encd:=λdV=>.Fu 45 (.agg (OX dV))) (λyV=>(BK.Cw yV)) (λdV=>(B7.Cw dV)) yR) (λe he=>by simp only[List.mem_singleton] at he;subst he;exact(.arg (.here .ptr)))
def Ao{p:Pr}{yR:(Tk⊕Dg)}(h:AF  p=some yR):Sound P (G mx) (.call 69 [.ptr 0 0] (pZ p) (I4 eT eD yR) (pZ p)):=by
 unfold AF at h;refine B0 Hd.mixed (Ay Tryz.func69 b69 ?_);revert h;refine Ag (λA0=>?_) λA0=>?_;rintro⟨⟩;exact BR Hd.Aa _ [⟨.Fu 45 (.agg [.zi 72,.zi p.DP]),.Fu 45 (.agg [.zi 72,.zi p.DP]),(.plain (B7.Cw (⟨72,p.DP⟩:Dg)))⟩] [bp (CP.pl p)] (Ac 300 [pb A0,An (Au (Am (p:=p) (err:=72) (at_:=p.DP) rfl) 0)]) (by kernel_rfl) .body;refine Aq λx1 wJ=>?_;rintro⟨⟩;exact Aw Hd.Aa _ _ [⟨.agg (GA x1),.agg (GA x1),(.plain (BK.Cw x1))⟩] [bp (CP.pl p)] (Ac 300 [pb A0,nG,IV (aU .lost wJ)]) (by kernel_rfl) .body
def an0:Code:=A3 Tryz.f143
def aoK:Tryz.f143.body=some an0:=by kernel_rfl
def It(word:ByteArray):Option Bool:=cond (B2 word.data.toList Si.data.toList) (some true) (cond (B2 word.data.toList Of.data.toList) (some true) (cond (B2 word.data.toList Hl.data.toList) (some true) (cond (B2 word.data.toList aa1.data.toList) (some true) (cond (B2 word.data.toList tS.data.toList) (some true) (cond (B2 word.data.toList r4.data.toList) (some true) (cond (B2 word.data.toList toS.data.toList) (some true) (cond (B2 word.data.toList VN.data.toList) (some true) (cond (B2 word.data.toList cR.data.toList) (some true) (cond (B2 word.data.toList S4.data.toList) (some true) (cond (B2 word.data.toList QN.data.toList) (some true) (cond (B2 word.data.toList Hh.data.toList) (some true) (cond (B2 word.data.toList EK.data.toList) (some true) (cond (B2 word.data.toList JV.data.toList) (some true) (cond (B2 word.data.toList afS.data.toList) (some true) (cond (B2 word.data.toList Tu.data.toList) (some true) (cond (B2 word.data.toList Mr.data.toList) (some true) (cond (B2 word.data.toList PA.data.toList) (some true) (cond (B2 word.data.toList Ty.data.toList) (some true) (cond (B2 word.data.toList kI.data.toList) (some true) (cond (B2 word.data.toList P1.data.toList) (some true) (cond (B2 word.data.toList VT.data.toList) (some true) (cond (B2 word.data.toList iM.data.toList) (some true) (cond (B2 word.data.toList Zt.data.toList) (some true) (cond (B2 word.data.toList TP.data.toList) (some true) (cond (B2 word.data.toList dF.data.toList) (some true) (cond (B2 word.data.toList L2.data.toList) (some true) (cond (B2 word.data.toList dO.data.toList) (some true) (cond (B2 word.data.toList Q1.data.toList) (some true) (cond (B2 word.data.toList VA.data.toList) (some true) (cond (B2 word.data.toList K2.data.toList) (some true) (cond (B2 word.data.toList F0.data.toList) (some true) (cond (B2 word.data.toList Rl.data.toList) (some true) (some false)))))))))))))))))))))))))))))))))
def Jv{word:ByteArray}{yR:Bool}(h:It  word=some yR):Pure P (G mx) 143 [.zs word] (.zb yR):=by
 unfold It at h;refine C9 Hd.mixed Hd.Aa (Ay Tryz.func143 aoK ?_) (A1 rfl rfl) rfl;revert h;refine Ag (λA0=>?_) λA0=>?_;rintro⟨⟩;exact rT [pb A0];let o1:List (PC P (G mx)):=[pb A0];refine Ag (λCg=>?_) λCg=>?_;rintro⟨⟩;exact rT (o1++[pb Cg]);let o2:List (PC P (G mx)):=o1++[pb Cg];refine Ag (λDC=>?_) λDC=>?_;rintro⟨⟩;exact rT (o2++[pb DC]);let o3:List (PC P (G mx)):=o2++[pb DC];refine Ag (λFh=>?_) λFh=>?_;rintro⟨⟩;exact rT (o3++[pb Fh]);let o4:List (PC P (G mx)):=o3++[pb Fh];refine Ag (λH7=>?_) λH7=>?_;rintro⟨⟩;exact rT (o4++[pb H7]);let o5:List (PC P (G mx)):=o4++[pb H7];refine Ag (λIP=>?_) λIP=>?_;rintro⟨⟩;exact rT (o5++[pb IP]);let o6:List (PC P (G mx)):=o5++[pb IP];refine Ag (λJe=>?_) λJe=>?_;rintro⟨⟩;exact rT (o6++[pb Je]);let o7:List (PC P (G mx)):=o6++[pb Je];refine Ag (λKZ=>?_) λKZ=>?_;rintro⟨⟩;exact rT (o7++[pb KZ]);let o8:List (PC P (G mx)):=o7++[pb KZ];refine Ag (λKq=>?_) λKq=>?_;rintro⟨⟩;exact rT (o8++[pb Kq]);let o9:List (PC P (G mx)):=o8++[pb Kq];refine Ag (λGN=>?_) λGN=>?_;rintro⟨⟩;exact rT (o9++[pb GN]);let tI:List (PC P (G mx)):=o9++[pb GN];refine Ag (λIZ=>?_) λIZ=>?_;rintro⟨⟩;exact rT (tI++[pb IZ]);let o11:List (PC P (G mx)):=tI++[pb IZ];refine Ag (λJG=>?_) λJG=>?_;rintro⟨⟩;exact rT (o11++[pb JG]);let o12:List (PC P (G mx)):=o11++[pb JG];refine Ag (λJH=>?_) λJH=>?_;rintro⟨⟩;exact rT (o12++[pb JH]);let pU:List (PC P (G mx)):=o12++[pb JH];refine Ag (λKY=>?_) λKY=>?_;rintro⟨⟩;exact rT (pU++[pb KY]);let zL:List (PC P (G mx)):=pU++[pb KY];refine Ag (λLs=>?_) λLs=>?_;rintro⟨⟩;exact rT (zL++[pb Ls]);let zM:List (PC P (G mx)):=zL++[pb Ls];refine Ag (λN8=>?_) λN8=>?_;rintro⟨⟩;exact rT (zM++[pb N8]);let wZ:List (PC P (G mx)):=zM++[pb N8];refine Ag (λUU=>?_) λUU=>?_;rintro⟨⟩;exact rT (wZ++[pb UU]);let o17:List (PC P (G mx)):=wZ++[pb UU];refine Ag (λWU=>?_) λWU=>?_;rintro⟨⟩;exact rT (o17++[pb WU]);let o18:List (PC P (G mx)):=o17++[pb WU];refine Ag (λoH=>?_) λoH=>?_;rintro⟨⟩;exact rT (o18++[pb oH]);let o19:List (PC P (G mx)):=o18++[pb oH];refine Ag (λoI=>?_) λoI=>?_;rintro⟨⟩;exact rT (o19++[pb oI]);let o20:List (PC P (G mx)):=o19++[pb oI];refine Ag (λoJ=>?_) λoJ=>?_;rintro⟨⟩;exact rT (o20++[pb oJ]);let o21:List (PC P (G mx)):=o20++[pb oJ];refine Ag (λoK=>?_) λoK=>?_;rintro⟨⟩;exact rT (o21++[pb oK]);let o22:List (PC P (G mx)):=o21++[pb oK];refine Ag (λoL=>?_) λoL=>?_;rintro⟨⟩;exact rT (o22++[pb oL]);let o23:List (PC P (G mx)):=o22++[pb oL];refine Ag (λajC=>?_) λajC=>?_;rintro⟨⟩;exact rT (o23++[pb ajC]);let o24:List (PC P (G mx)):=o23++[pb ajC];refine Ag (λafk=>?_) λafk=>?_;rintro⟨⟩;exact rT (o24++[pb afk]);refine Ag (λajD=>?_) λajD=>?_;rintro⟨⟩;exact rT (o24++[pb afk,pb ajD]);let o25:List (PC P (G mx)):=o24++[pb afk,pb ajD];refine Ag (λafl=>?_) λafl=>?_;rintro⟨⟩;exact rT (o25++[pb afl]);refine Ag (λajE=>?_) λajE=>?_;rintro⟨⟩;exact rT (o25++[pb afl,pb ajE]);let o26:List (PC P (G mx)):=o25++[pb afl,pb ajE];refine Ag (λoM=>?_) λoM=>?_;rintro⟨⟩;exact rT (o26++[pb oM]);refine Ag (λwD=>?_) λwD=>?_;rintro⟨⟩;exact rT (o26++[pb oM,pb wD]);refine Ag (λabq=>?_) λabq=>?_;rintro⟨⟩;exact rT (o26++[pb oM,pb wD,pb abq]);refine Ag (λafm=>?_) λafm=>?_;rintro⟨⟩;exact rT (o26++[pb oM,pb wD,pb abq,pb afm]);refine Ag (λajF=>?_) λajF=>?_;rintro⟨⟩;exact rT (o26++[pb oM,pb wD,pb abq,pb afm,pb ajF]);rintro⟨⟩;exact rT (o26++[pb oM,pb wD,pb abq,pb afm,pb ajF])
def anP:Code:=A3 Tryz.f119
def aou:Tryz.f119.body=some anP:=by kernel_rfl
def Cz(token:Tk):Option Bool:=cond (CV token.kind 1) ((It token.text).bind λy1=>cond y1 (some false) (some true)) (some false)
def On{token:Tk}{yR:Bool}(h:Cz  token=some yR):Pure P (G mx) 119 [.agg (GA token)] (.zb yR):=by
 unfold Cz at h;refine C9 Hd.mixed Hd.Aa (Ay Tryz.func119 aou ?_) (A1 (BK.Cw token) rfl) rfl;revert h;refine Ag (λA0=>?_) λA0=>?_;refine Aq λy1 Cj=>?_;refine Ag (λhv=>?_) λhv=>?_;subst hv;rintro⟨⟩;exact rT [pb A0,AM (Jv Cj)];subst hv;rintro⟨⟩;exact rT [pb A0,AM (Jv Cj)];rintro⟨⟩;exact rT [pb A0]
def an3:Code:=A3 Tryz.f154
def aoN:Tryz.f154.body=some an3:=by kernel_rfl
def Dz(token:Tk)(a1:ByteArray):Option Bool:=cond (B2 token.text.data.toList a1.data.toList) (some true) (some false)
def PO{token:Tk}{a1:ByteArray}{yR:Bool}(hS:Sound P (G mx) (.call 154 [.agg (GA token),.ptr 0 0] ⟨[(0,.cells [.zs a1])],1,[],0⟩ (.ret (.zb yR)) ⟨[(0,.cells [.zs a1])],1,[],0⟩))(u0:Nat)(Qa:([u0]:List Nat).Nodup:=by decide)(Qb:([]:List Nat).Nodup:=by decide):Cd.ok P (G mx) (.Ff 154 [.agg (GA token),.ptr u0 0] (.ret (.zb yR)) [(u0,.cells [.zs a1])] [] [(u0,.cells [.zs a1])] []) :=
 H5 (M:=[.cells [.zs a1]]) (M2:=[.cells [.zs a1]]) (T:=[]) (T2:=[]) (k:=1) (j:=0) Hd.Aa _ _ _ _ hS rfl rfl rfl rfl rfl Qa Qb rfl rfl (.cons (.cells (.pl (A1 rfl rfl))) .nil) (.cons (.cells (.pl (A1 rfl rfl))) .nil) (.cons (.pl (BK.Cw token)) (.cons (.ptr (by decide)) .nil)) (.pl rfl) (λe he=>by simp only[List.mem_singleton] at he;subst he;exact(.arg (.there (.here .ptr))))
def NJ{token:Tk}{a1:ByteArray}{yR:Bool}(h:Dz  token a1=some yR):Sound P (G mx) (.call 154 [.agg (GA token),.ptr 0 0] ⟨[(0,.cells [.zs a1])],1,[],0⟩ (.ret (.zb yR)) ⟨[(0,.cells [.zs a1])],1,[],0⟩):=by
 unfold Dz at h;refine B0 Hd.mixed (Ay Tryz.func154 aoN ?_);revert h;refine Ag (λA0=>?_) λA0=>?_;rintro⟨⟩;exact Aw Hd.Aa _ _ [] [none] (Ac 300 [pb A0]) (by kernel_rfl) .body;rintro⟨⟩;exact Aw Hd.Aa _ _ [] [none] (Ac 300 [pb A0]) (by kernel_rfl) .body
def anO:Code:=A3 Tryz.f118
def dH:Tryz.f118.body=some anO:=by kernel_rfl
def Gv(p:Pr)(fits:ByteArray):Option ((Tk⊕Dg)×Int):=(AF p).bind λy1=>Sum.elim (λ(CM:Tk)=>(Dz CM fits).bind λy2=>cond y2 (some ((Sum.inl CM:(Tk⊕Dg)),(BC p.Kb 1))) (some ((Sum.inr (⟨71,CM.AH⟩:Dg):(Tk⊕Dg)),p.Kb))) (λ(L9:Dg)=>some ((Sum.inr L9:(Tk⊕Dg)),p.Kb)) y1
def LS{p:Pr}{fits:ByteArray}{yR:(Tk⊕Dg)}{Ai:Int}(hS:Sound P (G mx) (.call 118 [.ptr 0 0,.fn (.func 154) [] [.ptr 1 0]] ⟨[(1,.cells [.zs fits]),(0,.cells (RH p))],2,[],0⟩ (I4 eT eD yR) ⟨[(1,.cells [.zs fits]),(0,.cells (pC p Ai))],2,[],0⟩))(u0 u1:Nat)(Qa:([u0,u1]:List Nat).Nodup:=by decide)(Qb:([]:List Nat).Nodup:=by decide):Cd.ok P (G mx) (.Ff 118 [.ptr u0 0,.fn (.func 154) [] [.ptr u1 0]] (I4 eT eD yR) [(u0,.cells (RH p)),(u1,.cells [.zs fits])] [] [(u0,.cells (pC p Ai)),(u1,.cells [.zs fits])] []) :=
 H5 (M:=[.cells (RH p),.cells [.zs fits]]) (M2:=[.cells (pC p Ai),.cells [.zs fits]]) (T:=[]) (T2:=[]) (k:=2) (j:=0) Hd.Aa _ _ _ _ hS rfl rfl rfl rfl rfl Qa Qb rfl rfl (.cons (.cells (.pl (CP.pl p))) (.cons (.cells (.pl (A1 rfl rfl))) .nil)) (.cons (.cells (.pl (A1 (BK.IH p.Bj) (A1 rfl (A1 rfl rfl))))) (.cons (.cells (.pl (A1 rfl rfl))) .nil)) (.cons (.ptr (by decide)) (.cons (.fn (.pl rfl) (.cons (.ptr (by decide)) .nil)) .nil)) (MA (enc:=λyV=>.agg (GA yV)) (encd:=λdV=>.Fu 45 (.agg (OX dV))) (λyV=>(BK.Cw yV)) (λdV=>(B7.Cw dV)) yR) (by
   intro e he;simp only[List.mem_cons,List.not_mem_nil,or_false] at he;rcases he with rfl | rfl
   exact(.arg (.here .ptr));exact(.arg (.there (.here (.fn2 (.here .ptr)))))
   )
def Kt{p:Pr}{fits:ByteArray}{yR:(Tk⊕Dg)}{Ai:Int}(h:Gv  p fits=some (yR,Ai)):Sound P (G mx) (.call 118 [.ptr 0 0,.fn (.func 154) [] [.ptr 1 0]] ⟨[(1,.cells [.zs fits]),(0,.cells (RH p))],2,[],0⟩ (I4 eT eD yR) ⟨[(1,.cells [.zs fits]),(0,.cells (pC p Ai))],2,[],0⟩):=by
 unfold Gv at h;refine B0 Hd.mixed (Ay Tryz.func118 dH ?_);revert h;refine Aq λy1 Cj=>?_;refine Ti (λCM Mf=>?_) λL9 Mf=>?_;subst Mf;refine Aq λy2 D8=>?_;let o1:List (PC P (G mx)):=[Af (AA (Ao Cj) 0),Af (PO (NJ D8) 1)];refine Ag (λhv=>?_) λhv=>?_;subst hv;rintro⟨⟩;exact Aw Hd.Aa _ _ [⟨.agg (GA CM),.agg (GA CM),(.plain (BK.Cw CM))⟩] [none,pW p (BC p.Kb 1)] (Ac 300 (o1++[pk])) (by kernel_rfl) .body;subst hv;rintro⟨⟩;exact BR Hd.Aa _ [⟨.Fu 45 (.agg [.zi 71,.zi CM.AH]),.Fu 45 (.agg [.zi 71,.zi CM.AH]),(.plain (B7.Cw (⟨71,CM.AH⟩:Dg)))⟩] [none,bp (CP.pl p)] (Ac 300 (o1++[An (Au (Am (p:=p) (err:=71) (at_:=CM.AH) rfl) 0)])) (by kernel_rfl) .body;subst Mf;rintro⟨⟩;exact BR Hd.Aa _ [gD L9] [none,bp (CP.pl p)] (Ac 300 [An (AA (Ao Cj) 0)]) (by kernel_rfl) .body
def anQ:Code:=A3 Tryz.f120
def aov:Tryz.f120.body=some anQ:=by kernel_rfl
def Ak(p:Pr)(text:ByteArray):Option ((Tk⊕Dg)×Int):=(Gv p text).bind λ(EA,Bm)=>Sum.elim (λ(AB:Tk)=>some ((Sum.inl AB:(Tk⊕Dg)),Bm)) (λ(CU:Dg)=>some ((Sum.inr CU:(Tk⊕Dg)),Bm)) EA
def Ab{p:Pr}{text:ByteArray}{yR:(Tk⊕Dg)}{Ai:Int}(h:Ak  p text=some (yR,Ai)):pR mx 120 [.ptr 0 0,.zs text] p (I4 eT eD yR) Ai:=by
 unfold Ak at h;refine B0 Hd.mixed (Ay Tryz.func120 aov ?_);revert h;refine BW (λAB Bm Cj=>?_) λCU Bm Cj=>?_;refine EC ?_;rintro rfl rfl;exact Aw Hd.Aa _ _ [⟨.agg (GA AB),.agg (GA AB),(.plain (BK.Cw AB))⟩] [pW p Bm] (Ac 300 [Af (LS (Kt Cj) 0 1)]) (by kernel_rfl) .body;refine EC ?_;rintro rfl rfl;exact Ik CU p Bm [An (LS (Kt Cj) 0 1)] .body
def anR:Code:=A3 Tryz.f121
def aow:Tryz.f121.body=some anR:=by kernel_rfl
def Fi(token:Tk):Option Bool:=cond (B2 token.text.data.toList Hh.data.toList) (some true) (cond (B2 token.text.data.toList EK.data.toList) (some true) (cond (B2 token.text.data.toList JV.data.toList) (some true) (cond (CV token.kind 2) (some true) (some false))))
def T4{token:Tk}{yR:Bool}(h:Fi  token=some yR):Pure P (G mx) 121 [.agg (GA token)] (.zb yR):=by
 unfold Fi at h;refine C9 Hd.mixed Hd.Aa (Ay Tryz.func121 aow ?_) (A1 (BK.Cw token) rfl) rfl;revert h;refine Ag (λA0=>?_) λA0=>?_;rintro⟨⟩;exact rT [pb A0];refine Ag (λCg=>?_) λCg=>?_;rintro⟨⟩;exact rT [pb A0,pb Cg];refine Ag (λDC=>?_) λDC=>?_;rintro⟨⟩;exact rT [pb A0,pb Cg,pb DC];refine Ag (λFh=>?_) λFh=>?_;rintro⟨⟩;exact rT [pb A0,pb Cg,pb DC,pb Fh];rintro⟨⟩;exact rT [pb A0,pb Cg,pb DC,pb Fh]
def aiS:Code:=A3 Tryz.f122
def aox:Tryz.f122.body=some aiS:=by kernel_rfl
def EB(word:ByteArray):Option Int:=cond (B2 Tu.data.toList word.data.toList) (some 1) (cond (B2 Mr.data.toList word.data.toList) (some 2) (cond (B2 PA.data.toList word.data.toList) (some 3) (cond (B2 Ty.data.toList word.data.toList) (some 4) (some 0))))
def K4{word:ByteArray}{yR:Int}(h:EB  word=some yR):Pure P (G mx) 122 [.zs word] (.zi yR):=by
 unfold EB at h;refine C9 Hd.mixed Hd.Aa (Ay Tryz.func122 aox ?_) (A1 rfl rfl) rfl;revert h;refine DB (He (fr2:=fr 19 [(0,.zs word),(5,.agg [.zs ByteArray.empty,.zs Tu,.zs Mr,.zs PA,.zs Ty]),(6,.zi 0)] [] []) (s2:=⟨[],0,[],0⟩) [] 0 (sb aiS 52) [.code (sb aiS 7)] (Ac 300 []) (by kernel_rfl)) ?_;refine DB (Ep (fr2:=fr 19 [(0,.zs word),(5,.agg [.zs ByteArray.empty,.zs Tu,.zs Mr,.zs PA,.zs Ty]),(6,.zi 1),(7,.zb true),(11,.zb false),(12,.zb false),(16,.zb false)] [] []) (s2:=⟨[],0,[],0⟩) [] (Ac 300 [pk,pk,pk,pk]) (by kernel_rfl)) ?_;refine Ag (λA0=>?_) λA0=>?_;rintro⟨⟩;exact Az _ _ (Ac 300 [pk,pk,pk,pb A0]) (by kernel_rfl) (.Gi (.outer .body)) .sc;refine DB (Ep (fr2:=fr 19 [(0,.zs word),(5,.agg [.zs ByteArray.empty,.zs Tu,.zs Mr,.zs PA,.zs Ty]),(6,.zi 2),(7,.zb true),(11,.zb true),(12,.zb true),(15,.zb false),(16,.zb false)] [] []) (s2:=⟨[],0,[],0⟩) [] (Ac 300 [pk,pk,pk,pb A0,pk]) (by kernel_rfl)) ?_;refine Ag (λCg=>?_) λCg=>?_;rintro⟨⟩;exact Az _ _ (Ac 300 [pk,pk,pk,pb Cg]) (by kernel_rfl) (.Gi (.outer .body)) .sc;refine DB (Ep (fr2:=fr 19 [(0,.zs word),(5,.agg [.zs ByteArray.empty,.zs Tu,.zs Mr,.zs PA,.zs Ty]),(6,.zi 3),(7,.zb true),(11,.zb true),(12,.zb true),(15,.zb false),(16,.zb false)] [] []) (s2:=⟨[],0,[],0⟩) [] (Ac 300 [pk,pk,pk,pb Cg,pk]) (by kernel_rfl)) ?_;refine Ag (λDC=>?_) λDC=>?_;rintro⟨⟩;exact Az _ _ (Ac 300 [pk,pk,pk,pb DC]) (by kernel_rfl) (.Gi (.outer .body)) .sc;refine DB (Ep (fr2:=fr 19 [(0,.zs word),(5,.agg [.zs ByteArray.empty,.zs Tu,.zs Mr,.zs PA,.zs Ty]),(6,.zi 4),(7,.zb true),(11,.zb true),(12,.zb true),(15,.zb false),(16,.zb false)] [] []) (s2:=⟨[],0,[],0⟩) [] (Ac 300 [pk,pk,pk,pb DC,pk]) (by kernel_rfl)) ?_;refine Ag (λFh=>?_) λFh=>?_;rintro⟨⟩;exact Az _ _ (Ac 300 [pk,pk,pk,pb Fh]) (by kernel_rfl) (.Gi (.outer .body)) .sc;refine DB (Ep (fr2:=fr 19 [(0,.zs word),(5,.agg [.zs ByteArray.empty,.zs Tu,.zs Mr,.zs PA,.zs Ty]),(6,.zi 5),(7,.zb true),(11,.zb true),(12,.zb true),(15,.zb false),(16,.zb false)] [] []) (s2:=⟨[],0,[],0⟩) [] (Ac 300 [pk,pk,pk,pb Fh,pk]) (by kernel_rfl)) ?_;refine eS (DZ (id:=0) (fr2:=fr 19 [(7,.zb false),(11,.zb true),(12,.zb true),(15,.zb false),(16,.zb false)] [] []) (s2:=⟨[],0,[],0⟩) (Ac 300 [pk]) (by kernel_rfl)) ?_;rintro⟨⟩;exact Az _ _ (fS 300 []) (by kernel_rfl) .body .sc
def anS:Code:=A3 Tryz.f123
def aoy:Tryz.f123.body=some anS:=by kernel_rfl
def BX(token:Tk):Option Bool:=(EB token.text).bind λy1=>cond (DS 0 y1) (some true) (some false)
def LR{token:Tk}{yR:Bool}(h:BX  token=some yR):Pure P (G mx) 123 [.agg (GA token)] (.zb yR):=by
 unfold BX at h;refine C9 Hd.mixed Hd.Aa (Ay Tryz.func123 aoy ?_) (A1 (BK.Cw token) rfl) rfl;revert h;refine Aq λy1 Cj=>?_;refine Ag (λA0=>?_) λA0=>?_;rintro⟨⟩;exact rT [AM (K4 Cj),pb A0];rintro⟨⟩;exact rT [AM (K4 Cj),pb A0]
def DI(p:Pr):Option ((Tk⊕Dg)×Int):=(AF p).bind λy1=>Sum.elim (λ(CM:Tk)=>(Cz CM).bind λy2=>cond y2 (some ((Sum.inl CM:(Tk⊕Dg)),(BC p.Kb 1))) (some ((Sum.inr (⟨71,CM.AH⟩:Dg):(Tk⊕Dg)),p.Kb))) (λ(L9:Dg)=>some ((Sum.inr L9:(Tk⊕Dg)),p.Kb)) y1
def Ec{p:Pr}{yR:(Tk⊕Dg)}{Ai:Int}(h:DI  p=some (yR,Ai)):pR mx 118 [.ptr 0 0,.fn (.func 119) [] []] p (I4 eT eD yR) Ai:=by
 unfold DI at h;refine B0 Hd.mixed (Ay Tryz.func118 dH ?_);revert h;refine Aq λy1 Cj=>?_;refine Ti (λCM Mf=>?_) λL9 Mf=>?_;subst Mf;refine Aq λy2 D8=>?_;let o1:List (PC P (G mx)):=[Af (AA (Ao Cj) 0),AM (On D8)];refine Ag (λhv=>?_) λhv=>?_;subst hv;rintro⟨⟩;exact Aw Hd.Aa _ _ [⟨.agg (GA CM),.agg (GA CM),(.plain (BK.Cw CM))⟩] [pW p (BC p.Kb 1)] (Ac 300 (o1++[pk])) (by kernel_rfl) .body;subst hv;rintro⟨⟩;exact BR Hd.Aa _ [⟨.Fu 45 (.agg [.zi 71,.zi CM.AH]),.Fu 45 (.agg [.zi 71,.zi CM.AH]),(.plain (B7.Cw (⟨71,CM.AH⟩:Dg)))⟩] [bp (CP.pl p)] (Ac 300 (o1++[An (Au (Am (p:=p) (err:=71) (at_:=CM.AH) rfl) 0)])) (by kernel_rfl) .body;subst Mf;rintro⟨⟩;exact BR Hd.Aa _ [gD L9] [bp (CP.pl p)] (Ac 300 [An (AA (Ao Cj) 0)]) (by kernel_rfl) .body
def EN(p:Pr):Option ((Tk⊕Dg)×Int):=(AF p).bind λy1=>Sum.elim (λ(CM:Tk)=>(Fi CM).bind λy2=>cond y2 (some ((Sum.inl CM:(Tk⊕Dg)),(BC p.Kb 1))) (some ((Sum.inr (⟨71,CM.AH⟩:Dg):(Tk⊕Dg)),p.Kb))) (λ(L9:Dg)=>some ((Sum.inr L9:(Tk⊕Dg)),p.Kb)) y1
def Iv{p:Pr}{yR:(Tk⊕Dg)}{Ai:Int}(h:EN  p=some (yR,Ai)):pR mx 118 [.ptr 0 0,.fn (.func 121) [] []] p (I4 eT eD yR) Ai:=by
 unfold EN at h;refine B0 Hd.mixed (Ay Tryz.func118 dH ?_);revert h;refine Aq λy1 Cj=>?_;refine Ti (λCM Mf=>?_) λL9 Mf=>?_;subst Mf;refine Aq λy2 D8=>?_;let o1:List (PC P (G mx)):=[Af (AA (Ao Cj) 0),AM (T4 D8)];refine Ag (λhv=>?_) λhv=>?_;subst hv;rintro⟨⟩;exact Aw Hd.Aa _ _ [⟨.agg (GA CM),.agg (GA CM),(.plain (BK.Cw CM))⟩] [pW p (BC p.Kb 1)] (Ac 300 (o1++[pk])) (by kernel_rfl) .body;subst hv;rintro⟨⟩;exact BR Hd.Aa _ [⟨.Fu 45 (.agg [.zi 71,.zi CM.AH]),.Fu 45 (.agg [.zi 71,.zi CM.AH]),(.plain (B7.Cw (⟨71,CM.AH⟩:Dg)))⟩] [bp (CP.pl p)] (Ac 300 (o1++[An (Au (Am (p:=p) (err:=71) (at_:=CM.AH) rfl) 0)])) (by kernel_rfl) .body;subst Mf;rintro⟨⟩;exact BR Hd.Aa _ [gD L9] [bp (CP.pl p)] (Ac 300 [An (AA (Ao Cj) 0)]) (by kernel_rfl) .body
def Gb(p:Pr):Option ((Tk⊕Dg)×Int):=(AF p).bind λy1=>Sum.elim (λ(CM:Tk)=>(BX CM).bind λy2=>cond y2 (some ((Sum.inl CM:(Tk⊕Dg)),(BC p.Kb 1))) (some ((Sum.inr (⟨71,CM.AH⟩:Dg):(Tk⊕Dg)),p.Kb))) (λ(L9:Dg)=>some ((Sum.inr L9:(Tk⊕Dg)),p.Kb)) y1
def JY{p:Pr}{yR:(Tk⊕Dg)}{Ai:Int}(h:Gb  p=some (yR,Ai)):pR mx 118 [.ptr 0 0,.fn (.func 123) [] []] p (I4 eT eD yR) Ai:=by
 unfold Gb at h;refine B0 Hd.mixed (Ay Tryz.func118 dH ?_);revert h;refine Aq λy1 Cj=>?_;refine Ti (λCM Mf=>?_) λL9 Mf=>?_;subst Mf;refine Aq λy2 D8=>?_;let o1:List (PC P (G mx)):=[Af (AA (Ao Cj) 0),AM (LR D8)];refine Ag (λhv=>?_) λhv=>?_;subst hv;rintro⟨⟩;exact Aw Hd.Aa _ _ [⟨.agg (GA CM),.agg (GA CM),(.plain (BK.Cw CM))⟩] [pW p (BC p.Kb 1)] (Ac 300 (o1++[pk])) (by kernel_rfl) .body;subst hv;rintro⟨⟩;exact BR Hd.Aa _ [⟨.Fu 45 (.agg [.zi 71,.zi CM.AH]),.Fu 45 (.agg [.zi 71,.zi CM.AH]),(.plain (B7.Cw (⟨71,CM.AH⟩:Dg)))⟩] [bp (CP.pl p)] (Ac 300 (o1++[An (Au (Am (p:=p) (err:=71) (at_:=CM.AH) rfl) 0)])) (by kernel_rfl) .body;subst Mf;rintro⟨⟩;exact BR Hd.Aa _ [gD L9] [bp (CP.pl p)] (Ac 300 [An (AA (Ao Cj) 0)]) (by kernel_rfl) .body
def B70:Code:=A3 Tryz.f70
def b70:Tryz.f70.body=some B70:=by kernel_rfl
def DH(p:Pr):Option ((Nd⊕Dg)×Int):=(AF p).bind λy1=>Sum.elim (λ(CM:Tk)=>(DI (⟨p.Bj,(BC p.Kb 1),p.DP⟩:Pr)).bind λ(Ij,ES)=>Sum.elim (λ(Db:Tk)=>(Ak (⟨p.Bj,ES,p.DP⟩:Pr) Vd).bind λ(IW,EU)=>Sum.elim (λ(CN:Tk)=>(EN (⟨p.Bj,EU,p.DP⟩:Pr)).bind λ(Wg,JM)=>Sum.elim (λ(Dr:Tk)=>cond (B2 CM.text.data.toList Of.data.toList) ((Gb (⟨p.Bj,JM,p.DP⟩:Pr)).bind λ(SH,HV)=>Sum.elim (λ(IE:Tk)=>(EB IE.text).bind λy6=>(Ak (⟨p.Bj,HV,p.DP⟩:Pr) RY).bind λ(rA,R0)=>Sum.elim (λ(Vz:Tk)=>some ((Sum.inl (⟨3,Db.text,Dr.text,y6,0,0,0,(⟨0,[]⟩:Fn),[],CM.AH⟩:Nd):(Nd⊕Dg)),R0)) (λ(PV:Dg)=>some ((Sum.inr PV:(Nd⊕Dg)),R0)) rA) (λ(Hj:Dg)=>some ((Sum.inr Hj:(Nd⊕Dg)),HV)) SH) ((Ak (⟨p.Bj,JM,p.DP⟩:Pr) RY).bind λ(ZJ,L5)=>Sum.elim (λ(G9:Tk)=>some ((Sum.inl (⟨2,Db.text,Dr.text,0,0,0,0,(⟨0,[]⟩:Fn),[],CM.AH⟩:Nd):(Nd⊕Dg)),L5)) (λ(L4:Dg)=>some ((Sum.inr L4:(Nd⊕Dg)),L5)) ZJ)) (λ(ID:Dg)=>some ((Sum.inr ID:(Nd⊕Dg)),JM)) Wg) (λ(EE:Dg)=>some ((Sum.inr EE:(Nd⊕Dg)),EU)) IW) (λ(Hi:Dg)=>some ((Sum.inr Hi:(Nd⊕Dg)),ES)) Ij) (λ(L9:Dg)=>some ((Sum.inr L9:(Nd⊕Dg)),p.Kb)) y1
def Eb{p:Pr}{yR:(Nd⊕Dg)}{Ai:Int}(h:DH  p=some (yR,Ai)):pR mx 70 [.ptr 0 0] p (I4 eN eD yR) Ai:=by
 unfold DH at h;refine B0 Hd.mixed (Ay Tryz.func70 b70 ?_);revert h;refine Aq λy1 Cj=>?_;refine Ti (λCM Mf=>?_) λL9 Mf=>?_;subst Mf;let o1:List (PC P (G mx)):=[Af (AA (Ao Cj) 0),pk];refine BW (λDb ES D8=>?_) λHi ES D8=>?_;let o2:List (PC P (G mx)):=o1++[Af (Ip (Ec D8) 0)];refine BW (λCN EU Fj=>?_) λEE EU Fj=>?_;let o3:List (PC P (G mx)):=o2++[Af (Ip (Ab Fj) 0)];refine BW (λDr JM Kd=>?_) λID JM Kd=>?_;let o4:List (PC P (G mx)):=o3++[Af (Ip (Iv Kd) 0)];refine Ag (λA0=>?_) λA0=>?_;refine BW (λIE HV Kx=>?_) λHj HV Kx=>?_;refine Aq λy6 Mh=>?_;let o5:List (PC P (G mx)):=o4++[pb A0,Af (Ip (JY Kx) 0),AM (K4 Mh)];refine BW (λVz R0 SV=>?_) λPV R0 SV=>?_;refine EC ?_;rintro rfl rfl;exact Aw Hd.Aa _ _ [⟨.agg [.zi 3,.zs Db.text,.zs Dr.text,.zi y6,.zi 0,.zi 0,.zi 0,.zi 0,.sl .full 0 [],.sl .full 0 [],.zi CM.AH],.agg [.zi 3,.zs Db.text,.zs Dr.text,.zi y6,.zi 0,.zi 0,.zi 0,.zi 0,.sl .lost ([].length) (rows Jj []),.sl .lost ([].length) (BF []),.zi CM.AH],(.wn (.g (.r (.r (.r (.r (.r (.r (.r (.r (.z (.z (.r .nil))))))))))) .nil) (AD.Cw (⟨3,Db.text,Dr.text,y6,0,0,0,(⟨0,[]⟩:Fn),[],CM.AH⟩:Nd)))⟩] [pW p R0] (Ac 300 (o5++[Af (Ip (Ab SV) 0)])) (by kernel_rfl) .body;refine EC ?_;rintro rfl rfl;exact Ik PV p R0 (o5++[An (Ip (Ab SV) 0)]) .body;refine EC ?_;rintro rfl rfl;exact Ik Hj p HV (o4++[pb A0,An (Ip (JY Kx) 0)]) .body;refine BW (λG9 L5 OU=>?_) λL4 L5 OU=>?_;refine EC ?_;rintro rfl rfl;exact Aw Hd.Aa _ _ [⟨.agg [.zi 2,.zs Db.text,.zs Dr.text,.zi 0,.zi 0,.zi 0,.zi 0,.zi 0,.sl .full 0 [],.sl .full 0 [],.zi CM.AH],.agg [.zi 2,.zs Db.text,.zs Dr.text,.zi 0,.zi 0,.zi 0,.zi 0,.zi 0,.sl .lost ([].length) (rows Jj []),.sl .lost ([].length) (BF []),.zi CM.AH],(.wn (.g (.r (.r (.r (.r (.r (.r (.r (.r (.z (.z (.r .nil))))))))))) .nil) (AD.Cw (⟨2,Db.text,Dr.text,0,0,0,0,(⟨0,[]⟩:Fn),[],CM.AH⟩:Nd)))⟩] [pW p L5] (Ac 300 (o4++[pb A0,Af (Ip (Ab OU) 0)])) (by kernel_rfl) .body;refine EC ?_;rintro rfl rfl;exact Ik L4 p L5 (o4++[pb A0,An (Ip (Ab OU) 0)]) .body;refine EC ?_;rintro rfl rfl;exact Ik ID p JM (o3++[An (Ip (Iv Kd) 0)]) .body;refine EC ?_;rintro rfl rfl;exact Ik EE p EU (o2++[An (Ip (Ab Fj) 0)]) .body;refine EC ?_;rintro rfl rfl;exact Ik Hi p ES (o1++[An (Ip (Ec D8) 0)]) .body;subst Mf;refine EC ?_;rintro rfl rfl;exact BR Hd.Aa _ [gD L9] [bp (CP.pl p)] (Ac 300 [An (AA (Ao Cj) 0)]) (by kernel_rfl) .body
def aoa:Code:=A3 Tryz.f172
def aoU:Tryz.f172.body=some aoa:=by kernel_rfl
def Eu(token:Tk):Option Bool:=cond (CV token.kind 3) (some true) (some false)
def NK{token:Tk}{yR:Bool}(h:Eu  token=some yR):Pure P (G mx) 172 [.agg (GA token)] (.zb yR):=by
 unfold Eu at h;refine C9 Hd.mixed Hd.Aa (Ay Tryz.func172 aoU ?_) (A1 (BK.Cw token) rfl) rfl;revert h;refine Ag (λA0=>?_) λA0=>?_;rintro⟨⟩;exact rT [pb A0];rintro⟨⟩;exact rT [pb A0]
def H9(p:Pr):Option ((Tk⊕Dg)×Int):=(AF p).bind λy1=>Sum.elim (λ(CM:Tk)=>(Eu CM).bind λy2=>cond y2 (some ((Sum.inl CM:(Tk⊕Dg)),(BC p.Kb 1))) (some ((Sum.inr (⟨71,CM.AH⟩:Dg):(Tk⊕Dg)),p.Kb))) (λ(L9:Dg)=>some ((Sum.inr L9:(Tk⊕Dg)),p.Kb)) y1
def Jw{p:Pr}{yR:(Tk⊕Dg)}{Ai:Int}(h:H9  p=some (yR,Ai)):pR mx 118 [.ptr 0 0,.fn (.func 172) [] []] p (I4 eT eD yR) Ai:=by
 unfold H9 at h;refine B0 Hd.mixed (Ay Tryz.func118 dH ?_);revert h;refine Aq λy1 Cj=>?_;refine Ti (λCM Mf=>?_) λL9 Mf=>?_;subst Mf;refine Aq λy2 D8=>?_;let o1:List (PC P (G mx)):=[Af (AA (Ao Cj) 0),AM (NK D8)];refine Ag (λhv=>?_) λhv=>?_;subst hv;rintro⟨⟩;exact Aw Hd.Aa _ _ [⟨.agg (GA CM),.agg (GA CM),(.plain (BK.Cw CM))⟩] [pW p (BC p.Kb 1)] (Ac 300 (o1++[pk])) (by kernel_rfl) .body;subst hv;rintro⟨⟩;exact BR Hd.Aa _ [⟨.Fu 45 (.agg [.zi 71,.zi CM.AH]),.Fu 45 (.agg [.zi 71,.zi CM.AH]),(.plain (B7.Cw (⟨71,CM.AH⟩:Dg)))⟩] [bp (CP.pl p)] (Ac 300 (o1++[An (Au (Am (p:=p) (err:=71) (at_:=CM.AH) rfl) 0)])) (by kernel_rfl) .body;subst Mf;rintro⟨⟩;exact BR Hd.Aa _ [gD L9] [bp (CP.pl p)] (Ac 300 [An (AA (Ao Cj) 0)]) (by kernel_rfl) .body
def an4:Code:=A3 Tryz.f155
def aoO:Tryz.f155.body=some an4:=by kernel_rfl
def E4(p:Pr):Option (((Int×Int)⊕Dg)×Int):=(H9 p).bind λ(EA,Bm)=>Sum.elim (λ(AB:Tk)=>(Sa AB.text).bind λ(Ij,ES)=>some ((Sum.inl (Ij,AB.AH):((Int×Int)⊕Dg)),Bm)) (λ(CU:Dg)=>some ((Sum.inr CU:((Int×Int)⊕Dg)),Bm)) EA
def Fq{p:Pr}{yR:((Int×Int)⊕Dg)}{Ai:Int}(h:E4  p=some (yR,Ai)):pR mx 155 [.ptr 0 0] p (I4 eJ eD yR) Ai:=by
 unfold E4 at h;refine B0 Hd.mixed (Ay Tryz.func155 aoO ?_);revert h;refine BW (λAB Bm Cj=>?_) λCU Bm Cj=>?_;refine Aq ?_;rintro⟨Ij,ES⟩ D8;dsimp only;refine EC ?_;rintro rfl rfl;exact Aw Hd.Aa _ _ [⟨.C6 [.zi Ij,.zi AB.AH],.C6 [.zi Ij,.zi AB.AH],(.plain (A1 rfl (A1 rfl rfl)))⟩] [pW p Bm] (Ac 300 [Af (Ip (Jw Cj) 0),AM (rG D8)]) (by kernel_rfl) .body;refine EC ?_;rintro rfl rfl;exact Ik CU p Bm [An (Ip (Jw Cj) 0)] .body
def anT:Code:=A3 Tryz.f124
def aoz:Tryz.f124.body=some anT:=by kernel_rfl
def AL(p:Pr)(least:Int):Option (((Int×Int)⊕Dg)×Int):=(E4 p).bind λ(EA,Bm)=>Sum.elim (λ(AB:(Int×Int))=>cond (DS AB.1 least) (some ((Sum.inr (⟨3,AB.2⟩:Dg):((Int×Int)⊕Dg)),Bm)) (cond (DS 1000000 AB.1) (some ((Sum.inr (⟨3,AB.2⟩:Dg):((Int×Int)⊕Dg)),Bm)) (some ((Sum.inl (AB.1,AB.2):((Int×Int)⊕Dg)),Bm)))) (λ(CU:Dg)=>some ((Sum.inr CU:((Int×Int)⊕Dg)),Bm)) EA
def Al{p:Pr}{least:Int}{yR:((Int×Int)⊕Dg)}{Ai:Int}(h:AL  p least=some (yR,Ai)):pR mx 124 [.ptr 0 0,.zi least] p (I4 eJ eD yR) Ai:=by
 unfold AL at h;refine B0 Hd.mixed (Ay Tryz.func124 aoz ?_);revert h;refine BW (λAB Bm Cj=>?_) λCU Bm Cj=>?_;let o1:List (PC P (G mx)):=[Af (Ns (Fq Cj) 0)];refine Ag (λA0=>?_) λA0=>?_;refine EC ?_;rintro rfl rfl;exact BR Hd.Aa _ [⟨.Fu 45 (.agg [.zi 3,.zi AB.2]),.Fu 45 (.agg [.zi 3,.zi AB.2]),(.plain (B7.Cw (⟨3,AB.2⟩:Dg)))⟩] [pW p Bm] (Ac 300 (o1++[pb A0,An (Au (Am (p:=(⟨p.Bj,Bm,p.DP⟩:Pr)) (err:=3) (at_:=AB.2) rfl) 0)])) (by kernel_rfl) .body;refine Ag (λCg=>?_) λCg=>?_;refine EC ?_;rintro rfl rfl;exact BR Hd.Aa _ [⟨.Fu 45 (.agg [.zi 3,.zi AB.2]),.Fu 45 (.agg [.zi 3,.zi AB.2]),(.plain (B7.Cw (⟨3,AB.2⟩:Dg)))⟩] [pW p Bm] (Ac 300 (o1++[pb A0,pb Cg,An (Au (Am (p:=(⟨p.Bj,Bm,p.DP⟩:Pr)) (err:=3) (at_:=AB.2) rfl) 0)])) (by kernel_rfl) .body;refine EC ?_;rintro rfl rfl;exact Aw Hd.Aa _ _ [⟨.C6 [.zi AB.1,.zi AB.2],.C6 [.zi AB.1,.zi AB.2],(.plain (A1 rfl (A1 rfl rfl)))⟩] [pW p Bm] (Ac 300 (o1++[pb A0,pb Cg])) (by kernel_rfl) .body;refine EC ?_;rintro rfl rfl;exact Ik CU p Bm [An (Ns (Fq Cj) 0)] .body
def B37:Code:=A3 Tryz.f37
def b37:Tryz.f37.body=some B37:=by kernel_rfl
def As(p:Pr)(text:ByteArray):Option Bool:=cond (DS p.Kb ((p.Bj.length:Nat):Int)) ((Hc p.Bj p.Kb).bind λx1=>(some (B2 x1.text.data.toList text.data.toList)).bind λq2=>some q2) (some false)
def Ah{p:Pr}{text:ByteArray}{yR:Bool}(h:As  p text=some yR):Sound P (G mx) (.call 37 [.ptr 0 0,.zs text] (pZ p) (.ret (.zb yR)) (pZ p)):=by
 unfold As at h;refine B0 Hd.mixed (Ay Tryz.func37 b37 ?_);revert h;refine Ag (λA0=>?_) λA0=>?_;refine Aq λx1 wJ=>?_;refine Aq λq2 ZL=>?_;rintro⟨⟩;exact Aw Hd.Aa _ _ [] [bp (CP.pl p)] (Ac 300 [pb A0,IV (aU .lost wJ),KH (anJ ZL (.tmp 26) (.tmp 27))]) (by kernel_rfl) .body;rintro⟨⟩;exact Aw Hd.Aa _ _ [] [bp (CP.pl p)] (Ac 300 [pb A0]) (by kernel_rfl) .body
def aob:Code:=A3 Tryz.f174
def aoV:Tryz.f174.body=some aob:=by kernel_rfl
def E3(token:Tk):Option Bool:=cond (CV token.kind 5) (some true) (some false)
def O3{token:Tk}{yR:Bool}(h:E3  token=some yR):Pure P (G mx) 174 [.agg (GA token)] (.zb yR):=by
 unfold E3 at h;refine C9 Hd.mixed Hd.Aa (Ay Tryz.func174 aoV ?_) (A1 (BK.Cw token) rfl) rfl;revert h;refine Ag (λA0=>?_) λA0=>?_;rintro⟨⟩;exact rT [pb A0];rintro⟨⟩;exact rT [pb A0]
def aof:Code:=A3 Tryz.f212
def ao1:Tryz.f212.body=some aof:=by kernel_rfl
def Gp(year:Int)(month:Int):Option Int:=(Hc beforeL (BC month 1)).bind λx1=>(Hc beforeL month).bind λx2=>cond (CV month 1) (cond (CV (gK year 4) 0) (some (BC (L3 x1 x2) 1)) (some (L3 x1 x2))) (some (L3 x1 x2))
def QP{year:Int}{month:Int}{yR:Int}(h:Gp  year month=some yR):Pure P (G mx) 212 [.zi year,.zi month] (.zi yR):=by
 unfold Gp at h;refine C9 Hd.mixed Hd.Aa (Ay Tryz.func212 ao1 ?_) (A1 rfl (A1 rfl rfl)) rfl;revert h;refine Aq λx1 wJ=>?_;refine Aq λx2 zJ=>?_;let o1:List (PC P (G mx)):=[pk,IV (pF wJ),IV (pF zJ),pk];refine Ag (λA0=>?_) λA0=>?_;refine Ag (λCg=>?_) λCg=>?_;rintro⟨⟩;exact rT (o1++[pb A0,pk,pb Cg,pk]);rintro⟨⟩;exact rT (o1++[pb A0,pk,pb Cg]);rintro⟨⟩;exact rT (o1++[pb A0])
def aoj:Code:=A3 Tryz.f227
def ao6:Tryz.f227.body=some aoj:=by kernel_rfl
def JR(year:Int):Option Int:=some (BC (BU (L3 year 2000) 365) (yQ (BC (L3 year 2000) 3) 4))
def P4{year:Int}{yR:Int}(h:JR  year=some yR):Pure P (G mx) 227 [.zi year] (.zi yR):=by
 unfold JR at h;refine C9 Hd.mixed Hd.Aa (Ay Tryz.func227 ao6 ?_) (A1 rfl rfl) rfl;revert h;rintro⟨⟩;exact rT [pk,pk,pk,pk,pk]
def aog:Code:=A3 Tryz.f213
def ao2:Tryz.f213.body=some aog:=by kernel_rfl
def Iq(month:Int):Option Int:=cond (DS month 0) (some (-1)) (cond (DS 1199 month) (some (-1)) ((JR (BC 2000 (yQ month 12))).bind λy1=>(Hc beforeL (gK month 12)).bind λx2=>cond (DS 1 (gK month 12)) (cond (CV (gK (BC 2000 (yQ month 12)) 4) 0) (some (BC (BC y1 x2) 1)) (some (BC y1 x2))) (some (BC y1 x2))))
def S8{month:Int}{yR:Int}(h:Iq  month=some yR):Pure P (G mx) 213 [.zi month] (.zi yR):=by
 unfold Iq at h;refine C9 Hd.mixed Hd.Aa (Ay Tryz.func213 ao2 ?_) (A1 rfl rfl) rfl;revert h;refine Ag (λA0=>?_) λA0=>?_;rintro⟨⟩;exact rT [pb A0];refine Ag (λCg=>?_) λCg=>?_;rintro⟨⟩;exact rT [pb A0,pb Cg];refine Aq λy1 Cj=>?_;refine Aq λx2 zJ=>?_;let o1:List (PC P (G mx)):=[pb A0,pb Cg,pk,pk,AM (P4 Cj),pk,IV (pF zJ),pk,pk];refine Ag (λDC=>?_) λDC=>?_;refine Ag (λFh=>?_) λFh=>?_;rintro⟨⟩;exact rT (o1++[pb DC,pk,pb Fh,pk]);rintro⟨⟩;exact rT (o1++[pb DC,pk,pb Fh]);rintro⟨⟩;exact rT (o1++[pb DC])
def aod:Code:=A3 Tryz.f195
def aoZ:Tryz.f195.body=some aod:=by kernel_rfl
def JQ(year:Int)(month:Int)(day:Int):Option (Int×Int):=cond (DS year 2000) (some (0,21)) (cond (DS 2099 year) (some (0,21)) (cond (DS month 1) (some (0,21)) (cond (DS 12 month) (some (0,21)) (cond (DS day 1) (some (0,21)) ((Gp year (L3 month 1)).bind λy1=>cond (DS y1 day) (some (0,21)) ((Iq (L3 (BC (BU (L3 year 2000) 12) month) 1)).bind λy2=>some ((L3 (BC y2 day) 1),0)))))))
def UL{year:Int}{month:Int}{day:Int}{yR:(Int×Int)}(h:JQ  year month day=some yR):Pure P (G mx) 195 [.zi year,.zi month,.zi day] (.C6 [.zi yR.1,.zi yR.2]):=by
 unfold JQ at h;refine C9 Hd.mixed Hd.Aa (Ay Tryz.func195 aoZ ?_) (A1 rfl (A1 rfl (A1 rfl rfl))) (A1 rfl (A1 rfl rfl));revert h;refine Ag (λA0=>?_) λA0=>?_;rintro⟨⟩;exact Az _ _ (Ac 300 [pb A0]) (by kernel_rfl) .body (.plain (A1 rfl (A1 rfl rfl)));refine Ag (λCg=>?_) λCg=>?_;rintro⟨⟩;exact Az _ _ (Ac 300 [pb A0,pb Cg]) (by kernel_rfl) .body (.plain (A1 rfl (A1 rfl rfl)));refine Ag (λDC=>?_) λDC=>?_;rintro⟨⟩;exact Az _ _ (Ac 300 [pb A0,pb Cg,pb DC]) (by kernel_rfl) .body (.plain (A1 rfl (A1 rfl rfl)));refine Ag (λFh=>?_) λFh=>?_;rintro⟨⟩;exact Az _ _ (Ac 300 [pb A0,pb Cg,pb DC,pb Fh]) (by kernel_rfl) .body (.plain (A1 rfl (A1 rfl rfl)));refine Ag (λH7=>?_) λH7=>?_;rintro⟨⟩;exact Az _ _ (Ac 300 [pb A0,pb Cg,pb DC,pb Fh,pb H7]) (by kernel_rfl) .body (.plain (A1 rfl (A1 rfl rfl)));refine Aq λy1 Cj=>?_;let o1:List (PC P (G mx)):=[pb A0,pb Cg,pb DC,pb Fh,pb H7,pk,AM (QP Cj)];refine Ag (λIP=>?_) λIP=>?_;rintro⟨⟩;exact Az _ _ (Ac 300 (o1++[pb IP])) (by kernel_rfl) .body (.plain (A1 rfl (A1 rfl rfl)));refine Aq λy2 D8=>?_;rintro⟨⟩;exact Az _ _ (Ac 300 (o1++[pb IP,pk,pk,pk,pk,AM (S8 D8),pk,pk])) (by kernel_rfl) .body (.plain (A1 rfl (A1 rfl rfl)))
def aiX:Code:=A3 Tryz.f175
def aoW:Tryz.f175.body=some aiX:=by kernel_rfl
def Cc(i0:Nat)(e0:UInt8)(Lj:Int)(Fe:Int)(BD:Int)(Vs:Int):Option (Lp (Int×Int×Int×Int) (Int×Int×Int) (Int×Int)):=cond (CV ((i0:Nat):Int) 4) (cond (CV ((e0.toNat:Nat):Int) 45) (some (.nx ((BC Lj 1),Fe,BD,Vs))) (some (.rt (0,12)))) (cond (CV ((i0:Nat):Int) 7) (cond (CV ((e0.toNat:Nat):Int) 45) (some (.nx ((BC Lj 1),Fe,BD,Vs))) (some (.rt (0,12)))) (cond (DS ((e0.toNat:Nat):Int) 48) (some (.rt (0,12))) (cond (DS 57 ((e0.toNat:Nat):Int)) (some (.rt (0,12))) (cond (CV Lj 0) (some (.nx (Lj,(BC (BU Fe 10) (w64 (Nu .u8 (fX ((e0.toNat:Nat):Int) 48)))),BD,Vs))) (cond (CV Lj 1) (some (.nx (Lj,Fe,(BC (BU BD 10) (w64 (Nu .u8 (fX ((e0.toNat:Nat):Int) 48)))),Vs))) (cond (CV Lj 2) (some (.nx (Lj,Fe,BD,(BC (BU Vs 10) (w64 (Nu .u8 (fX ((e0.toNat:Nat):Int) 48))))))) (none)))))))
def FA(text:ByteArray):Option (Int×Int):=cond (CV ((text.data.toList.length:Nat):Int) 10) ((TA text.data.toList.length (C8 (λi y x=>Cc   i y x.1 x.2.1 x.2.2.1 x.2.2.2) (λx=>(x.2.1,x.2.2.1,x.2.2.2)) (text.data.toList.drop 0) 0 (0,0,0,0))).bind (MN (λ((adW,adX,adZ):(Int×Int×Int))=>(JQ adW adX adZ).bind λ(Ij,ES)=>some (Ij,ES)) (λv=>some v))) (some (0,12))
def S9{text:ByteArray}{yR:(Int×Int)}(h:FA  text=some yR):Pure P (G mx) 175 [.zs text] (.C6 [.zi yR.1,.zi yR.2]):=by
 unfold FA at h;refine C9 Hd.mixed Hd.Aa (Ay Tryz.func175 aoW ?_) (A1 rfl rfl) (A1 rfl (A1 rfl rfl));revert h;refine Ag (λA0=>?_) λA0=>?_;refine R9 (λQ v=>KW P Tryz.f175 0 Q (.C6 [.zi v.1,.zi v.2])) (λi0 ((Lj,Fe,BD,Vs):(Int×Int×Int×Int)) (j0:List Value)=>fr 58 [(0,.zs text),(4,.ptr 0 0),(5,.zi Lj),(13,.zi ((text.data.toList.length:Nat):Int)),(14,.zi ((i0:Nat):Int))] [10,15,30,32,33,35,36,38,41,43,44,46,47] j0) (λ((Lj,Fe,BD,Vs):(Int×Int×Int×Int))=>⟨[(0,.cells [.zi Fe,.zi BD,.zi Vs])],1,[],0⟩) (λ((Fe,BD,Vs):(Int×Int×Int)) (jx:List Value)=>fr 58 [(4,.ptr 0 0)] [10,15,30,32,33,35,36,38,41,43,44,46,47] jx) (λ((Fe,BD,Vs):(Int×Int×Int))=>⟨[(0,.cells [.zi Fe,.zi BD,.zi Vs])],1,[],0⟩) [bF] (He [] 0 (sb aiX 500) [.code (sb aiX 63)] (Ac 300 [pn A0]) (by kernel_rfl)) ?_ ?_ ?_ (λv h=>by cases h;exact .outer .body);rintro i0 ⟨Lj,Fe,BD,Vs⟩ j0 OT hq;exact DZ (Ac 300 [pb (j7 OT)]) (by kernel_rfl) (hq (js 13 j0 [(1,bF)]));rintro i0 e0 ⟨Lj,Fe,BD,Vs⟩ j0 r QU P9 OZ k;show Cc   i0 e0 Lj Fe BD Vs=some r->_;unfold Cc;let o1:List (PC P (G mx)):=[pb (ZN P9),Sz (WY QU)];refine Ag (λCg=>?_) λCg=>?_;refine Ag (λDC=>?_) λDC=>?_;rintro⟨⟩;exact Ho (Ac 300 (o1++[pb Cg,pn DC,pk,pi OZ])) (by kernel_rfl) (k (js 13 j0 [(1,bT),(2,bT),(3,bT),(4,bT),(5,undef),(6,bT),(7,bF)]));rintro⟨⟩;exact Az _ _ (Ac 300 (o1++[pb Cg,pn DC])) (by kernel_rfl) (.Gi k) (.plain (A1 rfl (A1 rfl rfl)));refine Ag (λFh=>?_) λFh=>?_;refine Ag (λH7=>?_) λH7=>?_;rintro⟨⟩;exact Ho (Ac 300 (o1++[pb Cg,pb Fh,pn H7,pk,pi OZ])) (by kernel_rfl) (k (js 13 j0 [(1,bT),(2,bT),(3,bF),(4,bF),(5,bT),(6,bT),(7,bF)]));rintro⟨⟩;exact Az _ _ (Ac 300 (o1++[pb Cg,pb Fh,pn H7])) (by kernel_rfl) (.Gi k) (.plain (A1 rfl (A1 rfl rfl)));refine Ag (λIP=>?_) λIP=>?_;rintro⟨⟩;exact Az _ _ (Ac 300 (o1++[pb Cg,pb Fh,pb IP])) (by kernel_rfl) (.Gi k) (.plain (A1 rfl (A1 rfl rfl)));refine Ag (λJe=>?_) λJe=>?_;rintro⟨⟩;exact Az _ _ (Ac 300 (o1++[pb Cg,pb Fh,pb IP,pb Je])) (by kernel_rfl) (.Gi k) (.plain (A1 rfl (A1 rfl rfl)));refine Ag (λKZ=>?_) λKZ=>?_;rintro⟨⟩;exact Ho (Ac 300 (o1++[pb Cg,pb Fh,pb IP,pb Je,IV (t:=173) (a:=.ptr 0 0) (b:=.zi Lj) (v:=.ptr 0 0) (by rw[FR KZ];kernel_rfl),pk,pk,pk,IV (t:=173) (a:=.ptr 0 0) (b:=.zi Lj) (v:=.ptr 0 0) (by rw[FR KZ];kernel_rfl),pi OZ])) (by kernel_rfl) (k [(jv j0 0),bT,bF,bF,bF,bF,bF,(jv j0 7),bF,bF,bF,bF,bF]);refine Ag (λKq=>?_) λKq=>?_;rintro⟨⟩;exact Ho (Ac 300 (o1++[pb Cg,pb Fh,pb IP,pb Je,IV (t:=173) (a:=.ptr 0 0) (b:=.zi Lj) (v:=.ptr 0 1) (by rw[FR Kq];kernel_rfl),pk,pk,pk,IV (t:=173) (a:=.ptr 0 0) (b:=.zi Lj) (v:=.ptr 0 1) (by rw[FR Kq];kernel_rfl),pi OZ])) (by kernel_rfl) (k [(jv j0 0),bT,bF,bF,bF,bF,bF,(jv j0 7),bF,bF,bF,bF,bF]);refine Ag (λGN=>?_) λGN=>?_;rintro⟨⟩;exact Ho (Ac 300 (o1++[pb Cg,pb Fh,pb IP,pb Je,IV (t:=173) (a:=.ptr 0 0) (b:=.zi Lj) (v:=.ptr 0 2) (by rw[FR GN];kernel_rfl),pk,pk,pk,IV (t:=173) (a:=.ptr 0 0) (b:=.zi Lj) (v:=.ptr 0 2) (by rw[FR GN];kernel_rfl),pi OZ])) (by kernel_rfl) (k [(jv j0 0),bT,bF,bF,bF,bF,bF,(jv j0 7),bF,bF,bF,bF,bF]);exact fC;rintro⟨adW,adX,adZ⟩ aqt;dsimp only;refine Aq ?_;rintro⟨Ij,ES⟩ D8;dsimp only;rintro⟨⟩;exact Az _ _ (HH 300 [pk,pk,pk,AM (UL D8)]) (by kernel_rfl) .body (.plain (A1 rfl (A1 rfl rfl)));rintro⟨⟩;exact Az _ _ (Ac 300 [pn A0]) (by kernel_rfl) .body (.plain (A1 rfl (A1 rfl rfl)))
def Hf(p:Pr):Option ((Tk⊕Dg)×Int):=(AF p).bind λy1=>Sum.elim (λ(CM:Tk)=>(E3 CM).bind λy2=>cond y2 (some ((Sum.inl CM:(Tk⊕Dg)),(BC p.Kb 1))) (some ((Sum.inr (⟨71,CM.AH⟩:Dg):(Tk⊕Dg)),p.Kb))) (λ(L9:Dg)=>some ((Sum.inr L9:(Tk⊕Dg)),p.Kb)) y1
def I1{p:Pr}{yR:(Tk⊕Dg)}{Ai:Int}(h:Hf  p=some (yR,Ai)):pR mx 118 [.ptr 0 0,.fn (.func 174) [] []] p (I4 eT eD yR) Ai:=by
 unfold Hf at h;refine B0 Hd.mixed (Ay Tryz.func118 dH ?_);revert h;refine Aq λy1 Cj=>?_;refine Ti (λCM Mf=>?_) λL9 Mf=>?_;subst Mf;refine Aq λy2 D8=>?_;let o1:List (PC P (G mx)):=[Af (AA (Ao Cj) 0),AM (O3 D8)];refine Ag (λhv=>?_) λhv=>?_;subst hv;rintro⟨⟩;exact Aw Hd.Aa _ _ [⟨.agg (GA CM),.agg (GA CM),(.plain (BK.Cw CM))⟩] [pW p (BC p.Kb 1)] (Ac 300 (o1++[pk])) (by kernel_rfl) .body;subst hv;rintro⟨⟩;exact BR Hd.Aa _ [⟨.Fu 45 (.agg [.zi 71,.zi CM.AH]),.Fu 45 (.agg [.zi 71,.zi CM.AH]),(.plain (B7.Cw (⟨71,CM.AH⟩:Dg)))⟩] [bp (CP.pl p)] (Ac 300 (o1++[An (Au (Am (p:=p) (err:=71) (at_:=CM.AH) rfl) 0)])) (by kernel_rfl) .body;subst Mf;rintro⟨⟩;exact BR Hd.Aa _ [gD L9] [bp (CP.pl p)] (Ac 300 [An (AA (Ao Cj) 0)]) (by kernel_rfl) .body
def an5:Code:=A3 Tryz.f156
def aoP:Tryz.f156.body=some an5:=by kernel_rfl
def D3(p:Pr)(least:Int):Option ((Int⊕Dg)×Int):=(Hf p).bind λ(EA,Bm)=>Sum.elim (λ(AB:Tk)=>(FA AB.text).bind λ(Ij,ES)=>cond (CV ES 0) (cond (DS Ij least) (some ((Sum.inr (⟨21,AB.AH⟩:Dg):(Int⊕Dg)),Bm)) (some ((Sum.inl Ij:(Int⊕Dg)),Bm))) (some ((Sum.inr (⟨21,AB.AH⟩:Dg):(Int⊕Dg)),Bm))) (λ(CU:Dg)=>some ((Sum.inr CU:(Int⊕Dg)),Bm)) EA
def CK{p:Pr}{least:Int}{yR:(Int⊕Dg)}{Ai:Int}(h:D3  p least=some (yR,Ai)):pR mx 156 [.ptr 0 0,.zi least] p (I4 eI eD yR) Ai:=by
 unfold D3 at h;refine B0 Hd.mixed (Ay Tryz.func156 aoP ?_);revert h;refine BW (λAB Bm Cj=>?_) λCU Bm Cj=>?_;refine Aq ?_;rintro⟨Ij,ES⟩ D8;dsimp only;let o1:List (PC P (G mx)):=[Af (Ip (I1 Cj) 0),AM (S9 D8)];refine Ag (λA0=>?_) λA0=>?_;refine Ag (λCg=>?_) λCg=>?_;refine EC ?_;rintro rfl rfl;exact BR Hd.Aa _ [⟨.Fu 45 (.agg [.zi 21,.zi AB.AH]),.Fu 45 (.agg [.zi 21,.zi AB.AH]),(.plain (B7.Cw (⟨21,AB.AH⟩:Dg)))⟩] [pW p Bm] (Ac 300 (o1++[pn A0,pb Cg,An (Au (Am (p:=(⟨p.Bj,Bm,p.DP⟩:Pr)) (err:=21) (at_:=AB.AH) rfl) 0)])) (by kernel_rfl) .body;refine EC ?_;rintro rfl rfl;exact Aw Hd.Aa _ _ [] [pW p Bm] (Ac 300 (o1++[pn A0,pb Cg])) (by kernel_rfl) .body;refine EC ?_;rintro rfl rfl;exact BR Hd.Aa _ [⟨.Fu 45 (.agg [.zi 21,.zi AB.AH]),.Fu 45 (.agg [.zi 21,.zi AB.AH]),(.plain (B7.Cw (⟨21,AB.AH⟩:Dg)))⟩] [pW p Bm] (Ac 300 (o1++[pn A0,An (Au (Am (p:=(⟨p.Bj,Bm,p.DP⟩:Pr)) (err:=21) (at_:=AB.AH) rfl) 0)])) (by kernel_rfl) .body;refine EC ?_;rintro rfl rfl;exact Ik CU p Bm [An (Ip (I1 Cj) 0)] .body
def anU:Code:=A3 Tryz.f125
def aoA:Tryz.f125.body=some anU:=by kernel_rfl
def Hv(p:Pr):Option ((Nd⊕Dg)×Int):=(Ak p tS).bind λ(EA,Bm)=>Sum.elim (λ(AB:Tk)=>(AL (⟨p.Bj,Bm,p.DP⟩:Pr) 0).bind λ(Ij,ES)=>Sum.elim (λ(Db:(Int×Int))=>(Ak (⟨p.Bj,ES,p.DP⟩:Pr) r4).bind λ(IW,EU)=>Sum.elim (λ(CN:Tk)=>(D3 (⟨p.Bj,EU,p.DP⟩:Pr) 0).bind λ(Wg,JM)=>Sum.elim (λ(Dr:Int)=>(As (⟨p.Bj,JM,p.DP⟩:Pr) toS).bind λy5=>cond y5 ((D3 (⟨p.Bj,(BC JM 1),p.DP⟩:Pr) (BC Dr 1)).bind λ(mX,OV)=>Sum.elim (λ(Jo:Int)=>(Ak (⟨p.Bj,OV,p.DP⟩:Pr) VN).bind λ(rA,R0)=>Sum.elim (λ(Vz:Tk)=>(D3 (⟨p.Bj,R0,p.DP⟩:Pr) 0).bind λ(ZJ,L5)=>Sum.elim (λ(G9:Int)=>some ((Sum.inl (⟨5,ByteArray.empty,ByteArray.empty,Db.1,Dr,Jo,G9,(⟨0,[]⟩:Fn),[],AB.AH⟩:Nd):(Nd⊕Dg)),L5)) (λ(L4:Dg)=>some ((Sum.inr L4:(Nd⊕Dg)),L5)) ZJ) (λ(PV:Dg)=>some ((Sum.inr PV:(Nd⊕Dg)),R0)) rA) (λ(Nl:Dg)=>some ((Sum.inr Nl:(Nd⊕Dg)),OV)) mX) ((Ak (⟨p.Bj,JM,p.DP⟩:Pr) VN).bind λ(gV,RM)=>Sum.elim (λ(Xd:Tk)=>(D3 (⟨p.Bj,RM,p.DP⟩:Pr) 0).bind λ(ZF,K6)=>Sum.elim (λ(J7:Int)=>some ((Sum.inl (⟨5,ByteArray.empty,ByteArray.empty,Db.1,Dr,36525,J7,(⟨0,[]⟩:Fn),[],AB.AH⟩:Nd):(Nd⊕Dg)),K6)) (λ(ZG:Dg)=>some ((Sum.inr ZG:(Nd⊕Dg)),K6)) ZF) (λ(ZK:Dg)=>some ((Sum.inr ZK:(Nd⊕Dg)),RM)) gV)) (λ(ID:Dg)=>some ((Sum.inr ID:(Nd⊕Dg)),JM)) Wg) (λ(EE:Dg)=>some ((Sum.inr EE:(Nd⊕Dg)),EU)) IW) (λ(Hi:Dg)=>some ((Sum.inr Hi:(Nd⊕Dg)),ES)) Ij) (λ(CU:Dg)=>some ((Sum.inr CU:(Nd⊕Dg)),Bm)) EA
def Lh{p:Pr}{yR:(Nd⊕Dg)}{Ai:Int}(h:Hv  p=some (yR,Ai)):pR mx 125 [.ptr 0 0] p (I4 eN eD yR) Ai:=by
 unfold Hv at h;refine B0 Hd.mixed (Ay Tryz.func125 aoA ?_);revert h;refine BW (λAB Bm Cj=>?_) λCU Bm Cj=>?_;let o1:List (PC P (G mx)):=[Af (Ip (Ab Cj) 0)];refine BW (λDb ES D8=>?_) λHi ES D8=>?_;let o2:List (PC P (G mx)):=o1++[Af (Ns (Al D8) 0)];refine BW (λCN EU Fj=>?_) λEE EU Fj=>?_;let o3:List (PC P (G mx)):=o2++[Af (Ip (Ab Fj) 0)];refine BW (λDr JM Kd=>?_) λID JM Kd=>?_;refine Aq λy5 Kx=>?_;let o4:List (PC P (G mx)):=o3++[Af (bL (CK Kd) 0),Af (OB (Ah Kx) 0)];refine Ag (λhv=>?_) λhv=>?_;subst hv;refine BW (λJo OV Mh=>?_) λNl OV Mh=>?_;let o5:List (PC P (G mx)):=o4++[pk,pk,Af (bL (CK Mh) 0)];refine BW (λVz R0 SV=>?_) λPV R0 SV=>?_;refine BW (λG9 L5 OU=>?_) λL4 L5 OU=>?_;refine EC ?_;rintro rfl rfl;exact Aw Hd.Aa _ _ [⟨.agg [.zi 5,.zs ByteArray.empty,.zs ByteArray.empty,.zi Db.1,.zi Dr,.zi Jo,.zi G9,.zi 0,.sl .full 0 [],.sl .full 0 [],.zi AB.AH],.agg [.zi 5,.zs ByteArray.empty,.zs ByteArray.empty,.zi Db.1,.zi Dr,.zi Jo,.zi G9,.zi 0,.sl .lost ([].length) (rows Jj []),.sl .lost ([].length) (BF []),.zi AB.AH],(.wn (.g (.r (.r (.r (.r (.r (.r (.r (.r (.z (.z (.r .nil))))))))))) .nil) (AD.Cw (⟨5,ByteArray.empty,ByteArray.empty,Db.1,Dr,Jo,G9,(⟨0,[]⟩:Fn),[],AB.AH⟩:Nd)))⟩] [pW p L5] (Ac 300 (o5++[Af (Ip (Ab SV) 0),Af (bL (CK OU) 0)])) (by kernel_rfl) .body;refine EC ?_;rintro rfl rfl;exact Ik L4 p L5 (o5++[Af (Ip (Ab SV) 0),An (bL (CK OU) 0)]) .body;refine EC ?_;rintro rfl rfl;exact Ik PV p R0 (o5++[An (Ip (Ab SV) 0)]) .body;refine EC ?_;rintro rfl rfl;exact Ik Nl p OV (o4++[pk,pk,An (bL (CK Mh) 0)]) .body;subst hv;refine BW (λXd RM U1=>?_) λZK RM U1=>?_;refine BW (λJ7 K6 Qd=>?_) λZG K6 Qd=>?_;refine EC ?_;rintro rfl rfl;exact Aw Hd.Aa _ _ [⟨.agg [.zi 5,.zs ByteArray.empty,.zs ByteArray.empty,.zi Db.1,.zi Dr,.zi 36525,.zi J7,.zi 0,.sl .full 0 [],.sl .full 0 [],.zi AB.AH],.agg [.zi 5,.zs ByteArray.empty,.zs ByteArray.empty,.zi Db.1,.zi Dr,.zi 36525,.zi J7,.zi 0,.sl .lost ([].length) (rows Jj []),.sl .lost ([].length) (BF []),.zi AB.AH],(.wn (.g (.r (.r (.r (.r (.r (.r (.r (.r (.z (.z (.r .nil))))))))))) .nil) (AD.Cw (⟨5,ByteArray.empty,ByteArray.empty,Db.1,Dr,36525,J7,(⟨0,[]⟩:Fn),[],AB.AH⟩:Nd)))⟩] [pW p K6] (Ac 300 (o4++[Af (Ip (Ab U1) 0),Af (bL (CK Qd) 0)])) (by kernel_rfl) .body;refine EC ?_;rintro rfl rfl;exact Ik ZG p K6 (o4++[Af (Ip (Ab U1) 0),An (bL (CK Qd) 0)]) .body;refine EC ?_;rintro rfl rfl;exact Ik ZK p RM (o4++[An (Ip (Ab U1) 0)]) .body;refine EC ?_;rintro rfl rfl;exact Ik ID p JM (o3++[An (bL (CK Kd) 0)]) .body;refine EC ?_;rintro rfl rfl;exact Ik EE p EU (o2++[An (Ip (Ab Fj) 0)]) .body;refine EC ?_;rintro rfl rfl;exact Ik Hi p ES (o1++[An (Ns (Al D8) 0)]) .body;refine EC ?_;rintro rfl rfl;exact Ik CU p Bm [An (Ip (Ab Cj) 0)] .body
def an7:Code:=A3 Tryz.f160
def aoR:Tryz.f160.body=some an7:=by kernel_rfl
def EZ(token:Tk):Option Bool:=cond (CV token.kind 4) (some true) (some false)
def O2{token:Tk}{yR:Bool}(h:EZ  token=some yR):Pure P (G mx) 160 [.agg (GA token)] (.zb yR):=by
 unfold EZ at h;refine C9 Hd.mixed Hd.Aa (Ay Tryz.func160 aoR ?_) (A1 (BK.Cw token) rfl) rfl;revert h;refine Ag (λA0=>?_) λA0=>?_;rintro⟨⟩;exact rT [pb A0];rintro⟨⟩;exact rT [pb A0]
def an8:Code:=A3 Tryz.f161
def aoS:Tryz.f161.body=some an8:=by kernel_rfl
def CF(token:Tk):Option Int:=(K5 token.text akP ByteArray.empty 1).bind λy1=>(Sa y1).bind λ(Ij,ES)=>some Ij
def Pg{token:Tk}{yR:Int}(h:CF  token=some yR):Pure P (G mx) 161 [.agg (GA token)] (.zi yR):=by
 unfold CF at h;refine C9 Hd.mixed Hd.Aa (Ay Tryz.func161 aoS ?_) (A1 (BK.Cw token) rfl) rfl;revert h;refine Aq λy1 Cj=>?_;refine Aq ?_;rintro⟨Ij,ES⟩ D8;dsimp only;rintro⟨⟩;exact rT [AM (fN Cj),AM (rG D8)]
def aok:Code:=A3 Tryz.f228
def ao7:Tryz.f228.body=some aok:=by kernel_rfl
def Dq(token:Tk):Option Bool:=cond (CV token.kind 4) (some true) (cond (CV token.kind 3) (some true) (some false))
def Oy{token:Tk}{yR:Bool}(h:Dq  token=some yR):Pure P (G mx) 228 [.agg (GA token)] (.zb yR):=by
 unfold Dq at h;refine C9 Hd.mixed Hd.Aa (Ay Tryz.func228 ao7 ?_) (A1 (BK.Cw token) rfl) rfl;revert h;refine Ag (λA0=>?_) λA0=>?_;rintro⟨⟩;exact rT [pb A0];refine Ag (λCg=>?_) λCg=>?_;rintro⟨⟩;exact rT [pb A0,pb Cg];rintro⟨⟩;exact rT [pb A0,pb Cg]
def GV(p:Pr):Option ((Tk⊕Dg)×Int):=(AF p).bind λy1=>Sum.elim (λ(CM:Tk)=>(Dq CM).bind λy2=>cond y2 (some ((Sum.inl CM:(Tk⊕Dg)),(BC p.Kb 1))) (some ((Sum.inr (⟨71,CM.AH⟩:Dg):(Tk⊕Dg)),p.Kb))) (λ(L9:Dg)=>some ((Sum.inr L9:(Tk⊕Dg)),p.Kb)) y1
def IM{p:Pr}{yR:(Tk⊕Dg)}{Ai:Int}(h:GV  p=some (yR,Ai)):pR mx 118 [.ptr 0 0,.fn (.func 228) [] []] p (I4 eT eD yR) Ai:=by
 unfold GV at h;refine B0 Hd.mixed (Ay Tryz.func118 dH ?_);revert h;refine Aq λy1 Cj=>?_;refine Ti (λCM Mf=>?_) λL9 Mf=>?_;subst Mf;refine Aq λy2 D8=>?_;let o1:List (PC P (G mx)):=[Af (AA (Ao Cj) 0),AM (Oy D8)];refine Ag (λhv=>?_) λhv=>?_;subst hv;rintro⟨⟩;exact Aw Hd.Aa _ _ [⟨.agg (GA CM),.agg (GA CM),(.plain (BK.Cw CM))⟩] [pW p (BC p.Kb 1)] (Ac 300 (o1++[pk])) (by kernel_rfl) .body;subst hv;rintro⟨⟩;exact BR Hd.Aa _ [⟨.Fu 45 (.agg [.zi 71,.zi CM.AH]),.Fu 45 (.agg [.zi 71,.zi CM.AH]),(.plain (B7.Cw (⟨71,CM.AH⟩:Dg)))⟩] [bp (CP.pl p)] (Ac 300 (o1++[An (Au (Am (p:=p) (err:=71) (at_:=CM.AH) rfl) 0)])) (by kernel_rfl) .body;subst Mf;rintro⟨⟩;exact BR Hd.Aa _ [gD L9] [bp (CP.pl p)] (Ac 300 [An (AA (Ao Cj) 0)]) (by kernel_rfl) .body
def aoh:Code:=A3 Tryz.f214
def ao3:Tryz.f214.body=some aoh:=by kernel_rfl
def BV(p:Pr):Option (((Int×Int)⊕Dg)×Int):=(GV p).bind λ(EA,Bm)=>Sum.elim (λ(AB:Tk)=>(CF AB).bind λy2=>cond (CV AB.kind 3) (cond (CV y2 0) (some ((Sum.inl (y2,AB.AH):((Int×Int)⊕Dg)),Bm)) (some ((Sum.inr (⟨3,AB.AH⟩:Dg):((Int×Int)⊕Dg)),Bm))) (some ((Sum.inl (y2,AB.AH):((Int×Int)⊕Dg)),Bm))) (λ(CU:Dg)=>some ((Sum.inr CU:((Int×Int)⊕Dg)),Bm)) EA
def Bq{p:Pr}{yR:((Int×Int)⊕Dg)}{Ai:Int}(h:BV  p=some (yR,Ai)):pR mx 214 [.ptr 0 0] p (I4 eJ eD yR) Ai:=by
 unfold BV at h;refine B0 Hd.mixed (Ay Tryz.func214 ao3 ?_);revert h;refine BW (λAB Bm Cj=>?_) λCU Bm Cj=>?_;refine Aq λy2 D8=>?_;let o1:List (PC P (G mx)):=[Af (Ip (IM Cj) 0),AM (Pg D8)];refine Ag (λA0=>?_) λA0=>?_;refine Ag (λCg=>?_) λCg=>?_;refine EC ?_;rintro rfl rfl;exact Aw Hd.Aa _ _ [⟨.C6 [.zi y2,.zi AB.AH],.C6 [.zi y2,.zi AB.AH],(.plain (A1 rfl (A1 rfl rfl)))⟩] [pW p Bm] (Ac 300 (o1++[pb A0,pn Cg])) (by kernel_rfl) .body;refine EC ?_;rintro rfl rfl;exact BR Hd.Aa _ [⟨.Fu 45 (.agg [.zi 3,.zi AB.AH]),.Fu 45 (.agg [.zi 3,.zi AB.AH]),(.plain (B7.Cw (⟨3,AB.AH⟩:Dg)))⟩] [pW p Bm] (Ac 300 (o1++[pb A0,pn Cg,An (Au (Am (p:=(⟨p.Bj,Bm,p.DP⟩:Pr)) (err:=3) (at_:=AB.AH) rfl) 0)])) (by kernel_rfl) .body;refine EC ?_;rintro rfl rfl;exact Aw Hd.Aa _ _ [⟨.C6 [.zi y2,.zi AB.AH],.C6 [.zi y2,.zi AB.AH],(.plain (A1 rfl (A1 rfl rfl)))⟩] [pW p Bm] (Ac 300 (o1++[pb A0])) (by kernel_rfl) .body;refine EC ?_;rintro rfl rfl;exact Ik CU p Bm [An (Ip (IM Cj) 0)] .body
def aol:Code:=A3 Tryz.f229
def ao8:Tryz.f229.body=some aol:=by kernel_rfl
def E6(token:Tk):Option Bool:=cond (B2 token.text.data.toList OA.data.toList) (some true) (cond (B2 token.text.data.toList Lu.data.toList) (some true) (some false))
def O4{token:Tk}{yR:Bool}(h:E6  token=some yR):Pure P (G mx) 229 [.agg (GA token)] (.zb yR):=by
 unfold E6 at h;refine C9 Hd.mixed Hd.Aa (Ay Tryz.func229 ao8 ?_) (A1 (BK.Cw token) rfl) rfl;revert h;refine Ag (λA0=>?_) λA0=>?_;rintro⟨⟩;exact rT [pb A0];refine Ag (λCg=>?_) λCg=>?_;rintro⟨⟩;exact rT [pb A0,pb Cg];rintro⟨⟩;exact rT [pb A0,pb Cg]
end Mo
end Go.Proofs.YtpbkhogolfegfaaGreatDoor
