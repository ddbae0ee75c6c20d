/- Part of a proof: see the last text. -/
import Derived.Test.YtpbkhogolfegfaaGreatDoorPto
import Derived.Test.YtpbkhogolfegfaaGreatDoorCards
import Derived.Test.YtpbkhogolfegfaaGreatDoorTie
import Derived.Lib.LaidTab
import Derived.Lib.LaidIn
import Derived.Shelf.Vars
set_option linter.unusedVariables false
set_option linter.unusedSimpArgs false
set_option linter.defProp false
noncomputable section
namespace Go.Proofs.YtpbkhogolfegfaaGreatDoor
open AI Go Go.RowKit LexS
def chunks{α:Type}{V:α->List Value}{k:Nat}:∀{l:List α} {cs:List Value},cs.length=l.length*k->(∀y,(V y).length=k)->(∀(i:Nat) y,l[i]?=some y->(cs.drop (i*k)).take k=V y)->cs=l.flatMap V
 | [],cs,h,_,_=>by
   simp only[List.length_nil,Nat.zero_mul] at h;rw[List.eq_nil_of_length_eq_zero h];rfl
 | a::l,cs,h,hV,hc=>by
   have h0:=hc 0 a rfl;rw[Nat.zero_mul,List.drop_zero] at h0
   have ih:=chunks (V:=V) (k:=k) (l:=l) (cs:=cs.drop k) (by rw[List.length_drop,h,List.length_cons,Nat.succ_mul];omega) hV λi y hy=>by
     rw[List.drop_drop];have:=hc (i+1) y (by simpa using hy)
     rwa[Nat.succ_mul,Nat.add_comm] at this
   rw[List.flatMap_cons,<- h0,<- ih,List.take_append_drop]
def Nb{α H:Type}{enc:TypeId×Value->H}{P:Program}{w:World}{base:Nat}{sp:Nat->Bool}{held:Bool}{KE:Nat}{t e:TypeId}{n k:Nat}{cs:List Value}{l:List α}{p:List MemPlace}(D:α->DataW H)(V:α->List Value)(hV:∀y,(V y).length=k)
   (Nu:∀f c y q,DataW.trod enc P w base sp held f e c=some (D y,q)->c=V y)
   (ht:P.underlying t=some (.array n e)) (hce:P.cellsOf e=k) (hct:P.cellsOf t=n*k) (h:DataW.trod enc P w base sp held KE t cs=some (.agg (l.map D),p)):cs=l.flatMap V:=by
 obtain⟨xs,m,_,hx,hl,hxl,Tb⟩:=DataW.trod_array ht h
 have hd:l.map D=xs.map (·.1):=by
   have:=congrArg Prod.fst hx;simpa using this
 have nG:l.length=n:=by
   have:=congrArg List.length hd;simp at this;omega
 rw[hct] at hl;rw[hce] at Tb;refine chunks (by rw[hl,nG]) hV λi y hy=>?_;have hi:i < n:=by have:=(List.getElem?_eq_some_iff.1 hy).1;omega
 have h2:=Tb i hi;have hxi:xs[i]?=some xs[i]:=List.getElem?_eq_getElem (by omega);rw[hxi] at h2;have h3:(l.map D)[i]?=(xs.map (·.1))[i]?:=by rw[hd]
 rw[List.getElem?_map,List.getElem?_map,hy,hxi] at h3;simp only[Option.map_some,Option.some.injEq] at h3;refine Nu m _ y xs[i].2 ?_;rw[h2,h3]
def Ym{H:Type}{enc:TypeId×Value->H}{w:World}{base:Nat}{sp:Nat->Bool}{held:Bool}(f:Nat)(c:List Value)(y:List UInt8)(q:List MemPlace)(hh:DataW.trod enc Tryz.prog w base sp held f 9 c=some (.lit (.string y),q)):c=[.string ⟨y.toArray⟩]:=by
 obtain⟨z,hc,hz,_⟩:=DataW.trod_string Tryz.underlying9 hh;simp only[Prod.mk.injEq,DataW.lit.injEq,Lit.string.injEq] at hz;rw[hc,hz.1]
def PS{W:World}{n:String}{g:Nat}{cs:Array Value}(hg:Tryz.prog.globalNamed n=some g)(h:W.var? Tryz.prog n=some cs):∃t fr,W.heap[g]?=some (.cells cs t fr):=by
 unfold World.var? at h;rw[hg] at h;simp only[Option.bind_some] at h;split at h;rename_i c t fr hh;injection h with h
 subst h;exact⟨t,fr,hh⟩;cases h
def gB:Tryz.prog.globalNamed "wageoffice/calendar.before"=some 12:=by kernel_rfl
def gC:Tryz.prog.globalNamed "wageoffice/lexer.classes"=some 3:=by kernel_rfl
def gS:Tryz.prog.globalNamed "wageoffice/lexer.symbols"=some 0:=by kernel_rfl
def gO:Tryz.prog.globalNamed "wageoffice/parser.operators"=some 2:=by kernel_rfl
def gR:Tryz.prog.globalNamed "wageoffice/parser.roles"=some 1:=by kernel_rfl
def gP:Tryz.prog.globalNamed "internal/strconv.uint64pow10"=some 4:=by kernel_rfl
def gPT:(Tryz.prog.globals[(4:Nat)]?).map (·.type)=some 167:=by kernel_rfl
def zW:Tryz.prog.cellsOf 146=1:=by kernel_rfl
def zP:Tryz.prog.cellsOf 167=20*1:=by kernel_rfl
def gBT:(Tryz.prog.globals[(12:Nat)]?).map (·.type)=some 203:=by kernel_rfl
def gCT:(Tryz.prog.globals[(3:Nat)]?).map (·.type)=some 151:=by kernel_rfl
def gST:(Tryz.prog.globals[(0:Nat)]?).map (·.type)=some 134:=by kernel_rfl
def gOT:(Tryz.prog.globals[(2:Nat)]?).map (·.type)=some 143:=by kernel_rfl
def gRT:(Tryz.prog.globals[(1:Nat)]?).map (·.type)=some 135:=by kernel_rfl
def zI:Tryz.prog.cellsOf 3=1:=by kernel_rfl
def zU:Tryz.prog.cellsOf 5=1:=by kernel_rfl
def zS:Tryz.prog.cellsOf 9=1:=by kernel_rfl
def zB:Tryz.prog.cellsOf 203=13*1:=by kernel_rfl
def zC:Tryz.prog.cellsOf 151=128*1:=by kernel_rfl
def zY:Tryz.prog.cellsOf 134=17*1:=by kernel_rfl
def z6:Tryz.prog.cellsOf 142=6*1:=by kernel_rfl
def zO:Tryz.prog.cellsOf 143=6*6:=by kernel_rfl
def zR:Tryz.prog.cellsOf 135=5*1:=by kernel_rfl
def akW:List Int:=[0,31,59,90,120,151,181,212,243,273,304,334,365]
def amd:List (List UInt8):=[[],[101,97,114,110],[100,101,100,117,99,116],[102,108,111,111,114],[105,110,102,111]]
def opsL:List (List (List UInt8)):=[[[111,114],[],[],[],[],[]],[[97,110,100],[],[],[],[],[]],[[],[],[],[],[],[]],[[61,61],[33,61],[60],[60,61],[62],[62,61]],[[43],[45],[],[],[],[]],[[42],[47],[97,116],[],[],[]]]
abbrev cU(y:List UInt8):DataW Unit:=.lit (.string y)
def aoa:(Rows.laid_wageoffice_calendar_before:DataW Unit)=.agg (akW.map λz=>.lit (.int .i64 z)):=by rfl
def aod:(Rows.laid_internal_strconv_uint64pow10:DataW Unit)=.agg (Lib.pow10Tab.map λz=>.lit (.int .u64 z)):=by kernel_rfl
def aob:(Rows.laid_wageoffice_lexer_classes:DataW Unit)=.agg ((List.range 128).map λi=>.lit (.int .u8 (Rr i:Nat))):=by rfl
def aof:(Rows.laid_wageoffice_lexer_symbols:DataW Unit)=.agg (Gm.map cU):=by rfl
def aoc:(Rows.laid_wageoffice_parser_operators:DataW Unit)=.agg (opsL.map λl=>.agg (l.map cU)):=by rfl
def aoe:(Rows.laid_wageoffice_parser_roles:DataW Unit)=.agg (amd.map cU):=by rfl
def apJ:((begin Tryz.prog (λ_ _=>0) default).world.heap[(5:Nat)]?).bind Obj.row?=some (#[.int .i64 0],3):=by kernel_rfl
def ajM{W:World}(h:W.ShapedOpen Tryz.prog):∃m,W.cell? ⟨5,0,none⟩=some (.int .i64 m):=by
 obtain⟨m,hm⟩:=cell_of_shapedOpen_int h (g:=5) (by decide +kernel) apJ rfl (by kernel_rfl) (by kernel_rfl) Tryz.underlying3;exact⟨m,hm⟩
def WV(c:Cx)(w:World):∀l:List (List UInt8),CG c w (l.map Gk) (l.flatMap λy=>[.string ⟨y.toArray⟩])
 | []=>.nil
 | _::l=>.cons (.sc rfl) (WV c w l)
def sH(c:Cx)(w:World):∀l:List Int,CG c w (l.map Hd.int) (l.flatMap λy=>[.int .i64 y])
 | []=>.nil
 | _::l=>.cons (.sc rfl) (sH c w l)
def ab8(c:Cx)(w:World):∀l:List Int,CG c w (l.map Hd.agx) (l.flatMap λy=>[.int .u64 y])
 | []=>.nil
 | _::l=>.cons (.sc rfl) (ab8 c w l)
def ab2(c:Cx)(w:World):∀l:List Nat,CG c w (l.map λi=>.sc (.int .u8 (Rr i:Nat))) (l.flatMap λi=>[.int .u8 (Rr i:Nat)])
 | []=>.nil
 | _::l=>.cons (.sc rfl) (ab2 c w l)
def j2(c:Cx)(w:World):∀l:List (List (List UInt8)),CG c w (l.flatMap λy=>y.map Gk) (l.flatMap λy=>y.flatMap λz=>[.string ⟨z.toArray⟩])
 | []=>.nil
 | a::l=>(WV c w a).append (j2 c w l)
def U5{W:World}{g:Nat}{l:List AV}{cs:Array Value}(h:∃t fr,W.heap[g]?=some (.cells cs t fr))(hr:CG (Mo.Xu W) W l cs.toList):A9 (Mo.Xu W) W g 0 l:=by
 obtain⟨t,fr,h⟩:=h;refine A9.Ow hr λi v hi=>Mo.akE ?_;rw[Nat.zero_add,cell_of_row W g i cs t fr h];rwa[Array.getElem?_toList] at hi
def oX{W:World}(h:laidMetH Tryz.prog Rows.parserTreesRow.laid W)(Gq:W.ShapedOpen Tryz.prog):∃mx,St (Hd.G mx) (Mo.Xu W) W s0:=by
 have h:laidMet Tryz.prog [("math/bits.deBruijn32tab",Rows.laid_math_bits_deBruijn32tab),("math/bits.deBruijn64tab",Rows.laid_math_bits_deBruijn64tab),("internal/strconv.uint64pow10",Rows.laid_internal_strconv_uint64pow10),("unicode/utf8.acceptRanges",Rows.laid_unicode_utf8_acceptRanges),("strconv.ErrRange",Rows.laid_strconv_ErrRange),("strconv.ErrSyntax",Rows.laid_strconv_ErrSyntax),("wageoffice/calendar.before",Rows.laid_wageoffice_calendar_before),("wageoffice/lexer.classes",Rows.laid_wageoffice_lexer_classes),("wageoffice/lexer.symbols",Rows.laid_wageoffice_lexer_symbols),("wageoffice/parser.operators",Rows.laid_wageoffice_parser_operators),("wageoffice/parser.roles",Rows.laid_wageoffice_parser_roles),("unicode/utf8.first",Rows.laid_unicode_utf8_first)] W:=h
 obtain⟨ps,⟨_,_,_,_,_,_,_,_,_,_,⟨_,_,_,_,_,_,_,_,_,_,⟨g3,t3,cs3,f3,p3,q3,hg3,ht3,hv3,u5,⟨_,_,_,_,_,_,_,_,_,_,⟨_,_,_,_,_,_,_,_,_,_,⟨_,_,_,_,_,_,_,_,_,_,⟨g7,t7,cs7,f7,p7,q7,hg7,ht7,hv7,hd7,⟨g8,t8,cs8,f8,p8,q8,hg8,ht8,hv8,hd8,⟨g9,t9,cs9,f9,p9,q9,hg9,ht9,hv9,hd9,⟨g10,t10,ak2,f10,p10,q10,aoI,ao1,ao3,aeK,⟨g11,t11,aqg,f11,p11,q11,aoJ,ao2,ao4,alq,_⟩,_⟩,_⟩,_⟩,_⟩,_⟩,_⟩,_⟩,_⟩,_⟩,_⟩,_⟩:=h;obtain rfl:=Option.some.inj (gP.symm.trans hg3);obtain rfl:=Option.some.inj (gPT.symm.trans ht3);rw[aod] at u5;obtain rfl:=Option.some.inj (gB.symm.trans hg7);obtain rfl:=Option.some.inj (gC.symm.trans hg8);obtain rfl:=Option.some.inj (gS.symm.trans hg9);obtain rfl:=Option.some.inj (gO.symm.trans aoI);obtain rfl:=Option.some.inj (gR.symm.trans aoJ);obtain rfl:=Option.some.inj (gBT.symm.trans ht7);obtain rfl:=Option.some.inj (gCT.symm.trans ht8);obtain rfl:=Option.some.inj (gST.symm.trans ht9);obtain rfl:=Option.some.inj (gOT.symm.trans ao1);obtain rfl:=Option.some.inj (gRT.symm.trans ao2);rw[aoa] at hd7;rw[aob] at hd8;rw[aof] at hd9;rw[aoc] at aeK;rw[aoe] at alq
 have e3:=Nb (k:=1) (λz:Int=>(DataW.lit (.int .u64 z):DataW Unit)) (λz=>[.int .u64 z]) (λ_=>rfl)
   (λf c y q hh=>by obtain⟨z,hc,hz,_⟩:=DataW.trod_int Tryz.underlying146 hh;simp only[Prod.mk.injEq,DataW.lit.injEq,Lit.int.injEq,true_and] at hz;rw[hc,hz.1]) Tryz.underlying167 zW zP u5
 have e7:=Nb (k:=1) (λz:Int=>(DataW.lit (.int .i64 z):DataW Unit)) (λz=>[.int .i64 z]) (λ_=>rfl)
   (λf c y q hh=>by obtain⟨z,hc,hz,_⟩:=DataW.trod_int Tryz.underlying3 hh;simp only[Prod.mk.injEq,DataW.lit.injEq,Lit.int.injEq,true_and] at hz;rw[hc,hz.1]) Tryz.underlying203 zI zB hd7
 have e8:=Nb (k:=1) (λi:Nat=>(DataW.lit (.int .u8 (Rr i:Nat)):DataW Unit)) (λi=>[.int .u8 (Rr i:Nat)]) (λ_=>rfl)
   (λf c y q hh=>by obtain⟨z,hc,hz,_⟩:=DataW.trod_int Tryz.underlying5 hh;simp only[Prod.mk.injEq,DataW.lit.injEq,Lit.int.injEq,true_and] at hz;rw[hc,hz.1]) Tryz.underlying151 zU zC hd8
 have e9:=Nb (k:=1) cU (λy=>[.string ⟨y.toArray⟩]) (λ_=>rfl) Ym Tryz.underlying134 zS zY hd9;have e11:=Nb (k:=1) cU (λy=>[.string ⟨y.toArray⟩]) (λ_=>rfl) Ym Tryz.underlying135 zS zR alq
 have e10:ak2.toList=opsL.flatMap λy=>y.flatMap λz=>[.string ⟨z.toArray⟩]:=by
   obtain⟨xs,m,_,hx,hl,hxl,Tb⟩:=DataW.trod_array Tryz.underlying143 aeK
   have hd:(opsL.map λl=>(DataW.agg (l.map cU):DataW Unit))=xs.map (·.1):=by
     have:=congrArg Prod.fst hx;simpa using this
   rw[zO] at hl;rw[z6] at Tb;have apv:∀y∈opsL,(y.flatMap λz=>[(Value.string ⟨z.toArray⟩:Value)]).length=6:=by decide
   have OV:∀(i:Nat) y,opsL[i]?=some y->(ak2.toList.drop (i*6)).take 6=y.flatMap λz=>[.string ⟨z.toArray⟩]:=by
     intro i y hy;have hi:i < 6:=(List.getElem?_eq_some_iff.1 hy).1;have h2:=Tb i hi;have hxi:xs[i]?=some xs[i]:=List.getElem?_eq_getElem (by omega);rw[hxi] at h2;have h3:(opsL.map λl=>(DataW.agg (l.map cU):DataW Unit))[i]?=(xs.map (·.1))[i]?:=by rw[hd]
     rw[List.getElem?_map,List.getElem?_map,hy,hxi] at h3;simp only[Option.map_some,Option.some.injEq] at h3;have h4:xs[i]=(.agg (y.map cU),xs[i].2):=Prod.ext h3.symm rfl;rw[h4] at h2;exact Nb (k:=1) cU (λy=>[.string ⟨y.toArray⟩]) (λ_=>rfl) Ym Tryz.underlying142 zS z6 h2
   have l6:∀{l:List (List (List UInt8))} {cs:List Value},(∀y∈l,(y.flatMap λz=>[(Value.string ⟨z.toArray⟩:Value)]).length=6)->cs.length=l.length*6->(∀(i:Nat) y,l[i]?=some y->(cs.drop (i*6)).take 6=y.flatMap λz=>[.string ⟨z.toArray⟩])->cs=l.flatMap λy=>y.flatMap λz=>[.string ⟨z.toArray⟩]:=by
     intro l
     induction l with
     | nil=>intro cs _ h _;exact List.eq_nil_of_length_eq_zero (by simpa using h)
     | cons a l ih =>
       intro cs hq h hc;have h0:=hc 0 a rfl;rw[Nat.zero_mul,List.drop_zero] at h0
       have:=ih (cs:=cs.drop 6) (λy hy=>hq y (by simp[hy])) (by rw[List.length_drop,h,List.length_cons,Nat.succ_mul];omega) λi y hy=>by
         rw[List.drop_drop];have:=hc (i+1) y (by simpa using hy)
         rwa[Nat.succ_mul,Nat.add_comm] at this
       rw[List.flatMap_cons,<- h0,<- this,List.take_append_drop]
   exact l6 apv (by rw[hl];rfl) OV
 obtain⟨mx,hm⟩:=ajM Gq;have F4:=Mo.stW W;refine⟨mx,F4.len,F4.desc,F4.nodup,F4.low,F4.box,F4.Ix,F4.row,F4.IG,F4.Md,F4.Ml,F4.Io,λg cs h=>?_,F4.PY⟩;unfold Hd.G at h;split at h;rename_i hg;cases h;rw[beq_true hg];exact U5 (PS gO ao3) (by rw[e10];exact j2 _ _ opsL);split at h;rename_i hg;cases h;rw[beq_true hg];exact U5 (PS gR ao4) (by rw[e11];exact WV _ _ amd);split at h;rename_i hg;cases h;rw[beq_true hg];exact U5 (PS gB hv7) (by rw[e7];exact sH _ _ akW);split at h;rename_i hg;cases h;rw[beq_true hg];exact U5 (PS gC hv8) (by rw[e8];exact ab2 _ _ _);split at h;rename_i hg;cases h;rw[beq_true hg];exact U5 (PS gS hv9) (by rw[e9];exact WV _ _ _);split at h;rename_i hg;cases h;rw[beq_true hg];exact .cons (Mo.akE hm) (.sc rfl) .nil;split at h;rename_i hg;cases h;rw[beq_true hg];exact U5 (PS gP hv3) (by rw[e3];exact ab8 _ _ _);cases h
def nV{mx:Int}{f:FuncId}{args:List AV}{vs:List Value}{W:World}(F4:St (Hd.G mx) (Mo.Xu W) W s0)(h:Pure Tryz.prog (Hd.G mx) f args (.sc (.bool true)))(ha:CG (Mo.Xu W) W args vs):Calls Tryz.prog f vs.toArray W λe W'=>e=.returned (.bool true)/\Below W.heap.size W W':=by
 refine(h s0 (Mo.Xu W) W vs F4 ha).mono ?_;rintro e w' ⟨c',hx,_,u,rfl,hu⟩;cases hu;exact⟨rfl,hx.below⟩
def ajH:DataW Unit->List Value
 | .lit l=>[l.value]
 | _=>[]
def alb:DataW Unit->List Value
 | .agg l=>l.flatMap ajH
 | d=>ajH d
def SL:DataW Unit->Array Value
 | .agg l=>(l.flatMap alb).toArray
 | d=>(ajH d).toArray
def putCells(cs:Array Value):Obj->Obj
 | .cells _ t frozen=>.cells cs t frozen
 | o=>o
def low:Nat:=(World.holding Tryz.prog default ⟨#[],#[],[]⟩).heap.size
abbrev amq:ByteArray:={ data:=#[118,97,108,117,101,32,111,117,116,32,111,102,32,114,97,110,103,101] }
abbrev amr:ByteArray:={ data:=#[105,110,118,97,108,105,100,32,115,121,110,116,97,120] }
def Vj(os:Os):World :=
 let w0:=World.holding Tryz.prog os ⟨#[.cells #[.string amq] 210,.cells #[.string amr] 210],#[],[]⟩
 { w0 with heap:=((((((((((((w0.heap.modify 8 (putCells (SL Rows.laid_math_bits_deBruijn32tab))).modify
     9 (putCells (SL Rows.laid_math_bits_deBruijn64tab))).modify
     4 (putCells (SL Rows.laid_internal_strconv_uint64pow10))).modify
     7 (putCells (SL Rows.laid_unicode_utf8_acceptRanges))).modify
     11 (putCells #[.iface 208 (.pointer (some ⟨low,0,none⟩))])).modify
     10 (putCells #[.iface 208 (.pointer (some ⟨low+1,0,none⟩))])).modify
     12 (putCells (SL Rows.laid_wageoffice_calendar_before))).modify
     3 (putCells (SL Rows.laid_wageoffice_lexer_classes))).modify
     0 (putCells (SL Rows.laid_wageoffice_lexer_symbols))).modify
     2 (putCells (SL Rows.laid_wageoffice_parser_operators))).modify
     1 (putCells (SL Rows.laid_wageoffice_parser_roles))).modify
     6 (putCells (SL Rows.laid_unicode_utf8_first))) }
def abh(os:Os)(args:Array Value):laidMet Tryz.prog Rows.parserTreesRow.laid ((Vj os).forCall (λ_ _=>0) ⟨#[],args,[]⟩).memory :=
 laidMet_of_run3 8 (by kernel_rfl) (by kernel_rfl) (by kernel_rfl)
end Go.Proofs.YtpbkhogolfegfaaGreatDoor
namespace Go.Proofs.YtpbkhogolfegfaaGreatDoor
open AI Go
namespace Mo
set_option maxRecDepth 100000
set_option maxHeartbeats 4000000
variable {mx:Int}
def B61:Code:=Bj Tryz.f61
def b61:Tryz.f61.body=some B61:=by kernel_rfl
def afu{s:List Pc}(hl:s.length*24<=140737488355328):Pure P (G mx) 61 [.sl .lost s.length (rows H7 s)] (.sl .lost s.length (rows H7 s)):=by
 refine pure_nil (λhn hc=>?_) ?_;rw[hn,hc];exact D7 Hd.mixed Hd.Ab (Ay Tryz.func61 b61 (Bc (v:=.sl .full 0 []) _ _ (Ae 300 [pk]) (by kernel_rfl) .body (.wn (.z .nil) rfl))) rfl rfl;by_cases hm:s.length=0;obtain rfl:=List.eq_nil_of_length_eq_zero hm;exact D7 Hd.mixed Hd.Ab (Ay Tryz.func61 b61 (Bc (v:=.sl .full 0 []) _ _ (Ae 300 [pk,pga (aoq .full ([]:List Pc) ([]:List Pc) (o:=.nn) ⟨[],0,[],0⟩ rfl (by decide))]) (by kernel_rfl) .body (.wn (.z .nil) rfl))) rfl rfl;exact D7 Hd.mixed Hd.Ab (Ay Tryz.func61 b61 (Bc (v:=.sl (.row 0 3) s.length (rows H7 s)) _ _ (Ae 300 [pk,Sv (KY.aou u24 u24 i64 (by decide) .full ([]:List Pc) s (o:=.nn) (Wn.refl _) rfl (KY.mB (λ_=>rfl) s) hm (by rw[List.length_nil,Nat.zero_add];exact hl) (by simp;omega))]) (by kernel_rfl) .body (.wn (.s rfl .nil) (KY.KC s)))) (BE (al5 (KY.BE s)) rfl) (KY.KC s)
def B60:Code:=Bj Tryz.f60
def b60:Tryz.f60.body=some B60:=by kernel_rfl
def zJ{s:List Nd}(hm:¬s.length=0)(hl:s.length<=100000000):Sound P (G mx) (.call 60 [.sl .nn s.length (Bd s)] ⟨[],0,[],0⟩ (.ret (.ID 0 0 s.length)) ⟨[(0,.cells (Bd s))],1,[],0⟩):=by
 refine aki Hd.mixed (x8 (m:=1) Tryz.func60 b60 ?_);exact aex (n:=1) (m0:=0) Hd.Ab _ _ [0] [1] [⟨.ID 0 0 s.length,.ID 0 0 s.length,(.under rfl)⟩] [fbp (Bd s) (AB.BE s)] _ _ (Ae 300 [pk,apH (akQ s (o:=.nn) hm hl)]) (Nat.zero_le _) (Nat.zero_le _) (by kernel_rfl) .body
def nnI{c:Cx}{w:World}{n:Nat}{cs:List AV}{v:Value}(hm:¬n=0)(h:Rp c w (.sl .lost n cs) v):Rp c w (.sl .nn n cs) v:=by
 cases h with
 | Jc _=>exact absurd rfl hm
 | KM hn hc _=>exact .KM hn hc trivial
def zG{s:List Nd}(hm:¬s.length=0)(hl:s.length<=100000000):Sound P (G mx) (.call 60 [.sl .lost s.length (Bd s)] ⟨[],0,[],0⟩ (.ret (.ID 0 0 s.length)) ⟨[(0,.cells (Bd s))],1,[],0⟩):=by
 intro cx w vs hs ha;refine zJ hm hl cx w vs hs ?_;cases ha with
 | cons h1 t=>exact .cons (nnI hm h1) t
def zH{s:List Nd}(hm:¬s.length=0)(hl:s.length<=100000000)(nx nr:Nat):Cd.ok P (G mx) (.Zz 60 [.sl .lost s.length (Bd s)] nx nr (.ID (nx+0) 0 s.length) [((nx+0),.cells (Bd s))] 1 [] 0) :=
 aiI Hd.Ab (zG hm hl) (BE (AB.KC s) rfl) (.ID (by decide)) (.cons (.cells (.pl (AB.BE s))) .nil)
end Mo
end Go.Proofs.YtpbkhogolfegfaaGreatDoor
namespace Go.Proofs.YtpbkhogolfegfaaGreatDoor
open AI Go
namespace Mo
set_option maxRecDepth 100000
set_option maxHeartbeats 4000000
variable {mx:Int}
def Hb:Code:=Bj Tryz.f24
def b24:Tryz.f24.body=some Hb:=by kernel_rfl
def uP:P.underlying 88=some (.slice 87):=by kernel_rfl
def sE:(P.info? 87).map (·.size)=some 1:=by kernel_rfl
def dE:(P.underlying 87).map Nv=some false:=by kernel_rfl
def sL:(P.info? 27).map (·.size)=some 1:=by kernel_rfl
def dL:(P.underlying 27).map Nv=some false:=by kernel_rfl
def sQ:(P.info? 24).map (·.size)=some 1:=by kernel_rfl
def dQ:(P.underlying 24).map Nv=some false:=by kernel_rfl
def sI:(P.info? 3).map (·.size)=some 1:=by kernel_rfl
def zN(n:Nd):Nd:=⟨n.kind,n.name,n.unit,n.n,n.fr,n.to,n.known,n.CN,n.kids,0⟩
def Ko(L:List Nd)(i:Nat):List Nd:=(L.take i).map zN++L.drop i
def abB(L:List Nd):Ko L 0=L:=by simp[Ko]
def afb(L:List Nd):Ko L L.length=L.map zN:=by simp[Ko]
def rI(L:List Nd)(i:Nat)(h:i<=L.length):(Ko L i).length=L.length:=by simp[Ko];omega
def afc{L:List Nd}{i:Nat}{x:Nd}(h:L[i]?=some x):(Ko L i)[i]?=some x:=by
 have hl:=(List.getElem?_eq_some_iff.1 h).1;unfold Ko;rw[List.getElem?_append_right (by simp;omega),List.getElem?_drop];simp only[List.length_map,List.length_take];rw[show min i L.length=i by omega,Nat.sub_self,Nat.add_zero];exact h
def iW{L:List Nd}{i:Nat}{x:Nd}(h:L[i]?=some x):(Ko L i).set i (zN x)=Ko L (i+1):=by
 obtain⟨hl,hx⟩:=List.getElem?_eq_some_iff.1 h;unfold Ko;have e1:L.drop i=x::L.drop (i+1):=by rw[<- hx];exact List.drop_eq_getElem_cons hl
 have e2:L.take (i+1)=L.take i++[x]:=by rw[<- hx];exact(List.take_append_getElem hl).symm
 rw[e1,e2,List.set_append_right _ _ (by simp;omega),List.map_append,List.append_assoc];simp only[List.length_map,List.length_take];rw[show i - min i L.length=0 by omega];rfl
def j7{α:Type}{l:List α}{i:Nat}{x:α}(h:l[i]?=some x):l.set i x=l:=by
 obtain⟨hl,hx⟩:=List.getElem?_eq_some_iff.1 h;rw[<- hx];exact List.set_getElem_self hl
def xT(nx:Nat)(L:List Nd)(i:Nat):List (Nat×Nat):=match L[i]? with
 | some k=>(match k.kids with
   | []=>[]
   | _::_=>[(nx,0+i*11+9)])
 | none=>[]
def kP(nx:Nat)(L:List Nd)(i:Nat):List (Nat×Nat):=(List.range i).flatMap (xT nx L)
def WI(nx:Nat)(L:List Nd)(i:Nat):kP nx L (i+1)=kP nx L i++xT nx L i:=by unfold kP;rw[List.range_succ,List.flatMap_append];simp
def abS(nx:Nat)(L:List Nd)(i:Nat):(xT nx L i).length<=1:=by
 unfold xT;split;split<;>simp
 simp
def ahE(nx:Nat)(L:List Nd):∀i:Nat,(kP nx L i).length<=i
 | 0=>by simp[kP]
 | i+1=>by rw[WI,List.length_append];have:=ahE nx L i;have:=abS nx L i;omega
abbrev FO(g k cap:Nat)(j:List Value):List AV:=fr 72 [(2,.ptr 1 0),(3,.ptr 2 0),(4,.raw (some ⟨g,0,none⟩) k cap)] [13,36,61] j
abbrev FT(g k cap id off:Nat)(j:List Value):List AV:=fr 72 [(2,.ptr 1 0),(3,.ptr 2 0),(4,.raw (some ⟨g,0,none⟩) k cap),(5,.ptr id off)] [13,36,61] j
abbrev FI(g k cap id off n i:Nat)(j:List Value):List AV:=fr 72 [(2,.ptr 1 0),(3,.ptr 2 0),(4,.raw (some ⟨g,0,none⟩) k cap),(5,.ptr id off),(34,.sc (.int .i64 n)),(35,.sc (.int .i64 i))] [13,36,61] j
abbrev FL(g k cap id off n i:Nat)(j:List Value):List AV:=fr 72 [(2,.ptr 1 0),(3,.ptr 2 0),(4,.raw (some ⟨g,0,none⟩) k cap),(5,.ptr id off),(6,.sc (.int .i64 i)),(34,.sc (.int .i64 n)),(35,.sc (.int .i64 i))] [13,36,61] j
abbrev FK(g k cap id off n i nx:Nat)(j:List Value):List AV:=fr 72 [(2,.ptr 1 0),(3,.ptr 2 0),(4,.raw (some ⟨g,0,none⟩) k cap),(5,.ptr id off),(7,.ptr nx (0+i*11)),(34,.sc (.int .i64 n)),(35,.sc (.int .i64 i))] [13,36,61] j
section
variable {b:Nat} {B:Nat->Nat->Prop} {w0:World} {g cap:Nat} {ps:List (Nat×Nat)} {s:AS} {Q:QE} {j:List Value}
def aov{k:Nat}(h:k≠0):EQ 0 ((k:Nat):Int)=true:=NB (by omega)
def aaR(t:Bool)(k:Nat)(hB:EQ 0 ((k:Nat):Int)=t)(h:∀f,A8 (G mx) f (.tmp 13)=some (.sc (.bool t))->wkF f (FO g k cap (js 3 j [(0,.bool t)]))=FO g k cap (js 3 j [(0,.bool t)])->Q .normal f s (Ej b B w0 g cap ps)):WE P (G mx) (Ej b B w0 g cap ps) (sb Hb 480) (FO g k cap j) s Q:=by
 have hr:RL (sb Hb 480) 3=true:=by kernel_rfl
 refine .reg hr ?_;show Pa P (G mx) _ _ [0,1,2] _ _ _;refine .q Hd.mixed Ej.GM hr (by decide) (.raw (some ⟨g,0,none⟩) k cap) (by kernel_rfl) (by kernel_rfl) ?_;refine .len hr (by decide) (x:=.tmp 11) (t:=88) (A:=some ⟨g,0,none⟩) (k:=k) (cap:=cap) (by kernel_rfl) uP (by kernel_rfl) ?_;refine .hb Hd.mixed Ej.GM hr (by decide) t hB (by kernel_rfl) ?_;exact .nil (h _ (by kernel_rfl) (by kernel_rfl))
def al6{p:Nat×Nat}(hk:ps.length<=100000000)(h:WE P (G mx) (Ej b B w0 g cap ps) (sb Hb 1931) (FT g ps.length cap p.1 p.2 j) s Q):WE P (G mx) (Ej b B w0 g cap (ps++[p])) (sb Hb 482) (FO g (ps++[p]).length cap j) s Q:=by
 have hw:Sz (((ps++[p]).length:Nat):Int) 1=((ps.length:Nat):Int):=by
   rw[List.length_append,List.length_singleton,QH (by omega)];omega
 refine .Sx (x:=sb Hb 964) (y:=sb Hb 965) (by kernel_rfl) ?_;have hr:RL (sb Hb 964) 7=true:=by kernel_rfl
 refine .reg hr ?_;show Pa P (G mx) _ _ [0,1,2,3,4,5,6] _ _ _;refine .q Hd.mixed Ej.GM hr (by decide) (.raw (some ⟨g,0,none⟩) (ps++[p]).length cap) (by kernel_rfl) (by kernel_rfl) ?_;refine .q Hd.mixed Ej.GM hr (by decide) (.raw (some ⟨g,0,none⟩) (ps++[p]).length cap) (by kernel_rfl) (by kernel_rfl) ?_;refine .len hr (by decide) (x:=.tmp 15) (t:=88) (A:=some ⟨g,0,none⟩) (k:=(ps++[p]).length) (cap:=cap) (by kernel_rfl) uP (by kernel_rfl) ?_;refine .hi Hd.mixed Ej.GM hr (by decide) ((ps.length:Nat):Int) hw (by kernel_rfl) ?_;refine .top hr (by decide) (t:=88) (t2:=87) (e:=87) (d:=18) (x:=.tmp 14) (y:=.tmp 17) (by kernel_rfl) (by kernel_rfl) (by kernel_rfl) uP sE dE sE (by kernel_rfl) (by kernel_rfl) (by kernel_rfl) ?_;refine .q Hd.mixed Ej.GM hr (by decide) (.ptr p.1 p.2) (by kernel_rfl) (by kernel_rfl) ?_;refine .nil ⟨rfl,?_⟩;refine .wk (fr2:=FT g (ps++[p]).length cap p.1 p.2 j) (by kernel_rfl) ?_;refine .Sx (x:=sb Hb 1930) (y:=sb Hb 1931) (by kernel_rfl) ?_;have hr:RL (sb Hb 1930) 6=true:=by kernel_rfl
 refine .reg hr ?_;show Pa P (G mx) _ _ [0,1,2,3,4,5] _ _ _;refine .q Hd.mixed Ej.GM hr (by decide) (.raw (some ⟨g,0,none⟩) (ps++[p]).length cap) (by kernel_rfl) (by kernel_rfl) ?_;refine .q Hd.mixed Ej.GM hr (by decide) (.raw (some ⟨g,0,none⟩) (ps++[p]).length cap) (by kernel_rfl) (by kernel_rfl) ?_;refine .len hr (by decide) (x:=.tmp 21) (t:=88) (A:=some ⟨g,0,none⟩) (k:=(ps++[p]).length) (cap:=cap) (by kernel_rfl) uP (by kernel_rfl) ?_;refine .hi Hd.mixed Ej.GM hr (by decide) ((ps.length:Nat):Int) hw (by kernel_rfl) ?_;refine .apI hr (by decide) (t:=88) (e:=87) (x:=.tmp 20) (y:=.tmp 23) (by kernel_rfl) uP sE (by kernel_rfl) (by kernel_rfl) ?_;refine .q Hd.mixed Ej.GM hr (by decide) (.raw (some ⟨g,0,none⟩) ps.length cap) (by kernel_rfl) (by kernel_rfl) ?_;refine .nil ⟨rfl,?_⟩;exact .wk (by kernel_rfl) h
variable {id off nx:Nat} {L:List Nd}
def aef{H:List (Nat×AL)}{cs:List AV}(hid:id < nx)(WG:AI.look id H=some (.cells cs))(Vd:cs[off]?=some (.sl .lost L.length (Bd L)))(hL:¬L.length=0)(hl:L.length<=100000000)
   (h:WE P (G mx) (Ej b B w0 g cap ps) (sb Hb 7727) (FI g ps.length cap id off L.length 0 j) ⟨(nx,.cells (Bd L))::QU id (.cells (cs.set off (.ID nx 0 L.length))) H,nx+1,[],0⟩ Q) :
   WE P (G mx) (Ej b B w0 g cap ps) (sb Hb 1931) (FT g ps.length cap id off j) ⟨H,nx,[],0⟩ Q:=by
 have Is:nx≠id:=by omega
 have GI:=(List.getElem?_eq_some_iff.1 Vd).1;have aoD:(cs.set off (.ID nx 0 L.length))[off]?=some (.ID nx 0 L.length):=List.getElem?_set_self GI;refine .Sx (x:=sb Hb 3862) (y:=sb Hb 3863) (by kernel_rfl) ?_;refine .run Hd.mixed Ej.GM [oH (x:=AI.look id H) (Zy dL sL Vd) WG,ajX (zH hL hl nx 0),afz (x:=AI.look id ((nx,.cells (Bd L))::H)) (v:=.ID nx 0 L.length) (off:=off) (yM (cs2:=cs.set off (.ID nx 0 L.length)) sL GI rfl) ((cV Is).trans WG)] (e:=.normal) (fr2:=FT g ps.length cap id off j) (s2:=⟨QU id (.cells (cs.set off (.ID nx 0 L.length))) ((nx,.cells (Bd L))::H),nx+1,[],0⟩) (by kernel_rfl) (by intro v h;cases h) ⟨rfl,?_⟩;rw[akB Is];refine .Sx (x:=sb Hb 7726) (y:=sb Hb 7727) (by kernel_rfl) ?_;exact .oP Hd.mixed Ej.GM [oH (x:=AI.look id ((nx,.cells (Bd L))::QU id (.cells (cs.set off (.ID nx 0 L.length))) H)) (Zy dL sL aoD) ((cV Is).trans (X8 WG))] (e:=.normal) (fr2:=FI g ps.length cap id off L.length 0 j) (by kernel_rfl) (by intro v h;cases h) ⟨rfl,h⟩
def aj2{i n:Nat}{s:AS}(hk:ps.length+1<=100000000):WE P (G mx) (Ej b B w0 g cap ps) (sb Hb 31650622) (FK g ps.length cap id off n i nx j) s (λe f s' E=>∃g' BJ,e=.normal/\wkF f (FK g' (ps++[(nx,0+i*11+9)]).length BJ id off n i nx j)=FK g' (ps++[(nx,0+i*11+9)]).length BJ id off n i nx j/\s'=s/\E=Ej b B w0 g' BJ (ps++[(nx,0+i*11+9)])):=by
 have hr:RL (sb Hb 31650622) 7=true:=by kernel_rfl
 refine .reg hr ?_;show Pa P (G mx) _ _ [0,1,2,3,4,5,6] _ _ _;refine .q Hd.mixed Ej.GM hr (by decide) (.raw (some ⟨g,0,none⟩) ps.length cap) (by kernel_rfl) (by kernel_rfl) ?_;refine .q Hd.mixed Ej.GM hr (by decide) (.ptr nx (0+i*11)) (by kernel_rfl) (by kernel_rfl) ?_;refine .q Hd.mixed Ej.GM hr (by decide) (.ptr nx (0+i*11)) (by kernel_rfl) (by kernel_rfl) ?_;refine .q Hd.mixed Ej.GM hr (by decide) (.ptr nx (0+i*11+9)) (by kernel_rfl) (by kernel_rfl) ?_;refine .q Hd.mixed Ej.GM hr (by decide) (.sl .full 1 [.ptr nx (0+i*11+9)]) (by kernel_rfl) (by kernel_rfl) ?_;refine .push hr (by decide) (t:=88) (tx:=88) (e:=87) (e2:=87) (id:=nx) (off:=0+i*11+9) (x:=.tmp 62) (y:=.tmp 66) (by kernel_rfl) uP uP (by kernel_rfl) (by kernel_rfl) (by kernel_rfl) hk (λg' BJ=>?_);refine .q Hd.mixed Ej.GM hr (by decide) (.raw (some ⟨g',0,none⟩) (ps++[(nx,0+i*11+9)]).length BJ) (by kernel_rfl) (by kernel_rfl) ?_;exact .nil ⟨g',BJ,rfl,by kernel_rfl,rfl,rfl⟩
def abI{T:List (Nat×AL)}{cs:List AV}{i:Nat}{x:Nd}(hid:id < nx)(WG:AI.look id T=some (.cells cs))(Vd:cs[off]?=some (.ID nx 0 L.length))(hx:L[i]?=some x)(hp:x.CN.ps.length*24<=140737488355328)(t:Bool)(hB:EQ 0 ((x.kids.length:Nat):Int)=t)
   (h:WE P (G mx) (Ej b B w0 g cap ps) (sb Hb 15825311) (FK g ps.length cap id off L.length i nx (js 3 j [(2,.bool t)])) ⟨(nx,.cells (Bd (Ko L (i+1))))::T,nx+1,[],0⟩ Q) :
   WE P (G mx) (Ej b B w0 g cap ps) (sb Hb 494540) (FI g ps.length cap id off L.length i j) ⟨(nx,.cells (Bd (Ko L i)))::T,nx+1,[],0⟩ Q:=by
 have hi:=(List.getElem?_eq_some_iff.1 hx).1;have Is:nx≠id:=by omega
 have aoQ:∀b:AL,AI.look id ((nx,b)::T)=some (.cells cs):=λb=>(cV Is).trans WG;have hm:=afc hx;have hl:=rI L i (by omega);have hm2:(Ko L (i+1))[i]?=some (zN x):=by rw[<- iW hx];exact List.getElem?_set_self (by omega)
 have ZQ:=rI L (i+1) (by omega);have hN:∀y:Nd,(CJ y).length=11:=λ_=>rfl;refine .Sx (x:=sb Hb 989080) (y:=sb Hb 989081) (by kernel_rfl) ?_;refine .oP Hd.mixed Ej.GM [] (e:=.normal) (fr2:=FL g ps.length cap id off L.length i j) (by kernel_rfl) (by intro v h;cases h) ⟨rfl,?_⟩;refine .Sx (x:=sb Hb 1978162) (y:=sb Hb 1978163) (by kernel_rfl) ?_;refine .oP Hd.mixed Ej.GM [oH (x:=AI.look id ((nx,.cells (Bd (Ko L i)))::T)) (Zy dL sL Vd) (aoQ _),IP (ahC (id:=nx) hi)] (e:=.normal) (fr2:=FK g ps.length cap id off L.length i nx j) (by kernel_rfl) (by intro v h;cases h) ⟨rfl,?_⟩;refine .Sx (x:=sb Hb 3956326) (y:=sb Hb 3956327) (by kernel_rfl) ?_;refine .run Hd.mixed Ej.GM [afz (x:=AI.look nx ((nx,.cells (Bd (Ko L i)))::T)) (v:=.sc (.int .i64 0)) (off:=0+i*11+10) (yM (cs2:=Bd ((Ko L i).set i (zN x))) sI (by rw[LJ,IH hN,hl];omega) (by rw[LJ,LJ,jY hN (j:=10) (y:=zN x) (v:=.sc (.int .i64 0)) hm (by decide) rfl,Nat.zero_add])) WJ] (e:=.normal) (fr2:=FK g ps.length cap id off L.length i nx j) (s2:=⟨QU nx (.cells (Bd ((Ko L i).set i (zN x)))) ((nx,.cells (Bd (Ko L i)))::T),nx+1,[],0⟩) (by kernel_rfl) (by intro v h;cases h) ⟨rfl,?_⟩;rw[ac2,iW hx]
 have c8:(Bd (Ko L (i+1)))[0+i*11+7+1]?=some (.sl .lost x.CN.ps.length (rows H7 x.CN.ps)):=by
   rw[LJ,show 0+i*11+7+1=i*11+8 by omega,dT hN hm2 (by decide)];rfl
 have c9:(Bd (Ko L (i+1)))[0+i*11+9]?=some (.sl .lost x.kids.length (Bd x.kids)):=by
   rw[LJ,Nat.zero_add,dT hN hm2 (by decide)];rfl
 refine .Sx (x:=sb Hb 7912654) (y:=sb Hb 7912655) (by kernel_rfl) ?_;refine .run Hd.mixed Ej.GM [oH (x:=AI.look nx ((nx,.cells (Bd (Ko L (i+1))))::T)) (Zy dQ sQ c8) WJ,Be (afu hp),afz (x:=AI.look nx ((nx,.cells (Bd (Ko L (i+1))))::T)) (off:=0+i*11+7+1) (yM (cs2:=Bd (Ko L (i+1))) sQ (by rw[LJ,IH hN,ZQ];omega) (j7 c8).symm) WJ] (e:=.normal) (fr2:=FK g ps.length cap id off L.length i nx j) (s2:=⟨QU nx (.cells (Bd (Ko L (i+1)))) ((nx,.cells (Bd (Ko L (i+1))))::T),nx+1,[],0⟩) (by kernel_rfl) (by intro v h;cases h) ⟨rfl,?_⟩;rw[ac2];refine .Sx (x:=sb Hb 15825310) (y:=sb Hb 15825311) (by kernel_rfl) ?_;exact .oP Hd.mixed Ej.GM [oH (x:=AI.look nx ((nx,.cells (Bd (Ko L (i+1))))::T)) (Zy dL sL c9) WJ,pb hB] (e:=.normal) (fr2:=FK g ps.length cap id off L.length i nx (js 3 j [(2,.bool t)])) (by kernel_rfl) (by intro v h;cases h) ⟨rfl,h⟩
def afq{i:Nat}{x:Nd}(hx:L[i]?=some x)(hk:x.kids=[]):xT nx L i=[]:=by unfold xT;rw[hx];simp only;rw[hk]
def afr{i:Nat}{x:Nd}(hx:L[i]?=some x)(hk:x.kids≠[]):xT nx L i=[(nx,0+i*11+9)]:=by
 unfold xT;rw[hx];simp only;cases h:x.kids with
 | nil=>exact absurd h hk
 | cons a l=>rfl
def afL{T:List (Nat×AL)}{cs:List AV}{i:Nat}{x:Nd}(hid:id < nx)(WG:AI.look id T=some (.cells cs))(Vd:cs[off]?=some (.ID nx 0 L.length))(hx:L[i]?=some x)(hp:x.CN.ps.length*24<=140737488355328)(hb:(ps++kP nx L i).length+1<=100000000)(hi6:i < 9223372036854775807)
   (h:∀g' BJ j',Q .normal (FI g' (ps++kP nx L (i+1)).length BJ id off L.length (i+1) j') ⟨(nx,.cells (Bd (Ko L (i+1))))::T,nx+1,[],0⟩ (Ej b B w0 g' BJ (ps++kP nx L (i+1)))) :
   WE P (G mx) (Ej b B w0 g cap (ps++kP nx L i)) (sb Hb 123635) (FI g (ps++kP nx L i).length cap id off L.length i j) ⟨(nx,.cells (Bd (Ko L i)))::T,nx+1,[],0⟩ Q:=by
 have fin:∀g' BJ j',WE P (G mx) (Ej b B w0 g' BJ (ps++kP nx L (i+1))) (sb Hb 247271) (FK g' (ps++kP nx L (i+1)).length BJ id off L.length i nx j') ⟨(nx,.cells (Bd (Ko L (i+1))))::T,nx+1,[],0⟩ Q:=λg' BJ j' =>
   .oP Hd.mixed Ej.GM [AI.pi hi6] (e:=.normal) (fr2:=FI g' (ps++kP nx L (i+1)).length BJ id off L.length (i+1) j') (by kernel_rfl) (by intro v h;cases h) (h g' BJ j')
 refine .Sx (x:=sb Hb 247270) (y:=sb Hb 247271) (by kernel_rfl) ?_;have hc:sb Hb 247270=.block 3 (sb Hb 494540):=by kernel_rfl
 rw[hc];refine .block ?_;by_cases hk:x.kids=[];have hs:kP nx L (i+1)=kP nx L i:=by rw[WI,afq hx hk,List.append_nil]
 refine abI hid WG Vd hx hp false (Kv (by rw[hk];simp)) ?_;refine .ZC false (x:=sb Hb 31650622) (y:=sb Hb 31650623) (q:=.tmp 61) (by kernel_rfl) (by kernel_rfl) ?_;rw[if_neg (by decide),show sb Hb 31650623=.skip by kernel_rfl];refine .skip ⟨rfl,?_⟩;have:=fin g cap (js 3 j [(2,.bool false)]);rwa[hs] at this;have hs:kP nx L (i+1)=kP nx L i++[(nx,0+i*11+9)]:=by rw[WI,afr hx hk]
 refine abI hid WG Vd hx hp true (NB (by have:=List.length_pos_iff.2 hk;omega)) ?_;refine .ZC true (x:=sb Hb 31650622) (y:=sb Hb 31650623) (q:=.tmp 61) (by kernel_rfl) (by kernel_rfl) ?_;rw[if_pos rfl];refine(aj2 hb).mono ?_;rintro e f s' E ⟨g',BJ,rfl,hf,rfl,rfl⟩;refine⟨rfl,.wk hf ?_⟩;have:=fin g' BJ (js 3 j [(2,.bool true)]);rwa[hs,<- List.append_assoc] at this
def ajJ{T:List (Nat×AL)}{cs:List AV}(hid:id < nx)(WG:AI.look id T=some (.cells cs))(Vd:cs[off]?=some (.ID nx 0 L.length))(hp:∀x∈L,x.CN.ps.length*24<=140737488355328)(hb:ps.length+L.length<=100000000)
   (h:∀g' BJ j',Q .normal (FO g' (ps++kP nx L L.length).length BJ j') ⟨(nx,.cells (Bd (L.map zN)))::T,nx+1,[],0⟩ (Ej b B w0 g' BJ (ps++kP nx L L.length))) :
   WE P (G mx) (Ej b B w0 g cap ps) (sb Hb 7727) (FI g ps.length cap id off L.length 0 j) ⟨(nx,.cells (Bd L))::T,nx+1,[],0⟩ Q:=by
 rw[show sb Hb 7727=.block 2 (.loop (sb Hb 30908)) by kernel_rfl];refine .block ?_;refine .loop (λm f s E=>∃i g cap j,i+m=L.length/\f=FI g (ps++kP nx L i).length cap id off L.length i j/\s=⟨(nx,.cells (Bd (Ko L i)))::T,nx+1,[],0⟩/\E=Ej b B w0 g cap (ps++kP nx L i)) ?_ (m:=L.length) ⟨0,g,cap,j,by omega,by simp[kP],by rw[abB],by simp[kP]⟩;rintro m _ _ _ ⟨i,g,cap,j,him,rfl,rfl,rfl⟩;refine .seqB (x:=sb Hb 61816) (y:=sb Hb 61817) (by kernel_rfl) ?_;by_cases hi:i < L.length;refine .oP Hd.mixed Ej.GM [pb (WN hi)] (e:=.normal) (fr2:=FI g (ps++kP nx L i).length cap id off L.length i (js 3 j [(1,.bool true)])) (by kernel_rfl) (by intro v h;cases h) (.inl ⟨rfl,?_⟩);refine .Sx (x:=sb Hb 123634) (y:=sb Hb 123635) (by kernel_rfl) ?_;refine .ZC true (x:=sb Hb 247268) (y:=sb Hb 247269) (q:=.tmp 36) (by kernel_rfl) (by kernel_rfl) ?_;rw[if_pos rfl,show sb Hb 247268=.skip by kernel_rfl];refine .skip ⟨rfl,?_⟩;have hx:L[i]?=some L[i]:=List.getElem?_eq_getElem hi;refine afL hid WG Vd hx (hp _ (List.getElem_mem hi)) (by rw[List.length_append];have:=ahE nx L i;omega) (by omega) (λg' BJ j'=>.inl ⟨rfl,m - 1,by omega,i+1,g',BJ,j',by omega,rfl,rfl,rfl⟩);have he:i=L.length:=by omega
 subst he;refine .oP Hd.mixed Ej.GM [pb (fE (i:=L.length) (n:=L.length) (Nat.le_refl _))] (e:=.normal) (fr2:=FI g (ps++kP nx L L.length).length cap id off L.length L.length (js 3 j [(1,.bool false)])) (by kernel_rfl) (by intro v h;cases h) (.inl ⟨rfl,?_⟩);refine .seqB (x:=sb Hb 123634) (y:=sb Hb 123635) (by kernel_rfl) ?_;refine .ZC false (x:=sb Hb 247268) (y:=sb Hb 247269) (q:=.tmp 36) (by kernel_rfl) (by kernel_rfl) ?_;rw[if_neg (by decide),show sb Hb 247269=.exit 2 by kernel_rfl];refine .wk (fr2:=FO g (ps++kP nx L L.length).length cap (js 3 j [(1,.bool false)])) (by kernel_rfl) (.exit (.inr ⟨(by intro h;cases h),.inr ⟨(by intro h;cases h),?_⟩⟩));rw[afb];exact h g cap _
end
abbrev Bx:=List (Nd×Option Nat)
def kcC(n:Nd):Option Nat->AV
 | none=>.sl .lost n.kids.length (Bd n.kids)
 | some id=>.ID id 0 n.kids.length
def iY(p:Nd×Option Nat):List AV:=[.sc (.int .i64 p.1.kind),.sc (.string p.1.name),.sc (.string p.1.unit),.sc (.int .i64 p.1.n),.sc (.int .i64 p.1.fr),.sc (.int .i64 p.1.to),.sc (.int .i64 p.1.known),.sc (.int .i64 p.1.CN.den),.sl .lost p.1.CN.ps.length (rows H7 p.1.CN.ps),kcC p.1 p.2,.sc (.int .i64 p.1.AF)]
def bxC(l:Bx):List AV:=rows iY l
def WQ(p:Nd×Option Nat):(iY p).length=11:=rfl
def fV(L:List Nd):bxC (L.map λn=>(n,none))=Bd L:=by
 rw[LJ];unfold bxC rows;rw[List.flatMap_map];rfl
def a1:AL:=.cells [.sc (.int .i64 0),.sc (.string ByteArray.empty),.sc (.string ByteArray.empty),.sc (.int .i64 0),.sc (.int .i64 0),.sc (.int .i64 0),.sc (.int .i64 0),.sc (.int .i64 0),.sl .full 0 [],.sl .full 0 [],.sc (.int .i64 0)]
def rkC(n0:Nd):Option Nat->AV
 | none=>.sl .lost [n0].length (Bd [n0])
 | some c=>.ID c 0 [n0].length
def akP(rk:Option Nat)(n0:Nd):List (Nat×AL):=[(2,.cells [rkC n0 rk]),(1,a1),(0,.cells (CJ n0))]
def HH(rk:Option Nat)(n0:Nd)(M:List Bx):List (Nat×AL):=IC (M.map λl=>.cells (bxC l)) 3 (akP rk n0)
def pI{rk:Option Nat}{n0:Nd}{M:List Bx}{id:Nat}(h:id < 3):AI.look id (HH rk n0 M)=AI.look id (akP rk n0):=SS h
def xY{rk:Option Nat}{n0:Nd}{M:List Bx}{i:Nat}{l:Bx}(h:M[i]?=some l):AI.look (3+i) (HH rk n0 M)=some (.cells (bxC l)):=Zf (by rw[List.getElem?_map,h];rfl)
def adX{rk:Option Nat}{n0:Nd}{M:List Bx}(c:Nat):QU 2 (.cells [rkC n0 (some c)]) (HH rk n0 M)=HH (some c) n0 M:=UK (by decide)
def aii{rk:Option Nat}{n0:Nd}{M:List Bx}{i:Nat}{l:Bx}(hi:i < M.length):QU (3+i) (.cells (bxC l)) (HH rk n0 M)=HH rk n0 (M.set i l):=by
 unfold HH;rw[eG (by simpa using hi),List.map_set]
def pJ{rk:Option Nat}{n0:Nd}{M:List Bx}{l:Bx}:HH rk n0 (M++[l])=(3+M.length,.cells (bxC l))::HH rk n0 M:=by
 unfold HH;rw[List.map_append,List.map_singleton,n6,List.length_map]
mutual
def cN:Nd->Nat
 | ⟨_,_,_,_,_,_,_,_,kids,_⟩=>1+cL kids
def cL:List Nd->Nat
 | []=>0
 | k::ks=>cN k+cL ks
end
def yX(n:Nd):cN n=1+cL n.kids:=by cases n;rw[cN]
def yT:∀l m:List Nd,cL (l++m)=cL l+cL m
 | [],m=>by simp[cL]
 | a::l,m=>by rw[List.cons_append,cL,cL,yT l m];omega
def yU:∀l:List Nd,l.length<=cL l
 | []=>by simp
 | a::l=>by rw[List.length_cons,cL,yX];have:=yU l;omega
mutual
def V3:Nd->Prop
 | ⟨_,_,_,_,_,_,_,CN,kids,_⟩=>CN.ps.length*24<=140737488355328/\psL kids
def psL:List Nd->Prop
 | []=>True
 | k::ks=>V3 k/\psL ks
end
def r4:∀l:List Nd,psL l↔∀k∈l,V3 k
 | []=>by simp[psL]
 | a::l=>by rw[psL,r4 l];simp
def MZ(n:Nd):V3 n↔n.CN.ps.length*24<=140737488355328/\∀k∈n.kids,V3 k:=by cases n;rw[V3,r4]
mutual
def G8:Nd->Nd
 | ⟨kind,name,unit,n,fr,to,known,CN,kids,_⟩=>⟨kind,name,unit,n,fr,to,known,CN,stL kids,0⟩
def stL:List Nd->List Nd
 | []=>[]
 | k::ks=>G8 k::stL ks
end
def sO:∀l:List Nd,stL l=l.map G8
 | []=>by rw[stL];rfl
 | k::l=>by rw[stL,sO l];rfl
def JA(n:Nd):G8 n=⟨n.kind,n.name,n.unit,n.n,n.fr,n.to,n.known,n.CN,n.kids.map G8,0⟩:=by cases n;rw[G8,sO]
def acx(n:Nd):G8 (zN n)=G8 n:=by rw[JA,JA];rfl
structure Inv(n0:Nd)(rk:Option Nat)(M:List Bx)(qs:List ((Nat×Nat)×List Nd)):Prop where
 afx:∀q∈qs,(q.1=(2,0)/\rk=none/\q.2=[n0])\/∃(i a:Nat) (l:Bx) (m:Nd),q.1=(3+i,0+a*11+9)/\M[i]?=some l/\l[a]?=some (m,none)/\q.2=m.kids/\m.kids≠[]
 ak3:(qs.map (·.1)).Nodup
 all:(rk=none->(2,0)∈qs.map (·.1))/\∀(i a:Nat) (l:Bx) (m:Nd),M[i]?=some l->l[a]?=some (m,none)->m.kids≠[]->(3+i,0+a*11+9)∈qs.map (·.1)
 done:∀(i a:Nat) (l:Bx) (m:Nd) (c:Nat),M[i]?=some l->l[a]?=some (m,some c)->∃(i2:Nat) (l2:Bx),c=3+i2/\i < i2/\M[i2]?=some l2/\l2.map (·.1)=m.kids.map zN
 root:∀c,rk=some c->∃(i2:Nat) (l2:Bx),c=3+i2/\M[i2]?=some l2/\l2.map (·.1)=[zN n0]
 small:∀q∈qs,∀x∈q.2,V3 x
 zero:∀(i a:Nat) (l:Bx) (m:Nd) (c:Option Nat),M[i]?=some l->l[a]?=some (m,c)->m.AF=0
def mu(qs:List ((Nat×Nat)×List Nd)):Nat:=(qs.map λq=>1+cL q.2).sum
def cX(l m:List ((Nat×Nat)×List Nd)):mu (l++m)=mu l+mu m:=by simp[mu]
def abC(qs:List ((Nat×Nat)×List Nd)):qs.length<=mu qs:=by
 induction qs with
 | nil=>simp
 | cons q qs ih =>
   have:mu (q::qs)=1+cL q.2+mu qs:=by simp[mu]
   rw[this,List.length_cons];omega
def qAt(nx:Nat)(L:List Nd)(i:Nat):List ((Nat×Nat)×List Nd):=match L[i]? with
 | some k=>(match k.kids with
   | []=>[]
   | x::y=>[((nx,0+i*11+9),x::y)])
 | none=>[]
def kQ(nx:Nat)(L:List Nd)(i:Nat):List ((Nat×Nat)×List Nd):=(List.range i).flatMap (qAt nx L)
def cR(nx:Nat)(L:List Nd)(i:Nat):kQ nx L (i+1)=kQ nx L i++qAt nx L i:=by unfold kQ;rw[List.range_succ,List.flatMap_append];simp
def dJ(nx:Nat)(L:List Nd)(i:Nat):(qAt nx L i).map (·.1)=xT nx L i:=by
 unfold qAt xT;cases L[i]? with
 | none=>rfl
 | some k=>simp only;cases k.kids<;>rfl
def nU(nx:Nat)(L:List Nd):∀i:Nat,(kQ nx L i).map (·.1)=kP nx L i
 | 0=>rfl
 | i+1=>by rw[cR,WI,List.map_append,nU nx L i,dJ]
def X1{nx:Nat}{L:List Nd}{i:Nat}{q:(Nat×Nat)×List Nd}:q∈kQ nx L i↔∃a k,a < i/\L[a]?=some k/\k.kids≠[]/\q=((nx,0+a*11+9),k.kids):=by
 unfold kQ;simp only[List.mem_flatMap,List.mem_range];constructor;rintro⟨a,ha,hq⟩;unfold qAt at hq;split at hq;rename_i k hk;split at hq;cases hq;rename_i x y hy;rw[List.mem_singleton] at hq;exact⟨a,k,ha,hk,by rw[hy];simp,by rw[hq,hy]⟩;cases hq;rintro⟨a,k,ha,hk,Is,rfl⟩;refine⟨a,ha,?_⟩;unfold qAt;rw[hk];simp only;cases hy:k.kids with
 | nil=>exact absurd hy Is
 | cons x y=>simp
def ahF(nx:Nat)(L:List Nd):∀i:Nat,mu (kQ nx L i)<=cL (L.take i)
 | 0=>by simp[kQ,mu]
 | i+1=>by
   rw[cR,cX];have ih:=ahF nx L i;by_cases hi:i < L.length;rw[<- List.take_append_getElem hi,yT]
   have:mu (qAt nx L i)<=cL [L[i]]:=by
     unfold qAt;rw[List.getElem?_eq_getElem hi];simp only[cL,Nat.add_zero];rw[yX];cases hk:L[i].kids with
     | nil=>simp[mu]
     | cons x y=>simp[mu]
   omega;have:qAt nx L i=[]:=by unfold qAt;rw[List.getElem?_eq_none (by omega)]
   rw[this,List.take_of_length_le (by omega)];rw[List.take_of_length_le (by omega)] at ih;simp[mu] at ih ⊢;exact ih
def iO(nx:Nat)(L:List Nd):∀i:Nat,((kQ nx L i).map (·.1)).Nodup
 | 0=>by simp[kQ]
 | i+1=>by
   rw[cR,List.map_append];refine List.nodup_append.2 ⟨iO nx L i,?_,?_⟩;rw[dJ];have:=abS nx L i;cases h:xT nx L i with
   | nil=>simp
   | cons a l=>rw[h] at this;simp at this;subst this;simp
   intro x hx y hy hxy;subst hxy;obtain⟨q,hq,rfl⟩:=List.mem_map.1 hx;obtain⟨a,k,ha,_,_,rfl⟩:=X1.1 hq;rw[dJ] at hy;unfold xT at hy;split at hy;split at hy;cases hy;rw[List.mem_singleton] at hy;injection hy with _ h2
   omega;cases hy
def mF{L:List Nd}{a:Nat}{p:Nd×Option Nat}(h:(((L.map zN).map λn=>((n,none):Nd×Option Nat)))[a]?=some p):∃k,L[a]?=some k/\p=(zN k,none):=by
 rw[List.getElem?_map,List.getElem?_map] at h;cases hk:L[a]? with
 | none=>rw[hk] at h;cases h
 | some k=>rw[hk] at h;cases h;exact⟨k,rfl,rfl⟩
def aev{l:Bx}{a:Nat}{m:Nd}{c d:Option Nat}(h:l[a]?=some (m,c)):(l.set a (m,d)).map (·.1)=l.map (·.1):=by
 rw[List.map_set];exact j7 (by rw[List.getElem?_map,h];rfl)
def Yc{α:Type}{l:List α}{x y:α}(h:x∈l++[y])(Is:x≠y):x∈l:=by
 rcases List.mem_append.1 h with h | h
 exact h;exact absurd (List.mem_singleton.1 h) Is
section
variable {n0:Nd} {rk:Option Nat} {M:List Bx} {qs:List ((Nat×Nat)×List Nd)} {q:(Nat×Nat)×List Nd}
def Inv.low(h:Inv n0 rk M qs):∀q∈qs,q.1.1 < 3+M.length:=λq hq=>by
 rcases h.afx q hq with ⟨e,_⟩ | ⟨i,a,l,m,e,hi,_⟩
 rw[e];show 2 < _;omega;rw[e];have:=(List.getElem?_eq_some_iff.1 hi).1;show 3+i < _;omega
def ae2(h:((qs++[q]).map (·.1)).Nodup):∀q2∈qs,q2.1≠q.1:=λq2 h2 e=>by
 rw[List.map_append] at h;exact(List.nodup_append.1 h).2.2 _ (List.mem_map_of_mem h2) _ (by simp) e
def abb(h:Inv n0 rk M (qs++[q])):∃(rk2:Option Nat) (M2:List Bx),Inv n0 rk2 M2 (qs++kQ (3+M.length) q.2 q.2.length)/\M2.length=M.length+1/\q.1.1 < 3+M.length/\q.2.length≠0 /\
   ∃cs,AI.look q.1.1 (HH rk n0 M)=some (.cells cs)/\cs[q.1.2]?=some (.sl .lost q.2.length (Bd q.2))/\HH rk2 n0 M2=(3+M.length,.cells (Bd (q.2.map zN)))::QU q.1.1 (.cells (cs.set q.1.2 (.ID (3+M.length) 0 q.2.length))) (HH rk n0 M):=by
 have aeM:=h.low q (by simp);have Is:=ae2 h.ak3
 have hsm:∀q2∈qs++kQ (3+M.length) q.2 q.2.length,∀x∈q2.2,V3 x:=λq2 h2 x hx=>by
   rcases List.mem_append.1 h2 with h2 | h2
   exact h.small q2 (by simp[h2]) x hx;obtain⟨a,k,ha,hk,_,rfl⟩:=X1.1 h2;exact((MZ k).1 (h.small q (by simp) k (List.mem_of_getElem? hk))).2 x hx
 have aht:((qs++kQ (3+M.length) q.2 q.2.length).map (·.1)).Nodup:=by
   rw[List.map_append];refine List.nodup_append.2 ⟨?_,iO _ _ _,λx hx y hy e=>?_⟩;have:=h.ak3;rw[List.map_append] at this;exact(List.nodup_append.1 this).1;subst e;obtain⟨q2,h2,rfl⟩:=List.mem_map.1 hx;obtain⟨q3,h3,e3⟩:=List.mem_map.1 hy;obtain⟨a,k,_,_,_,rfl⟩:=X1.1 h3;have:=h.low q2 (by simp[h2]);rw[<- e3] at this;simp at this
 have rO:∀(M3:List Bx),M3[M.length]?=some ((q.2.map zN).map λn=>(n,none))->∀q2∈kQ (3+M.length) q.2 q.2.length,∃(i a:Nat) (l:Bx) (m:Nd),q2.1=(3+i,0+a*11+9)/\M3[i]?=some l/\l[a]?=some (m,none)/\q2.2=m.kids/\m.kids≠[]:=λM3 hM q2 h2=>by
   obtain⟨a,k,ha,hk,hkn,rfl⟩:=X1.1 h2;exact⟨M.length,a,_,zN k,rfl,hM,by rw[List.getElem?_map,List.getElem?_map,hk];rfl,rfl,hkn⟩
 have abH:∀(a:Nat) (m:Nd),(((q.2.map zN).map λn=>((n,none):Nd×Option Nat)))[a]?=some (m,none)->m.kids≠[]->(3+M.length,0+a*11+9)∈(qs++kQ (3+M.length) q.2 q.2.length).map (·.1):=λa m hm hk=>by
   obtain⟨k,fA,e⟩:=mF hm;injection e with e1 _
   subst e1;rw[List.map_append];refine List.mem_append.2 (.inr (List.mem_map.2 ⟨_,X1.2 ⟨a,k,(List.getElem?_eq_some_iff.1 fA).1,fA,hk,rfl⟩,rfl⟩))
 have rN:∀(a:Nat) (m:Nd) (c:Nat),(((q.2.map zN).map λn=>((n,none):Nd×Option Nat)))[a]?=some (m,some c)->False:=λa m c hm=>by
   obtain⟨k,_,e⟩:=mF hm;injection e with _ e2
   cases e2
 have rP:∀(a:Nat) (m:Nd) (c:Option Nat),(((q.2.map zN).map λn=>((n,none):Nd×Option Nat)))[a]?=some (m,c)->m.AF=0:=λa m c hm=>by
   obtain⟨k,_,e⟩:=mF hm;injection e with e1 _
   rw[e1];rfl
 rcases h.afx q (by simp) with ⟨e1,hrk,e2⟩ | ⟨i,a,l,m,e1,hi,ha,e2,hkn⟩
 . subst hrk
   have OV:∀{i:Nat} {l:Bx},i≠M.length->(M++[((q.2.map zN).map λn=>((n,none):Nd×Option Nat))])[i]?=some l->M[i]?=some l:=λ{i l} hi hl=>by
     have:=(List.getElem?_eq_some_iff.1 hl).1;rw[List.length_append,List.length_singleton] at this;rwa[List.getElem?_append_left (by omega)] at hl
   have Za:∀{i:Nat} {l:Bx},M[i]?=some l->(M++[((q.2.map zN).map λn=>((n,none):Nd×Option Nat))])[i]?=some l:=λ{i l} hl=>by
     rw[List.getElem?_append_left (List.getElem?_eq_some_iff.1 hl).1];exact hl
   have Lu:(M++[((q.2.map zN).map λn=>((n,none):Nd×Option Nat))])[M.length]?=some ((q.2.map zN).map λn=>(n,none)):=List.getElem?_concat_length
   have hzero:∀(i a:Nat) (l:Bx) (m:Nd) (c:Option Nat),(M++[((q.2.map zN).map λn=>((n,none):Nd×Option Nat))])[i]?=some l->l[a]?=some (m,c)->m.AF=0:=λi a l m c hi ha=>by
     by_cases iE:i=M.length;subst iE;rw[Lu] at hi;cases hi;exact rP a m c ha;exact h.zero i a l m c (OV iE hi) ha
   refine⟨some (3+M.length),M++[(q.2.map zN).map λn=>(n,none)],⟨λq2 h2=>?_,aht,⟨(λh=>nomatch h),λi a l m hi ha hk=>?_⟩,λi a l m c hi ha=>?_,λc hc=>?_,hsm,hzero⟩,by simp,aeM,by rw[e2];simp,[rkC n0 none],?_,?_,?_⟩;rcases List.mem_append.1 h2 with h2 | h2
   rcases h.afx q2 (by simp[h2]) with ⟨e3,_,_⟩ | ⟨i,a,l,m,f1,f2,f3,f4,f5⟩
   exact absurd (e3.trans e1.symm) (Is q2 h2);exact .inr ⟨i,a,l,m,f1,Za f2,f3,f4,f5⟩;exact .inr (rO _ Lu q2 h2);by_cases iE:i=M.length;subst iE;rw[Lu] at hi;cases hi;exact abH a m ha hk;have:=h.all.2 i a l m (OV iE hi) ha hk;rw[List.map_append] at this ⊢;refine List.mem_append.2 (.inl (Yc this (by show _≠q.1;rw[e1];intro h;injection h with h _;omega)))
   . by_cases iE:i=M.length
     subst iE;rw[Lu] at hi;cases hi;exact(rN a m c ha).elim
     . obtain⟨i2,l2,f1,f2,f3,f4⟩:=h.done i a l m c (OV iE hi) ha
       exact⟨i2,l2,f1,f2,Za f3,f4⟩
   cases hc;exact⟨M.length,_,rfl,Lu,by rw[e2];rfl⟩;rw[e1];exact pI (by decide);rw[e1,e2];rfl;rw[pJ,fV,e1,e2];congr 1;exact(adX (rk:=none) (3+M.length)).symm
 . have hiL:=(List.getElem?_eq_some_iff.1 hi).1
   have haL:=(List.getElem?_eq_some_iff.1 ha).1;have hlen:(M.set i (l.set a (m,some (3+M.length)))).length=M.length:=List.length_set
   have Lu:(M.set i (l.set a (m,some (3+M.length)))++[((q.2.map zN).map λn=>((n,none):Nd×Option Nat))])[M.length]?=some ((q.2.map zN).map λn=>(n,none)):=by
     have:=List.getElem?_concat_length (l:=M.set i (l.set a (m,some (3+M.length)))) (a:=(q.2.map zN).map λn=>((n,none):Nd×Option Nat));rwa[hlen] at this
   have qT:(M.set i (l.set a (m,some (3+M.length)))++[((q.2.map zN).map λn=>((n,none):Nd×Option Nat))])[i]?=some (l.set a (m,some (3+M.length))):=by
     rw[List.getElem?_append_left (by rw[hlen];exact hiL),List.getElem?_set_self hiL]
   have OV:∀{i2:Nat} {l2:Bx},i2≠M.length->i2≠i->(M.set i (l.set a (m,some (3+M.length)))++[((q.2.map zN).map λn=>((n,none):Nd×Option Nat))])[i2]?=some l2->M[i2]?=some l2:=λ{i2 l2} h1 h2 hl=>by
     have:=(List.getElem?_eq_some_iff.1 hl).1;rw[List.length_append,List.length_singleton,hlen] at this;rwa[List.getElem?_append_left (by rw[hlen];omega),List.getElem?_set_ne (λe=>h2 e.symm)] at hl
   have Za:∀{i2:Nat} {l2:Bx},M[i2]?=some l2->∃l3,(M.set i (l.set a (m,some (3+M.length)))++[((q.2.map zN).map λn=>((n,none):Nd×Option Nat))])[i2]?=some l3/\l3.map (·.1)=l2.map (·.1)/\∀b p,(i2,b)≠(i,a)->l2[b]?=some p->l3[b]?=some p:=λ{i2 l2} hl=>by
     have ZQ:=(List.getElem?_eq_some_iff.1 hl).1;by_cases h2:i2=i;subst h2;rw[hi] at hl;cases hl;exact⟨_,qT,aev ha,λb p hb hp=>by rw[List.getElem?_set_ne (λe=>hb (by rw[e]))];exact hp⟩;exact⟨l2,by rw[List.getElem?_append_left (by rw[hlen];exact ZQ),List.getElem?_set_ne (λe=>h2 e.symm)];exact hl,rfl,λb p _ hp=>hp⟩
   have hzero:∀(i2 a2:Nat) (l2:Bx) (m2:Nd) (c:Option Nat),(M.set i (l.set a (m,some (3+M.length)))++[((q.2.map zN).map λn=>((n,none):Nd×Option Nat))])[i2]?=some l2->l2[a2]?=some (m2,c)->m2.AF=0:=λi2 a2 l2 m2 c Ui ZL=>by
     by_cases iE:i2=M.length;subst iE;rw[Lu] at Ui;cases Ui;exact rP a2 m2 c ZL;by_cases h2:i2=i;subst h2;rw[qT] at Ui;cases Ui;by_cases h3:a2=a;subst h3;rw[List.getElem?_set_self haL] at ZL;cases ZL;exact h.zero i2 a2 l _ none hi ha;rw[List.getElem?_set_ne (λe=>h3 e.symm)] at ZL;exact h.zero i2 a2 l m2 c hi ZL;exact h.zero i2 a2 l2 m2 c (OV iE h2 Ui) ZL
   refine⟨rk,M.set i (l.set a (m,some (3+M.length)))++[(q.2.map zN).map λn=>(n,none)],⟨λq2 h2=>?_,aht,⟨λhr=>?_,λi2 a2 l2 m2 Ui ZL hk=>?_⟩,λi2 a2 l2 m2 c Ui ZL=>?_,λc hc=>?_,hsm,hzero⟩,by simp,aeM,by rw[e2];exact λh=>hkn (List.eq_nil_of_length_eq_zero h),bxC l,?_,?_,?_⟩;rcases List.mem_append.1 h2 with h2 | h2
   rcases h.afx q2 (by simp[h2]) with h3 | ⟨i2,a2,l2,m2,f1,f2,f3,f4,f5⟩
   exact .inl h3;obtain⟨l3,g1,_,g3⟩:=Za f2;exact .inr ⟨i2,a2,l3,m2,f1,g1,g3 a2 _ (λe=>Is q2 h2 (by injection e with x y;rw[f1,e1,x,y])) f3,f4,f5⟩
   exact .inr (rO _ Lu q2 h2);have:=h.all.1 hr;rw[List.map_append] at this ⊢;refine List.mem_append.2 (.inl (Yc this (by show _≠q.1;rw[e1];intro h;injection h with h _;omega)))
   by_cases iE:i2=M.length;subst iE;rw[Lu] at Ui;cases Ui;exact abH a2 m2 ZL hk
   have key:∀l4,M[i2]?=some l4->l4[a2]?=some (m2,none)->(i2,a2)≠(i,a)->(3+i2,0+a2*11+9)∈(qs++kQ (3+M.length) q.2 q.2.length).map (·.1):=λl4 h4 h5 h6=>by
     have:=h.all.2 i2 a2 l4 m2 h4 h5 hk;rw[List.map_append] at this ⊢
     refine List.mem_append.2 (.inl (Yc this (by
       show _≠q.1;rw[e1];intro e;injection e with x y
       exact h6 (by rw[show i2=i by omega,show a2=a by omega]))))
   by_cases h2:i2=i;subst h2;rw[qT] at Ui;cases Ui;by_cases h3:a2=a;subst h3;rw[List.getElem?_set_self haL] at ZL;cases ZL;rw[List.getElem?_set_ne (λe=>h3 e.symm)] at ZL;exact key l hi ZL (λe=>by injection e with _ e;exact h3 e)
   exact key l2 (OV iE h2 Ui) ZL (λe=>by injection e with e _;exact h2 e)
   . by_cases iE:i2=M.length
     subst iE;rw[Lu] at Ui;cases Ui;exact(rN a2 m2 c ZL).elim
     . have xS:∀l4,M[i2]?=some l4->l4[a2]?=some (m2,some c)->∃(i3:Nat) (l3:Bx),c=3+i3/\i2 < i3/\(M.set i (l.set a (m,some (3+M.length)))++[((q.2.map zN).map λn=>((n,none):Nd×Option Nat))])[i3]?=some l3/\l3.map (·.1)=m2.kids.map zN:=λl4 h4 h5=>by
         obtain⟨i3,l3,f1,f2,f3,f4⟩:=h.done i2 a2 l4 m2 c h4 h5;obtain⟨l5,g1,g2,_⟩:=Za f3;exact⟨i3,l5,f1,f2,g1,g2.trans f4⟩
       by_cases h2:i2=i;subst h2;rw[qT] at Ui;cases Ui;by_cases h3:a2=a;subst h3;rw[List.getElem?_set_self haL] at ZL;cases ZL;exact⟨M.length,_,rfl,hiL,Lu,by rw[e2,List.map_map];simp[Function.comp_def]⟩;rw[List.getElem?_set_ne (λe=>h3 e.symm)] at ZL;exact xS l hi ZL;exact xS l2 (OV iE h2 Ui) ZL
   obtain⟨i3,l3,f1,f2,f3⟩:=h.root c hc;obtain⟨l5,g1,g2,_⟩:=Za f2;exact⟨i3,l5,f1,g1,g2.trans f3⟩;rw[e1];exact xY hi;rw[e1,e2];show(rows iY l)[0+a*11+9]?=_;rw[Nat.zero_add,dT WQ ha (by decide)];rfl;rw[pJ,fV,hlen,e1];congr 1;rw[<- aii (by exact hiL)];congr 2;rw[e2];show rows iY (l.set a (m,some (3+M.length)))=(rows iY l).set (0+a*11+9) _;rw[Nat.zero_add,jY WQ (j:=9) (y:=(m,some (3+M.length))) (v:=.ID (3+M.length) 0 m.kids.length) ha (by decide) rfl]
def rJ{p:Nat×Nat}(L:List Nd)(nx:Nat):mu (qs++kQ nx L L.length) < mu (qs++[(p,L)]):=by
 rw[cX,cX];have:=ahF nx L L.length;rw[List.take_length] at this;have h2:mu [(p,L)]=1+cL L:=by simp[mu]
 omega
end
section
variable {c:Cx} {w:World} {s:AS} {n0:Nd} {rk:Option Nat} {M:List Bx}
def ZF(Ij:∀g i v,LD c w g i v->LD (c.upto 0 0) w g i v){m:Nd}{k:Option Nat}{X Y:List AV}{vs:List Value}(hz:m.AF=0)
   (hk:∀v,Rp c w (kcC m k) v->Rp (c.upto 0 0) w (.sl .lost (m.kids.map G8).length (Bd (m.kids.map G8))) v) (hX:∀us,CG c w X us->CG (c.upto 0 0) w Y us) (h:CG c w (iY (m,k)++X) vs):CG (c.upto 0 0) w (CJ (G8 m)++Y) vs:=by
 have pl:∀{a:AV} {v:Value},plain a=true->Rp c w a v->Rp (c.upto 0 0) w a v:=λhp hr=>Rp.plain Ij hp hr;rw[JA];cases h with
 | cons h0 h=>cases h with
 | cons h1 h=>cases h with
 | cons h2 h=>cases h with
 | cons h3 h=>cases h with
 | cons h4 h=>cases h with
 | cons h5 h=>cases h with
 | cons h6 h=>cases h with
 | cons h7 h=>cases h with
 | cons h8 h=>cases h with
 | cons h9 h=>cases h with
 | cons h10 h =>
   have h10:Rp c w (.sc (.int .i64 m.AF)) _:=h10;rw[hz] at h10;exact .cons (pl rfl h0) (.cons (pl rfl h1) (.cons (pl rfl h2) (.cons (pl rfl h3) (.cons (pl rfl h4) (.cons (pl rfl h5) (.cons (pl rfl h6) (.cons (pl rfl h7) (.cons (pl (KY.KC m.CN.ps) h8) (.cons (hk _ h9) (.cons (pl rfl h10) (hX _ h)))))))))))
def aot(hs:St (G mx) c w s)(hb:∀g,some g∈c.CS->∀i,¬c.bad g i)(hI:Inv n0 rk M [])(OV:∀i l,M[i]?=some l->s.get (3+i)=some (.cells (bxC l)))(Ij:∀g i v,LD c w g i v->LD (c.upto 0 0) w g i v) :
   ∀(d i:Nat) (l:Bx),M.length<=i+d->M[i]?=some l->∀g,c.CS[3+i]?=some (some g)->A9 (c.upto 0 0) w g 0 (Bd (l.map λp=>G8 p.1)):=by
 intro d
 induction d with
 | zero=>intro i l hd hl;have:=(List.getElem?_eq_some_iff.1 hl).1;omega
 | succ d ih =>
   intro i l hd hl g hg;have hgm:=List.mem_of_getElem? hg;obtain⟨vs,ext,T,hw,hr⟩:=Pl hs hg (OV i l hl)
   have key:∀(l2:Bx),(∀p∈l2,∃a:Nat,l[a]?=some p)->∀us,CG c w (rows iY l2) us->CG (c.upto 0 0) w (Bd (l2.map λp=>G8 p.1)) us:=by
     intro l2
     induction l2 with
     | nil=>intro _ us h;cases h;exact .nil
     | cons p l2 vE =>
       intro hm us h;obtain⟨m,k⟩:=p;obtain⟨a,ha⟩:=hm (m,k) (by simp);rw[Gj] at h;rw[List.map_cons,AB.cons];refine ZF Ij (hI.zero i a l m k hl ha) (λv hv=>?_) (λus hu=>vE (λp hp=>hm p (by simp[hp])) us hu) h;cases k with
       | none =>
         have hk:m.kids=[]:=by
           by_cases hk:m.kids=[];exact hk;exact absurd (hI.all.2 i a l m hl ha hk) (by simp)
         have hv:Rp c w (.sl .lost m.kids.length (Bd m.kids)) v:=hv;rw[hk] at hv ⊢;exact Rp.plain Ij rfl hv
       | some cc =>
         obtain⟨i2,l3,rfl,Ui,hl3,hf⟩:=hI.done i a l m cc hl ha;have hv:Rp c w (.ID (3+i2) 0 m.kids.length) v:=hv;cases hv with
         | @ID _ _ _ g2 cap hn hid =>
           have h3:=ih i2 l3 (by omega) hl3 g2 hid
           have e:(l3.map λp=>G8 p.1)=m.kids.map G8:=by
             have:=congrArg (List.map G8) hf;rw[List.map_map,List.map_map] at this;rw[show(λp:Nd×Option Nat=>G8 p.1)=G8∘(·.1) from rfl,this];exact List.map_congr_left λx _=>acx x
           rw[e] at h3;rw[List.length_map];exact .KM hn h3 trivial
   refine A9.Ow (key l (λp hp=>by obtain⟨a,ha⟩:=List.mem_iff_getElem?.1 hp;exact⟨a,ha⟩) vs hr) (λj v hj=>?_);rw[Nat.zero_add];refine⟨hs.Md g hgm,λGq=>?_,cell_of_heap hw (RX hj)⟩;rcases Gq with Gq | ⟨r,n',BJ,M7,hr,_⟩ | Gq
   simp[Cx.upto] at Gq;simp[Cx.upto] at hr;exact hb g hgm j Gq
def uT(hI:Inv n0 rk M [])(OV:∀i l,M[i]?=some l->s.get (3+i)=some (.cells (bxC l))){i:Nat}{k:Option Nat}(hl:M[i]?=some [(zN n0,k)]):pH (G mx) s (.agg (iY (zN n0,k))) (.agg (CJ (G8 n0))):=by
 intro c w u hs hb hr
 have Ij:∀g i v,LD c w g i v->LD (c.upto 0 0) w g i v:=λg i v hv=>⟨hv.1,λGq=>by
   rcases Gq with Gq | ⟨r,n',BJ,M7,hr,_⟩ | Gq
   simp[Cx.upto] at Gq;simp[Cx.upto] at hr;exact hv.2.1 (.inr (.inr Gq)),hv.2.2⟩
 cases hr with
 | agg h =>
   have:=ZF (X:=[]) (Y:=[]) Ij (m:=zN n0) (k:=k) rfl (λv hv=>?_) (λus hu=>by cases hu;exact .nil) (by rw[List.append_nil];exact h);rw[List.append_nil,acx] at this;exact .agg this
   . cases k with
     | none =>
       have hk:(zN n0).kids=[]:=by
         by_cases hk:(zN n0).kids=[];exact hk;exact absurd (hI.all.2 i 0 _ _ hl rfl hk) (by simp)
       have hv:Rp c w (.sl .lost (zN n0).kids.length (Bd (zN n0).kids)) v:=hv;rw[hk] at hv ⊢;exact Rp.plain Ij rfl hv
     | some cc =>
       obtain⟨i2,l3,rfl,Ui,hl3,hf⟩:=hI.done i 0 _ _ cc hl rfl;have hv:Rp c w (.ID (3+i2) 0 (zN n0).kids.length) v:=hv;cases hv with
       | @ID _ _ _ g2 cap hn hid =>
         have h3:=aot hs hb hI OV Ij M.length i2 l3 (by omega) hl3 g2 hid
         have e:(l3.map λp=>G8 p.1)=(zN n0).kids.map G8:=by
           have:=congrArg (List.map G8) hf;rw[List.map_map,List.map_map] at this;rw[show(λp:Nd×Option Nat=>G8 p.1)=G8∘(·.1) from rfl,this];exact List.map_congr_left λx _=>acx x
         rw[e] at h3;rw[List.length_map];exact .KM hn h3 trivial
end
section
variable {b:Nat} {B:Nat->Nat->Prop} {w0:World} {Q:QE} {n0:Nd}
def afp{g:Nat}{j:List Value}(hc:cL [n0]<=99999998)(hp:V3 n0)
   (h:∀rk M g cap j,Inv n0 rk M []->Q .normal (FO g 0 cap j) ⟨HH rk n0 M,3+M.length,[],0⟩ (Ej b B w0 g cap [])) :
   WE P (G mx) (Ej b B w0 g 1 [(2,0)]) (sb Hb 30) (FO g 1 1 j) ⟨HH none n0 [],3,[],0⟩ Q:=by
 rw[show sb Hb 30=.block 0 (.loop (sb Hb 120)) by kernel_rfl];refine .block ?_;refine .loop (λm f s E=>∃rk M qs g cap j,Inv n0 rk M qs/\m=mu qs/\mu qs<=99999999/\f=FO g (qs.map (·.1)).length cap j/\s=⟨HH rk n0 M,3+M.length,[],0⟩/\E=Ej b B w0 g cap (qs.map (·.1))) ?_ (m:=mu [((2,0),[n0])]) ⟨none,[],[((2,0),[n0])],g,1,j,?_,rfl,by simp[mu];omega,rfl,rfl,rfl⟩;rotate_left;exact⟨λq hq=>.inl (by rw[List.mem_singleton.1 hq];exact⟨rfl,rfl,rfl⟩),by simp,⟨λ_=>by simp,λi a l m hi=>by simp at hi⟩,λi a l m c hi=>by simp at hi,λc hc=>(nomatch hc),λq hq x hx=>by rw[List.mem_singleton.1 hq] at hx;rw[List.mem_singleton.1 hx];exact hp,λi a l m c hi=>by simp at hi⟩;rintro m _ _ _ ⟨rk,M,qs,g,cap,j,hI,rfl,hmu,rfl,rfl,rfl⟩;refine .seqB (x:=sb Hb 240) (y:=sb Hb 241) (by kernel_rfl) ?_;rcases List.eq_nil_or_concat qs with rfl | ⟨qs,q,rfl⟩
 refine .seqB (x:=sb Hb 480) (y:=sb Hb 481) (by kernel_rfl) ?_;refine aaR false 0 rfl (λf h13 hf=>.inl ⟨rfl,?_⟩);refine .ZC false (x:=sb Hb 962) (y:=sb Hb 963) (q:=.tmp 13) (by kernel_rfl) h13 ?_;rw[if_neg (by decide),show sb Hb 963=.exit 0 by kernel_rfl];exact .wk hf (.exit (.inr ⟨(by intro h;cases h),.inr ⟨(by intro h;cases h),h rk M g cap _ hI⟩⟩));rw[List.concat_eq_append] at hI hmu ⊢;have hqm:(qs++[q]).map (·.1)=qs.map (·.1)++[q.1]:=by rw[List.map_append];rfl
 have hlen:=abC (qs++[q]);rw[List.length_append,List.length_singleton] at hlen;refine .Sx (x:=sb Hb 480) (y:=sb Hb 481) (by kernel_rfl) ?_;refine aaR true _ (aov (by rw[hqm,List.length_append,List.length_singleton];omega)) (λf h13 hf=>⟨rfl,?_⟩);refine .ZC true (x:=sb Hb 962) (y:=sb Hb 963) (q:=.tmp 13) (by kernel_rfl) h13 ?_;rw[if_pos rfl,show sb Hb 962=.skip by kernel_rfl];refine .skip (.inl ⟨rfl,.wk hf ?_⟩);rw[show sb Hb 241=.block 1 (sb Hb 482) by kernel_rfl,hqm];refine .block ?_;obtain⟨rk2,M2,hI2,hM2,hid,hL,cs,WG,Vd,hH⟩:=abb hI;have hmq:mu (qs++[q])=mu qs+(1+cL q.2):=by rw[cX];simp[mu]
 have hLc:=yU q.2;have hql:=abC qs;refine al6 (by rw[List.length_map];omega) ?_;refine aef hid WG Vd hL (by omega) ?_;refine ajJ hid (X8 WG) (List.getElem?_set_self (List.getElem?_eq_some_iff.1 Vd).1) (λx hx=>((MZ x).1 (hI.small q (by simp) x hx)).1) (by rw[List.length_map];omega) (λg' BJ j'=>.inl ⟨rfl,mu (qs++kQ (3+M.length) q.2 q.2.length),rJ q.2 (3+M.length),rk2,M2,qs++kQ (3+M.length) q.2 q.2.length,g',BJ,j',hI2,rfl,?_,?_,?_,?_⟩);have:=rJ (qs:=qs) (p:=q.1) q.2 (3+M.length);have:mu (qs++[(q.1,q.2)])<=99999999:=hmu;omega;rw[List.map_append,nU];rw[hH,hM2];rfl;rw[List.map_append,nU]
def dN:(P.underlying 29).map Nv=some true:=by kernel_rfl
def sN:(P.info? 29).map (·.size)=some 11:=by kernel_rfl
def acB{n:Nd}(hc:cL [n]<=99999998)(hp:V3 n):Pure P (G mx) 24 [.agg (CJ n)] (.agg (CJ (G8 n))):=by
 refine al8 Hd.mixed Hd.Ab Tryz.func24 b24 (λb B w0 hB=>?_) (BE (AB.CW n) rfl) (AB.CW (G8 n));refine .Sx (x:=sb Hb 2) (y:=sb Hb 3) (by kernel_rfl) ?_;refine .run Hd.mixed E0.GM [] (e:=.normal) (fr2:=fr 72 [(1,.ptr 0 0),(2,.ptr 1 0)] [13,36,61] [undef,undef,undef]) (s2:=⟨[(1,a1),(0,.cells (CJ n))],2,[],0⟩) (by kernel_rfl) (by intro v h;cases h) ⟨rfl,?_⟩;refine .Sx (x:=sb Hb 6) (y:=sb Hb 7) (by kernel_rfl) ?_;refine .run Hd.mixed E0.GM [] (e:=.normal) (fr2:=fr 72 [(2,.ptr 1 0),(3,.ptr 2 0)] [13,36,61] [undef,undef,undef]) (s2:=⟨[(2,.cells [.sl .full 1 (CJ n)]),(1,a1),(0,.cells (CJ n))],3,[],0⟩) (by kernel_rfl) (by intro v h;cases h) ⟨rfl,?_⟩;refine .oK (id:=2) (b2:=.cells [rkC n none]) rfl (λcx w o ho=>?_) ?_
 . have e:Bd [n]=CJ n:=by rw[LJ];exact List.append_nil _
   cases ho with
   | Hc ext h1 =>
     refine .Hc ext ?_;cases h1 with
     | cons h1 t =>
       refine .cons ?_ t;show Rp cx w (.sl .lost 1 (Bd [n])) _;rw[e];cases h1 with
       | KM hn hc _=>exact .KM hn hc trivial
 show WE P (G mx) _ (sb Hb 7) _ ⟨HH none n [],3,[],0⟩ _;refine .Sx (x:=sb Hb 14) (y:=sb Hb 15) (by kernel_rfl) ?_;have hr:RL (sb Hb 14) 2=true:=by kernel_rfl
 refine .reg hr ?_;show Pa P (G mx) _ _ [0,1] _ _ _;refine .begin hr (by decide) (t:=88) (e:=87) (x:=.tmp 3) (id:=2) (off:=0) (by kernel_rfl) uP (by kernel_rfl) (by kernel_rfl) (λg=>?_);refine .q Hd.mixed Ej.GM hr (by decide) (.raw (some ⟨g,0,none⟩) 1 1) (by kernel_rfl) (by kernel_rfl) ?_;refine .nil ⟨rfl,.wk (fr2:=FO g 1 1 [undef,undef,undef]) (by kernel_rfl) ?_⟩;refine .Sx (x:=sb Hb 30) (y:=sb Hb 31) (by kernel_rfl) ?_;refine afp hc hp (λrk M g cap j hI=>⟨rfl,?_⟩);cases rk with
 | none=>exact absurd (hI.all.1 rfl) (by simp)
 | some c =>
   obtain⟨i,l,rfl,hl,hf⟩:=hI.root c rfl
   obtain⟨k,rfl⟩:∃k,l=[(zN n,k)]:=by
     cases l with
     | nil=>cases hf
     | cons p l =>
       cases l with
       | cons _ _=>simp at hf
       | nil =>
         obtain⟨m,k⟩:=p;simp at hf;exact⟨k,by rw[hf]⟩
   have ho:(iY (zN n,k)).all one=true:=by cases k<;>rfl
   refine .seqB (x:=sb Hb 62) (y:=sb Hb 63) (by kernel_rfl) ?_;refine .run Hd.mixed Ej.GM [oH (x:=AI.look 2 (HH (some (3+i)) n M)) (b:=.cells [.ID (3+i) 0 1]) (off:=0) (v:=.ID (3+i) 0 1) (Zy dL sL rfl) (pI (by decide)),IP (ahC (id:=3+i) (n:=1) (i:=0) (by decide)),oH (x:=AI.look (3+i) (HH (some (3+i)) n M)) (off:=0+0*11) (v:=.agg (iY (zN n,k))) (jW WQ dN sN (l:=[(zN n,k)]) rfl) (xY hl),afz (x:=AI.look 1 (HH (some (3+i)) n M)) (b:=a1) (off:=0) (v:=.agg (iY (zN n,k))) (stA sN rfl rfl ho) (pI (by decide))] (e:=.normal) (fr2:=FO g 0 cap j) (s2:=⟨QU 1 (.cells (iY (zN n,k))) (HH (some (3+i)) n M),3+M.length,[],0⟩) (by kernel_rfl) (by intro v h;cases h) (.inl ⟨rfl,?_⟩);rw[show sb Hb 63=.ret by kernel_rfl];have aoP:AI.look 1 (HH (some (3+i)) n M)=some a1:=pI (by decide);refine λcx w a K hE hs hf hd hK=>wp_ret (hK .ret _ _ _ ⟨.inr rfl,Ej.fin hB,.agg (iY (zN n,k)),anr (a:=.ptr 1 0) (t:=2) (ty:=29) (by kernel_rfl) (by kernel_rfl) ?_,uT hI (λi2 l2 h2=>?_) hl⟩ cx w a _ hE hs hd ⟨rfl,hf⟩)
   have hg:AS.get ⟨QU 1 (.cells (iY (zN n,k))) (HH (some (3+i)) n M),3+M.length,[],0⟩ 1=some (.cells (rows iY [(zN n,k)])):=by
     show AI.look 1 (QU 1 _ _)=_;rw[X8 aoP];rw[show rows iY [(zN n,k)]=iY (zN n,k) from List.append_nil _]
   have:=jW (P:=P) (G:=(G mx)) WQ dN sN (l:=[(zN n,k)]) (i:=0) (x:=(zN n,k)) rfl _ _ hg;simpa using this
   show AI.look (3+i2) (QU 1 _ _)=_;rw[Il (by omega)];exact xY h2
end
end Mo
end Go.Proofs.YtpbkhogolfegfaaGreatDoor
namespace Go.Proofs.YtpbkhogolfegfaaGreatDoor
open AI Go
namespace Mo
variable {mx:Int}
open Classical in
def HU(n:Nd):Option Nd:=if cL [n]<=99999998/\V3 n then some (G8 n) else none
def Ox{n:Nd}{yR:Nd}(h:HU n=some yR):Pure P (G mx) 24 [.agg (CJ n)] (.agg (CJ yR)):=by
 unfold HU at h;split at h;rename_i hc;cases h;exact acB hc.1 hc.2;cases h
end Mo
end Go.Proofs.YtpbkhogolfegfaaGreatDoor
namespace Go.Proofs.YtpbkhogolfegfaaGreatDoor
open AI Go Go.RowKit LexS
namespace Mo
variable {mx:Int}
def apM{cx:Cx}{w:World}{s:AS}(h:St (G mx) cx w s):MJ w:=by
 refine⟨λi hi=>?_,λj v hj=>?_⟩;have hc:=h.Mq 3 Hd.aeg rfl;have he:Hd.aeg[i]?=some (.sc (.int .u8 (Rr i:Nat))):=by simp[Hd.aeg,hi]
 obtain⟨v,hv,hr⟩:=hc.get he;cases hr;have:=hv.2.2;rwa[Nat.zero_add] at this;have hc:=h.Mq 0 Hd.agf rfl;have hj':(Gm.map λy=>Value.string ⟨y.toArray⟩)[j]?=some v:=by simpa[Ib] using hj
 rw[List.getElem?_map] at hj';obtain⟨y,hy,rfl⟩:=Option.map_eq_some_iff.1 hj';have he:Hd.agf[j]?=some (Gk y):=by simp[Hd.agf,hy]
 obtain⟨u,hu,hr⟩:=hc.get he;unfold Gk at hr;cases hr;have:=hu.2.2;rwa[Nat.zero_add] at this
def U6{w w':World}(h:Below w.heap.size w w'):Ra w w' (λ_=>False):=⟨h.os,h.tape,h.output,h.size,λk hk _=>h.block k hk⟩
def uK(w:World)(e:TypeId)(s:ByteArray):Ra w (Lib.bytesWorld w e s) (λ_=>False) :=
 U6 (Lib.below_freeze ((Below.drew (Below.refl _ w)).alloc (Nat.le_refl _) _) (p:=⟨w.heap.size,_,Option.none⟩) (Nat.le_refl _) 1)
def OZ(x:Tok):Tk:=⟨x.1,⟨x.2.1.toArray⟩,x.2.2⟩
def agt(l:List Tok):(rows Iq (l.map OZ)).length=(J7 l).length:=by
 unfold J7
 induction l with
 | nil=>rfl
 | cons x l ih=>rw[List.map_cons,Gj,List.flatMap_cons,List.length_append,List.length_append,ih];rfl
def akt(cx:Cx)(w:World)(l:List Tok):CG cx w (rows Iq (l.map OZ)) (J7 l):=by
 unfold J7
 induction l with
 | nil=>exact .nil
 | cons x l ih =>
   rw[List.map_cons,Gj,List.flatMap_cons];exact CG.append (.cons (.sc rfl) (.cons (.sc rfl) (.cons (.sc rfl) .nil))) ih
def Kt(s:ByteArray):Option (List Tk×Int×Int):=some ((Ms s.data.toList).1.map OZ,(((Ms s.data.toList).2.1:Nat):Int),(((Ms s.data.toList).2.2:Nat):Int))
def MQ{s:ByteArray}{yR:List Tk×Int×Int}(h:Kt s=some yR):Pure P (G mx) 34 [.sc (.string s)] (.Dk [.sl .lost yR.1.length (rows Iq yR.1),.sc (.int .i64 yR.2.1),.sc (.int .i64 yR.2.2)]):=by
 cases h;intro s0 cx w vs hs ha;cases ha with
 | cons h1 tl =>
 cases tl;cases h1;refine(ae5 s w (apM hs)).mono ?_;rintro e w' ⟨u,rfl,OW,hb⟩;obtain⟨x,st⟩:=hs.same (U6 hb);refine⟨cx,x,st,_,rfl,?_⟩;show Rp cx w' (.Dk [.sl .lost ((Ms (L s)).1.map OZ).length (rows Iq ((Ms (L s)).1.map OZ)),.sc (.int .i64 (Ms (L s)).2.1),.sc (.int .i64 (Ms (L s)).2.2)]) _;refine .Dk (vs:=[u,.int .i64 (Ms (L s)).2.1,.int .i64 (Ms (L s)).2.2]) (.cons ?_ (.cons (.sc rfl) (.cons (.sc rfl) .nil)));have hl:=agt (Ms (L s)).1;have hc:=akt cx w' (Ms (L s)).1;rw[List.length_map];obtain⟨h1,⟨rfl,h2⟩ | ⟨g,cap,mK,rfl,hg,hw,hn,_,Oo,htk⟩⟩:=OW;have:(Ms (L s)).1=[]:=List.eq_nil_of_length_eq_zero h2;rw[this];exact .Jc trivial;refine .KM hn (A9.Ow hc (λi v hi=>⟨(Array.getElem?_eq_some_iff.1 hw).1,λGq=>?_,?_⟩)) trivial;have:g < w.heap.size:=hs.TD Gq;omega;rw[Nat.zero_add,cell_of_row w' g i mK _ _ hw];rw[<- htk,List.getElem?_take] at hi;split at hi;rwa[Array.getElem?_toList] at hi;cases hi
def Rk(s:ByteArray):Option (Int×Unit):=if s.data.toList.length<=18 then (Lib.atoi s.data.toList).map λn=>(n,()) else none
def pN{s:ByteArray}{yR:Int×Unit}(h:Rk s=some yR):Pure P (G mx) 173 [.sc (.string s)] (.Dk [.sc (.int .i64 yR.1),.sc .nilIface]):=by
 unfold Rk at h;split at h
 . rename_i hl
   cases hn:Lib.atoi s.data.toList with
   | none=>rw[hn] at h;cases h
   | some n =>
     rw[hn] at h;cases h;intro s0 cx w vs hs ha;cases ha with
     | cons h1 tl =>
     cases tl;cases h1;refine(Tryz.strconv_Atoi s n (by show s.data.size<=18;rw[<- Array.length_toList];exact hl) hn w).mono ?_;rintro e w' ⟨rfl,tt,rfl⟩;obtain⟨x,st⟩:=hs.same (uK w _ tt);exact⟨cx,x,st,_,rfl,.Dk (vs:=[.int .i64 n,.nilIface]) (.cons (.sc rfl) (.cons (.sc rfl) .nil))⟩
 cases h
def Jw(t o n:ByteArray)(k:Int):Option ByteArray:=if 1<=o.size/\t.size+Lib.countB t o*n.size<=4000 then some ⟨(Lib.replace t.data.toList o.data.toList n.data.toList k).toArray⟩ else none
def dM{t o n:ByteArray}{k:Int}{yR:ByteArray}(h:Jw t o n k=some yR):Pure P (G mx) 163 [.sc (.string t),.sc (.string o),.sc (.string n),.sc (.int .i64 k)] (.sc (.string yR)):=by
 unfold Jw at h;split at h
 . rename_i hl
   cases h;intro s0 cx w vs hs ha;cases ha with
   | cons a1 tl =>
   cases tl with
   | cons a2 tl =>
   cases tl with
   | cons a3 tl =>
   cases tl with
   | cons a4 tl =>
   cases tl;cases a1;cases a2;cases a3;cases a4
   have hm:w.cell? ⟨5,0,none⟩=some (.int .i64 mx):=by
     have hg:=hs.Mq 5 [Hd.int mx] rfl;obtain⟨v,hv,hr⟩:=hg.get (i:=0) rfl;unfold Hd.int at hr;cases hr;exact hv.2.2
   refine(Tryz.strings_Replace t o n k mx w (by omega) hm hl.1 (by omega)).mono ?_;rintro e w' ⟨rfl,hb⟩;obtain⟨x,st⟩:=hs.same (U6 hb);exact⟨cx,x,st,_,rfl,.sc rfl⟩
 cases h
def acV:Nd⊕Dg->Nd×Dg×Bool
 | .inl n=>(n,⟨0,0⟩,true)
 | .inr d=>(⟨0,ByteArray.empty,ByteArray.empty,0,0,0,0,⟨0,[]⟩,[],0⟩,d,false)
end Mo
end Go.Proofs.YtpbkhogolfegfaaGreatDoor

namespace AI
open Go
abbrev AV.zi(x:Int):AV:=.sc (.int .i64 x)
abbrev AV.zs(x:ByteArray):AV:=.sc (.string x)
abbrev AV.zb(x:Bool):AV:=.sc (.bool x)
abbrev bT:Value:=.bool true
abbrev bF:Value:=.bool false
def Em{α β:Type}{a b:α}{c d:β}{Q:Prop}(k:a=b->c=d->Q):some (a,c)=some (b,d)->Q:=λh=>by cases h;exact k rfl rfl
def rT{P:Program}{G:A6}{c:Code}{fr:List AV}{s:AS}{x:Value}{fn:Func}{m:Nat}(l:List (PC P G))(h:afI P fn (Sk P G 300 c [] (pHs l) fr s)=some (fF l,.sc x):=by kernel_rfl):W P G (XS P G) H0 c fr s (SG P fn m (λr _=>∃a,r=.ret a/\Fits 0 0 a (.sc x))):=rS (Ae 300 l) h
end AI
namespace Go.Proofs.YtpbkhogolfegfaaGreatDoor
open AI Go
namespace Mo
variable {mx:Int}
abbrev ndL(x:Nd)(r:List AV):List AV:=.zi x.kind::.zs x.name::.zs x.unit::.zi x.n::.zi x.fr::.zi x.to::.zi x.known::.zi x.CN.den::.sl .lost x.CN.ps.length (rows H7 x.CN.ps)::.sl .lost x.kids.length (Bd x.kids)::.zi x.AF::r
end Mo
end Go.Proofs.YtpbkhogolfegfaaGreatDoor
namespace AI
open Go
def BQ{α β γ δ:Type}{m:Option ((α⊕β)×γ)}{k:(α⊕β)×γ->Option δ}{r:δ}{X:Prop}(h1:∀a c,m=some (.inl a,c)->k (.inl a,c)=some r->X)(h2:∀b c,m=some (.inr b,c)->k (.inr b,c)=some r->X):m.bind k=some r->X:=λh=>by
 cases m with
 | none=>cases h
 | some p =>
   obtain⟨a | b,c⟩:=p;exact h1 a c rfl h;exact h2 b c rfl h
end AI
namespace Go.Proofs.YtpbkhogolfegfaaGreatDoor
open AI Go
namespace Mo
variable {mx:Int}
abbrev pC(p:Pr)(x:Int):List AV:=[.sl .lost p.Bq.length (rows Iq p.Bq),.zi x,.zi p.DC]
abbrev pZ(p:Pr):AS:=⟨[(0,.cells (QS p))],1,[],0⟩
abbrev pS(p:Pr)(x:Int):AS:=⟨[(0,.cells (pC p x))],1,[],0⟩
def pW{n m:Nat}(p:Pr)(x:Int):FO n m:=bw (.cells (pC p x)) (.cells (pC p x)) (.cells (.plain (BE (D4.KC p.Bq) (BE rfl (BE rfl rfl)))))
abbrev SA:List AV:=[.zi 0,.zs ByteArray.empty,.zs ByteArray.empty,.zi 0,.zi 0,.zi 0,.zi 0,.zi 0,.sl .full 0 [],.sl .full 0 [],.zi 0]
def lX{n m:Nat}:FO n m:=bw (.cells SA) (.cells SA) (.cells (.plain (BE rfl (BE rfl (BE rfl (BE rfl (BE rfl (BE rfl (BE rfl (BE rfl (BE (V2 rfl) (BE (V2 rfl) (BE rfl rfl)))))))))))))
abbrev eD:Dg->AV:=λdV=>.E7 45 (.agg (Po dV))
def gD{n m:Nat}(d:Dg):FP n m:=⟨eD d,eD d,.plain (Cj.CW d)⟩
abbrev eN:Nd->AV:=λyV=>.agg (CJ yV)
abbrev eT:Tk->AV:=λyV=>.agg (Iq yV)
abbrev eI:Int->AV:=λyV=>.zi yV
abbrev eJ:Int×Int->AV:=λyV=>.Dk [.zi yV.1,.zi yV.2]
abbrev eL:List Nd->AV:=λyV=>.sl .lost yV.length (Bd yV)
abbrev eP:Pt->AV:=λyV=>.agg (WU yV)
abbrev pR(mx:Int)(f:Nat)(al:List AV)(p:Pr)(r:CR)(x:Int):Prop:=Sound P (G mx) (.call f al (pZ p) r (pS p x))
section
variable {c:Code} {fr0:List AV} {s s0 s2:AS} {Q:AX->List AV->AS->Prop} {m:Nat} {v:AV} {ks:List KI}
def Hs(d:Dg)(p:Pr)(x:Int)(l:List (PC P (G mx)))(k:S1 (G mx) m s0 Q v s2)(h:afs s0.nx s0.nr m [v] (Y0 (n:=s0.nx) (m:=s0.nr) [gD d]) (mU (n:=s0.nx) (m:=s0.nr) [pW p x]) (Sk P (G mx) 300 c [] (pHs l) fr0 s)=some (fF l,[v],s2,eY (n:=s0.nx) (m:=s0.nr) [gD d],xH (n:=s0.nx) (m:=s0.nr) [pW p x]):=by kernel_rfl):W P (G mx) (XS P (G mx)) H0 c fr0 s Q:=BK Hd.Ab m [gD d] [pW p x] (Ae 300 l) h k
def qgB(d:Dg)(p:Pr)(x:Int)(l:List (PC P (G mx)))(k:S1 (G mx) m s0 Q v s2)(h:afs s0.nx s0.nr m [v] (Y0 (n:=s0.nx) (m:=s0.nr) [gD d]) (mU (n:=s0.nx) (m:=s0.nr) [pW p x]) (Q3 (Sk P (G mx) 300) ks .normal (pHs l) fr0 s)=some (fF l,[v],s2,eY (n:=s0.nx) (m:=s0.nr) [gD d],xH (n:=s0.nx) (m:=s0.nr) [pW p x]):=by kernel_rfl):D8 P (G mx) ks Q .normal fr0 s:=BK Hd.Ab m [gD d] [pW p x] (K9 300 l) h k
end
section
variable {f:Nat} {al:List AV} {p:Pr} {x:Int}
def quG{r:CR}(hr:∀ρ σ,RnR 1 0 ρ σ r r)(hS:pR mx f (.ptr 0 0::al) p r x)(u0:Nat)(ha:BA al=true):Cd.ok P (G mx) (.ET f (.ptr u0 0::al) r [(u0,.cells (QS p))] [] [(u0,.cells (pC p x))] []) :=
 Hf (M:=[.cells (QS p)]) (M2:=[.cells (pC p x)]) (T:=[]) (T2:=[]) (k:=1) (j:=0) Hd.Ab _ _ _ _ hS rfl rfl rfl rfl rfl (List.nodup_cons.2 ⟨by simp,List.nodup_nil⟩) List.nodup_nil rfl rfl (.cons (.cells (.pl (CM.pl p))) .nil) (.cons (.cells (.pl (BE (D4.KC p.Bq) (BE rfl (BE rfl rfl))))) .nil) (.cons (.ptr (by decide)) (.pl ha)) (hr _ _) (λe he=>by simp only[List.mem_singleton] at he;subst he;exact(.arg (.here .ptr)))
def G6{y:Nd⊕Dg}(hS:pR mx f (.ptr 0 0::al) p (II eN eD y) x)(u0:Nat)(ha:BA al=true:=by kernel_rfl):Cd.ok P (G mx) (.ET f (.ptr u0 0::al) (II eN eD y) [(u0,.cells (QS p))] [] [(u0,.cells (pC p x))] []):=quG (λ_ _=>LP (enc:=eN) (encd:=eD) (λyV=>AB.CW yV) (λdV=>Cj.CW dV) y) hS u0 ha
def Hw{y:Tk⊕Dg}(hS:pR mx f (.ptr 0 0::al) p (II eT eD y) x)(u0:Nat)(ha:BA al=true:=by kernel_rfl):Cd.ok P (G mx) (.ET f (.ptr u0 0::al) (II eT eD y) [(u0,.cells (QS p))] [] [(u0,.cells (pC p x))] []):=quG (λ_ _=>LP (enc:=eT) (encd:=eD) (λyV=>D4.CW yV) (λdV=>Cj.CW dV) y) hS u0 ha
def Z6{y:Int⊕Dg}(hS:pR mx f (.ptr 0 0::al) p (II eI eD y) x)(u0:Nat)(ha:BA al=true:=by kernel_rfl):Cd.ok P (G mx) (.ET f (.ptr u0 0::al) (II eI eD y) [(u0,.cells (QS p))] [] [(u0,.cells (pC p x))] []):=quG (λ_ _=>LP (enc:=eI) (encd:=eD) (λyV=>rfl) (λdV=>Cj.CW dV) y) hS u0 ha
def ME{y:(Int×Int)⊕Dg}(hS:pR mx f (.ptr 0 0::al) p (II eJ eD y) x)(u0:Nat)(ha:BA al=true:=by kernel_rfl):Cd.ok P (G mx) (.ET f (.ptr u0 0::al) (II eJ eD y) [(u0,.cells (QS p))] [] [(u0,.cells (pC p x))] []):=quG (λ_ _=>LP (enc:=eJ) (encd:=eD) (λyV=>rfl) (λdV=>Cj.CW dV) y) hS u0 ha
def NS{a:AV}(hS:Sound P (G mx) (.call f (.ptr 0 0::al) (pZ p) (.ret a) (pZ p)))(u0:Nat)(ha:BA al=true:=by kernel_rfl)(hp:plain a=true:=by kernel_rfl):Cd.ok P (G mx) (.ET f (.ptr u0 0::al) (.ret a) [(u0,.cells (QS p))] [] [(u0,.cells (QS p))] []):=quG (x:=p.JD) (r:=.ret a) (λ_ _=>.pl hp) hS u0 ha
end
end Mo
end Go.Proofs.YtpbkhogolfegfaaGreatDoor
namespace Go.Proofs.YtpbkhogolfegfaaGreatDoor
open AI Go
namespace Mo
set_option maxRecDepth 100000
set_option maxHeartbeats 4000000
variable {mx:Int}
def B49:Code:=Bj Tryz.f49
def b49:Tryz.f49.body=some B49:=by kernel_rfl
def L5(p:Pr)(err:Int)(at_:Int):Option (Unit⊕Dg):=some (Sum.inr (⟨err,at_⟩:Dg):(Unit⊕Dg))
def As{p:Pr}{err:Int}{at_:Int}{yR:(Unit⊕Dg)}(hS:Sound P (G mx) (.call 49 [.ptr 0 0,.zi err,.zi at_] (pZ p) (II (λyV=>.Dk []) eD yR) (pZ p)))(u0:Nat)(Pq:([u0]:List Nat).Nodup:=by decide)(Pu:([]:List Nat).Nodup:=by decide):Cd.ok P (G mx) (.ET 49 [.ptr u0 0,.zi err,.zi at_] (II (λyV=>.Dk []) eD yR) [(u0,.cells (QS p))] [] [(u0,.cells (QS p))] []) :=
 Hf (M:=[.cells (QS p)]) (M2:=[.cells (QS p)]) (T:=[]) (T2:=[]) (k:=1) (j:=0) Hd.Ab _ _ _ _ hS rfl rfl rfl rfl rfl Pq Pu rfl rfl (.cons (.cells (.pl (CM.pl p))) .nil) (.cons (.cells (.pl (CM.pl p))) .nil) (.cons (.ptr (by decide)) (.cons (.pl rfl) (.cons (.pl rfl) .nil))) (LP (enc:=λyV=>.Dk []) (encd:=λdV=>.E7 45 (.agg (Po dV))) (λyV=>rfl) (λdV=>(Cj.CW dV)) yR) (λe he=>by simp only[List.mem_singleton] at he;subst he;exact(.arg (.here .ptr)))
def Am{p:Pr}{err:Int}{at_:Int}{yR:(Unit⊕Dg)}(h:L5  p err at_=some yR):Sound P (G mx) (.call 49 [.ptr 0 0,.zi err,.zi at_] (pZ p) (II (λyV=>.Dk []) eD yR) (pZ p)):=by
 unfold L5 at h;refine BX Hd.mixed (Ay Tryz.func49 b49 ?_);revert h;rintro⟨⟩;exact BK Hd.Ab _ [⟨.E7 45 (.agg [.zi err,.zi at_]),.E7 45 (.agg [.zi err,.zi at_]),(.plain (Cj.CW (⟨err,at_⟩:Dg)))⟩] [bp (CM.pl p)] (Ae 300 [ppn]) (by kernel_rfl) .body
def B69:Code:=Bj Tryz.f69
def b69:Tryz.f69.body=some B69:=by kernel_rfl
def AD(p:Pr):Option (Tk⊕Dg):=cond (Th ((p.Bq.length:Nat):Int) p.JD) (some (Sum.inr (⟨72,p.DC⟩:Dg):(Tk⊕Dg))) ((Mp p.Bq p.JD).bind λx1=>some (Sum.inl x1:(Tk⊕Dg)))
def Av{p:Pr}{yR:(Tk⊕Dg)}(hS:Sound P (G mx) (.call 69 [.ptr 0 0] (pZ p) (II eT eD yR) (pZ p)))(u0:Nat)(Pq:([u0]:List Nat).Nodup:=by decide)(Pu:([]:List Nat).Nodup:=by decide):Cd.ok P (G mx) (.ET 69 [.ptr u0 0] (II eT eD yR) [(u0,.cells (QS p))] [] [(u0,.cells (QS p))] []) :=
 Hf (M:=[.cells (QS p)]) (M2:=[.cells (QS p)]) (T:=[]) (T2:=[]) (k:=1) (j:=0) Hd.Ab _ _ _ _ hS rfl rfl rfl rfl rfl Pq Pu rfl rfl (.cons (.cells (.pl (CM.pl p))) .nil) (.cons (.cells (.pl (CM.pl p))) .nil) (.cons (.ptr (by decide)) .nil) (LP (enc:=λyV=>.agg (Iq yV)) (encd:=λdV=>.E7 45 (.agg (Po dV))) (λyV=>(D4.CW yV)) (λdV=>(Cj.CW dV)) yR) (λe he=>by simp only[List.mem_singleton] at he;subst he;exact(.arg (.here .ptr)))
def Ao{p:Pr}{yR:(Tk⊕Dg)}(h:AD  p=some yR):Sound P (G mx) (.call 69 [.ptr 0 0] (pZ p) (II eT eD yR) (pZ p)):=by
 unfold AD at h;refine BX Hd.mixed (Ay Tryz.func69 b69 ?_);revert h;refine Ak (λBp=>?_) λBp=>?_;rintro⟨⟩;exact BK Hd.Ab _ [⟨.E7 45 (.agg [.zi 72,.zi p.DC]),.E7 45 (.agg [.zi 72,.zi p.DC]),(.plain (Cj.CW (⟨72,p.DC⟩:Dg)))⟩] [bp (CM.pl p)] (Ae 300 [pb Bp,An (As (Am (p:=p) (err:=72) (at_:=p.DC) rfl) 0)]) (by kernel_rfl) .body;refine AA λx1 vD=>?_;rintro⟨⟩;exact Au Hd.Ab _ _ [⟨.agg (Iq x1),.agg (Iq x1),(.plain (D4.CW x1))⟩] [bp (CM.pl p)] (Ae 300 [pb Bp,lW,IP (abe .lost vD)]) (by kernel_rfl) .body
def am4:Code:=Bj Tryz.f143
def anJ:Tryz.f143.body=some am4:=by kernel_rfl
def HY(word:ByteArray):Option Bool:=cond (BZ word.data.toList SK.data.toList) (some true) (cond (BZ word.data.toList Ov.data.toList) (some true) (cond (BZ word.data.toList Hx.data.toList) (some true) (cond (BZ word.data.toList aap.data.toList) (some true) (cond (BZ word.data.toList r9.data.toList) (some true) (cond (BZ word.data.toList qG.data.toList) (some true) (cond (BZ word.data.toList toS.data.toList) (some true) (cond (BZ word.data.toList Vi.data.toList) (some true) (cond (BZ word.data.toList aZ.data.toList) (some true) (cond (BZ word.data.toList Sa.data.toList) (some true) (cond (BZ word.data.toList P4.data.toList) (some true) (cond (BZ word.data.toList GO.data.toList) (some true) (cond (BZ word.data.toList Ev.data.toList) (some true) (cond (BZ word.data.toList Jp.data.toList) (some true) (cond (BZ word.data.toList afa.data.toList) (some true) (cond (BZ word.data.toList SI.data.toList) (some true) (cond (BZ word.data.toList LG.data.toList) (some true) (cond (BZ word.data.toList OS.data.toList) (some true) (cond (BZ word.data.toList SQ.data.toList) (some true) (cond (BZ word.data.toList jD.data.toList) (some true) (cond (BZ word.data.toList Pj.data.toList) (some true) (cond (BZ word.data.toList Ur.data.toList) (some true) (cond (BZ word.data.toList fS.data.toList) (some true) (cond (BZ word.data.toList YH.data.toList) (some true) (cond (BZ word.data.toList Ta.data.toList) (some true) (cond (BZ word.data.toList bM.data.toList) (some true) (cond (BZ word.data.toList Ld.data.toList) (some true) (cond (BZ word.data.toList bW.data.toList) (some true) (cond (BZ word.data.toList Qh.data.toList) (some true) (cond (BZ word.data.toList UZ.data.toList) (some true) (cond (BZ word.data.toList Kn.data.toList) (some true) (cond (BZ word.data.toList FF.data.toList) (some true) (cond (BZ word.data.toList Qz.data.toList) (some true) (some false)))))))))))))))))))))))))))))))))
def I3{word:ByteArray}{yR:Bool}(h:HY  word=some yR):Pure P (G mx) 143 [.zs word] (.zb yR):=by
 unfold HY at h;refine D7 Hd.mixed Hd.Ab (Ay Tryz.func143 anJ ?_) (BE rfl rfl) rfl;revert h;refine Ak (λBp=>?_) λBp=>?_;rintro⟨⟩;exact rT [pb Bp];let o1:List (PC P (G mx)):=[pb Bp];refine Ak (λCF=>?_) λCF=>?_;rintro⟨⟩;exact rT (o1++[pb CF]);let o2:List (PC P (G mx)):=o1++[pb CF];refine Ak (λD1=>?_) λD1=>?_;rintro⟨⟩;exact rT (o2++[pb D1]);let o3:List (PC P (G mx)):=o2++[pb D1];refine Ak (λF9=>?_) λF9=>?_;rintro⟨⟩;exact rT (o3++[pb F9]);let o4:List (PC P (G mx)):=o3++[pb F9];refine Ak (λIZ=>?_) λIZ=>?_;rintro⟨⟩;exact rT (o4++[pb IZ]);let o5:List (PC P (G mx)):=o4++[pb IZ];refine Ak (λJm=>?_) λJm=>?_;rintro⟨⟩;exact rT (o5++[pb Jm]);let o6:List (PC P (G mx)):=o5++[pb Jm];refine Ak (λJU=>?_) λJU=>?_;rintro⟨⟩;exact rT (o6++[pb JU]);let o7:List (PC P (G mx)):=o6++[pb JU];refine Ak (λLt=>?_) λLt=>?_;rintro⟨⟩;exact rT (o7++[pb Lt]);let o8:List (PC P (G mx)):=o7++[pb Lt];refine Ak (λKl=>?_) λKl=>?_;rintro⟨⟩;exact rT (o8++[pb Kl]);let o9:List (PC P (G mx)):=o8++[pb Kl];refine Ak (λHg=>?_) λHg=>?_;rintro⟨⟩;exact rT (o9++[pb Hg]);let rR:List (PC P (G mx)):=o9++[pb Hg];refine Ak (λJT=>?_) λJT=>?_;rintro⟨⟩;exact rT (rR++[pb JT]);let o11:List (PC P (G mx)):=rR++[pb JT];refine Ak (λLs=>?_) λLs=>?_;rintro⟨⟩;exact rT (o11++[pb Ls]);let o12:List (PC P (G mx)):=o11++[pb Ls];refine Ak (λNs=>?_) λNs=>?_;rintro⟨⟩;exact rT (o12++[pb Ns]);let oA:List (PC P (G mx)):=o12++[pb Ns];refine Ak (λNt=>?_) λNt=>?_;rintro⟨⟩;exact rT (oA++[pb Nt]);let xQ:List (PC P (G mx)):=oA++[pb Nt];refine Ak (λPp=>?_) λPp=>?_;rintro⟨⟩;exact rT (xQ++[pb Pp]);let xR:List (PC P (G mx)):=xQ++[pb Pp];refine Ak (λTc=>?_) λTc=>?_;rintro⟨⟩;exact rT (xR++[pb Tc]);let vR:List (PC P (G mx)):=xR++[pb Tc];refine Ak (λUh=>?_) λUh=>?_;rintro⟨⟩;exact rT (vR++[pb Uh]);let o17:List (PC P (G mx)):=vR++[pb Uh];refine Ak (λWg=>?_) λWg=>?_;rintro⟨⟩;exact rT (o17++[pb Wg]);let o18:List (PC P (G mx)):=o17++[pb Wg];refine Ak (λmX=>?_) λmX=>?_;rintro⟨⟩;exact rT (o18++[pb mX]);let o19:List (PC P (G mx)):=o18++[pb mX];refine Ak (λmY=>?_) λmY=>?_;rintro⟨⟩;exact rT (o19++[pb mY]);let o20:List (PC P (G mx)):=o19++[pb mY];refine Ak (λmZ=>?_) λmZ=>?_;rintro⟨⟩;exact rT (o20++[pb mZ]);let o21:List (PC P (G mx)):=o20++[pb mZ];refine Ak (λnA=>?_) λnA=>?_;rintro⟨⟩;exact rT (o21++[pb nA]);let o22:List (PC P (G mx)):=o21++[pb nA];refine Ak (λnB=>?_) λnB=>?_;rintro⟨⟩;exact rT (o22++[pb nB]);let o23:List (PC P (G mx)):=o22++[pb nB];refine Ak (λaiT=>?_) λaiT=>?_;rintro⟨⟩;exact rT (o23++[pb aiT]);let o24:List (PC P (G mx)):=o23++[pb aiT];refine Ak (λaeG=>?_) λaeG=>?_;rintro⟨⟩;exact rT (o24++[pb aeG]);refine Ak (λaiU=>?_) λaiU=>?_;rintro⟨⟩;exact rT (o24++[pb aeG,pb aiU]);let o25:List (PC P (G mx)):=o24++[pb aeG,pb aiU];refine Ak (λaeH=>?_) λaeH=>?_;rintro⟨⟩;exact rT (o25++[pb aeH]);refine Ak (λaiV=>?_) λaiV=>?_;rintro⟨⟩;exact rT (o25++[pb aeH,pb aiV]);let o26:List (PC P (G mx)):=o25++[pb aeH,pb aiV];refine Ak (λnC=>?_) λnC=>?_;rintro⟨⟩;exact rT (o26++[pb nC]);refine Ak (λuZ=>?_) λuZ=>?_;rintro⟨⟩;exact rT (o26++[pb nC,pb uZ]);refine Ak (λaaN=>?_) λaaN=>?_;rintro⟨⟩;exact rT (o26++[pb nC,pb uZ,pb aaN]);refine Ak (λaeI=>?_) λaeI=>?_;rintro⟨⟩;exact rT (o26++[pb nC,pb uZ,pb aaN,pb aeI]);refine Ak (λaiW=>?_) λaiW=>?_;rintro⟨⟩;exact rT (o26++[pb nC,pb uZ,pb aaN,pb aeI,pb aiW]);rintro⟨⟩;exact rT (o26++[pb nC,pb uZ,pb aaN,pb aeI,pb aiW])
def amU:Code:=Bj Tryz.f119
def anw:Tryz.f119.body=some amU:=by kernel_rfl
def Cu(token:Tk):Option Bool:=cond (DZ token.kind 1) ((HY token.text).bind λy1=>cond y1 (some false) (some true)) (some false)
def NI{token:Tk}{yR:Bool}(h:Cu  token=some yR):Pure P (G mx) 119 [.agg (Iq token)] (.zb yR):=by
 unfold Cu at h;refine D7 Hd.mixed Hd.Ab (Ay Tryz.func119 anw ?_) (BE (D4.CW token) rfl) rfl;revert h;refine Ak (λBp=>?_) λBp=>?_;refine AA λy1 Ci=>?_;refine Ak (λhv=>?_) λhv=>?_;subst hv;rintro⟨⟩;exact rT [pb Bp,Be (I3 Ci)];subst hv;rintro⟨⟩;exact rT [pb Bp,Be (I3 Ci)];rintro⟨⟩;exact rT [pb Bp]
def am7:Code:=Bj Tryz.f154
def anM:Tryz.f154.body=some am7:=by kernel_rfl
def Dr(token:Tk)(a1:ByteArray):Option Bool:=cond (BZ token.text.data.toList a1.data.toList) (some true) (some false)
def O4{token:Tk}{a1:ByteArray}{yR:Bool}(hS:Sound P (G mx) (.call 154 [.agg (Iq token),.ptr 0 0] ⟨[(0,.cells [.zs a1])],1,[],0⟩ (.ret (.zb yR)) ⟨[(0,.cells [.zs a1])],1,[],0⟩))(u0:Nat)(Pq:([u0]:List Nat).Nodup:=by decide)(Pu:([]:List Nat).Nodup:=by decide):Cd.ok P (G mx) (.ET 154 [.agg (Iq token),.ptr u0 0] (.ret (.zb yR)) [(u0,.cells [.zs a1])] [] [(u0,.cells [.zs a1])] []) :=
 Hf (M:=[.cells [.zs a1]]) (M2:=[.cells [.zs a1]]) (T:=[]) (T2:=[]) (k:=1) (j:=0) Hd.Ab _ _ _ _ hS rfl rfl rfl rfl rfl Pq Pu rfl rfl (.cons (.cells (.pl (BE rfl rfl))) .nil) (.cons (.cells (.pl (BE rfl rfl))) .nil) (.cons (.pl (D4.CW token)) (.cons (.ptr (by decide)) .nil)) (.pl rfl) (λe he=>by simp only[List.mem_singleton] at he;subst he;exact(.arg (.there (.here .ptr))))
def MW{token:Tk}{a1:ByteArray}{yR:Bool}(h:Dr  token a1=some yR):Sound P (G mx) (.call 154 [.agg (Iq token),.ptr 0 0] ⟨[(0,.cells [.zs a1])],1,[],0⟩ (.ret (.zb yR)) ⟨[(0,.cells [.zs a1])],1,[],0⟩):=by
 unfold Dr at h;refine BX Hd.mixed (Ay Tryz.func154 anM ?_);revert h;refine Ak (λBp=>?_) λBp=>?_;rintro⟨⟩;exact Au Hd.Ab _ _ [] [none] (Ae 300 [pb Bp]) (by kernel_rfl) .body;rintro⟨⟩;exact Au Hd.Ab _ _ [] [none] (Ae 300 [pb Bp]) (by kernel_rfl) .body
def amT:Code:=Bj Tryz.f118
def bO:Tryz.f118.body=some amT:=by kernel_rfl
def Ga(p:Pr)(fits:ByteArray):Option ((Tk⊕Dg)×Int):=(AD p).bind λy1=>Sum.elim (λ(CI:Tk)=>(Dr CI fits).bind λy2=>cond y2 (some ((Sum.inl CI:(Tk⊕Dg)),(BS p.JD 1))) (some ((Sum.inr (⟨71,CI.AF⟩:Dg):(Tk⊕Dg)),p.JD))) (λ(Lj:Dg)=>some ((Sum.inr Lj:(Tk⊕Dg)),p.JD)) y1
def K6{p:Pr}{fits:ByteArray}{yR:(Tk⊕Dg)}{Ah:Int}(hS:Sound P (G mx) (.call 118 [.ptr 0 0,.fn (.func 154) [] [.ptr 1 0]] ⟨[(1,.cells [.zs fits]),(0,.cells (QS p))],2,[],0⟩ (II eT eD yR) ⟨[(1,.cells [.zs fits]),(0,.cells (pC p Ah))],2,[],0⟩))(u0 u1:Nat)(Pq:([u0,u1]:List Nat).Nodup:=by decide)(Pu:([]:List Nat).Nodup:=by decide):Cd.ok P (G mx) (.ET 118 [.ptr u0 0,.fn (.func 154) [] [.ptr u1 0]] (II eT eD yR) [(u0,.cells (QS p)),(u1,.cells [.zs fits])] [] [(u0,.cells (pC p Ah)),(u1,.cells [.zs fits])] []) :=
 Hf (M:=[.cells (QS p),.cells [.zs fits]]) (M2:=[.cells (pC p Ah),.cells [.zs fits]]) (T:=[]) (T2:=[]) (k:=2) (j:=0) Hd.Ab _ _ _ _ hS rfl rfl rfl rfl rfl Pq Pu rfl rfl (.cons (.cells (.pl (CM.pl p))) (.cons (.cells (.pl (BE rfl rfl))) .nil)) (.cons (.cells (.pl (BE (D4.KC p.Bq) (BE rfl (BE rfl rfl))))) (.cons (.cells (.pl (BE rfl rfl))) .nil)) (.cons (.ptr (by decide)) (.cons (.fn (.pl rfl) (.cons (.ptr (by decide)) .nil)) .nil)) (LP (enc:=λyV=>.agg (Iq yV)) (encd:=λdV=>.E7 45 (.agg (Po dV))) (λyV=>(D4.CW yV)) (λdV=>(Cj.CW dV)) yR) (by
   intro e he;simp only[List.mem_cons,List.not_mem_nil,or_false] at he;rcases he with rfl | rfl
   exact(.arg (.here .ptr));exact(.arg (.there (.here (.fn2 (.here .ptr)))))
   )
def JQ{p:Pr}{fits:ByteArray}{yR:(Tk⊕Dg)}{Ah:Int}(h:Ga  p fits=some (yR,Ah)):Sound P (G mx) (.call 118 [.ptr 0 0,.fn (.func 154) [] [.ptr 1 0]] ⟨[(1,.cells [.zs fits]),(0,.cells (QS p))],2,[],0⟩ (II eT eD yR) ⟨[(1,.cells [.zs fits]),(0,.cells (pC p Ah))],2,[],0⟩):=by
 unfold Ga at h;refine BX Hd.mixed (Ay Tryz.func118 bO ?_);revert h;refine AA λy1 Ci=>?_;refine Sy (λCI Lq=>?_) λLj Lq=>?_;subst Lq;refine AA λy2 Ep=>?_;let o1:List (PC P (G mx)):=[Af (Av (Ao Ci) 0),Af (O4 (MW Ep) 1)];refine Ak (λhv=>?_) λhv=>?_;subst hv;rintro⟨⟩;exact Au Hd.Ab _ _ [⟨.agg (Iq CI),.agg (Iq CI),(.plain (D4.CW CI))⟩] [none,pW p (BS p.JD 1)] (Ae 300 (o1++[pk])) (by kernel_rfl) .body;subst hv;rintro⟨⟩;exact BK Hd.Ab _ [⟨.E7 45 (.agg [.zi 71,.zi CI.AF]),.E7 45 (.agg [.zi 71,.zi CI.AF]),(.plain (Cj.CW (⟨71,CI.AF⟩:Dg)))⟩] [none,bp (CM.pl p)] (Ae 300 (o1++[An (As (Am (p:=p) (err:=71) (at_:=CI.AF) rfl) 0)])) (by kernel_rfl) .body;subst Lq;rintro⟨⟩;exact BK Hd.Ab _ [gD Lj] [none,bp (CM.pl p)] (Ae 300 [An (Av (Ao Ci) 0)]) (by kernel_rfl) .body
def amV:Code:=Bj Tryz.f120
def anx:Tryz.f120.body=some amV:=by kernel_rfl
def Aj(p:Pr)(text:ByteArray):Option ((Tk⊕Dg)×Int):=(Ga p text).bind λ(Ei,Bh)=>Sum.elim (λ(Aw:Tk)=>some ((Sum.inl Aw:(Tk⊕Dg)),Bh)) (λ(CQ:Dg)=>some ((Sum.inr CQ:(Tk⊕Dg)),Bh)) Ei
def Aa{p:Pr}{text:ByteArray}{yR:(Tk⊕Dg)}{Ah:Int}(h:Aj  p text=some (yR,Ah)):pR mx 120 [.ptr 0 0,.zs text] p (II eT eD yR) Ah:=by
 unfold Aj at h;refine BX Hd.mixed (Ay Tryz.func120 anx ?_);revert h;refine BQ (λAw Bh Ci=>?_) λCQ Bh Ci=>?_;refine Em ?_;rintro rfl rfl;exact Au Hd.Ab _ _ [⟨.agg (Iq Aw),.agg (Iq Aw),(.plain (D4.CW Aw))⟩] [pW p Bh] (Ae 300 [Af (K6 (JQ Ci) 0 1)]) (by kernel_rfl) .body;refine Em ?_;rintro rfl rfl;exact Hs CQ p Bh [An (K6 (JQ Ci) 0 1)] .body
def amW:Code:=Bj Tryz.f121
def anz:Tryz.f121.body=some amW:=by kernel_rfl
def EX(token:Tk):Option Bool:=cond (BZ token.text.data.toList GO.data.toList) (some true) (cond (BZ token.text.data.toList Ev.data.toList) (some true) (cond (BZ token.text.data.toList Jp.data.toList) (some true) (cond (DZ token.kind 2) (some true) (some false))))
def To{token:Tk}{yR:Bool}(h:EX  token=some yR):Pure P (G mx) 121 [.agg (Iq token)] (.zb yR):=by
 unfold EX at h;refine D7 Hd.mixed Hd.Ab (Ay Tryz.func121 anz ?_) (BE (D4.CW token) rfl) rfl;revert h;refine Ak (λBp=>?_) λBp=>?_;rintro⟨⟩;exact rT [pb Bp];refine Ak (λCF=>?_) λCF=>?_;rintro⟨⟩;exact rT [pb Bp,pb CF];refine Ak (λD1=>?_) λD1=>?_;rintro⟨⟩;exact rT [pb Bp,pb CF,pb D1];refine Ak (λF9=>?_) λF9=>?_;rintro⟨⟩;exact rT [pb Bp,pb CF,pb D1,pb F9];rintro⟨⟩;exact rT [pb Bp,pb CF,pb D1,pb F9]
def aid:Code:=Bj Tryz.f122
def anA:Tryz.f122.body=some aid:=by kernel_rfl
def El(word:ByteArray):Option Int:=cond (BZ SI.data.toList word.data.toList) (some 1) (cond (BZ LG.data.toList word.data.toList) (some 2) (cond (BZ OS.data.toList word.data.toList) (some 3) (cond (BZ SQ.data.toList word.data.toList) (some 4) (some 0))))
def Kp{word:ByteArray}{yR:Int}(h:El  word=some yR):Pure P (G mx) 122 [.zs word] (.zi yR):=by
 unfold El at h;refine D7 Hd.mixed Hd.Ab (Ay Tryz.func122 anA ?_) (BE rfl rfl) rfl;revert h;refine Ds (IJ (fr2:=fr 19 [(0,.zs word),(5,.agg [.zs ByteArray.empty,.zs SI,.zs LG,.zs OS,.zs SQ]),(6,.zi 0)] [] []) (s2:=⟨[],0,[],0⟩) [] 0 (sb aid 52) [.code (sb aid 7)] (Ae 300 []) (by kernel_rfl)) ?_;refine Ds (Ed (fr2:=fr 19 [(0,.zs word),(5,.agg [.zs ByteArray.empty,.zs SI,.zs LG,.zs OS,.zs SQ]),(6,.zi 1),(7,.zb true),(11,.zb false),(12,.zb false),(16,.zb false)] [] []) (s2:=⟨[],0,[],0⟩) [] (Ae 300 [pk,pk,pk,pk]) (by kernel_rfl)) ?_;refine Ak (λBp=>?_) λBp=>?_;rintro⟨⟩;exact Bc _ _ (Ae 300 [pk,pk,pk,pb Bp]) (by kernel_rfl) (.GJ (.outer .body)) .sc;refine Ds (Ed (fr2:=fr 19 [(0,.zs word),(5,.agg [.zs ByteArray.empty,.zs SI,.zs LG,.zs OS,.zs SQ]),(6,.zi 2),(7,.zb true),(11,.zb true),(12,.zb true),(15,.zb false),(16,.zb false)] [] []) (s2:=⟨[],0,[],0⟩) [] (Ae 300 [pk,pk,pk,pb Bp,pk]) (by kernel_rfl)) ?_;refine Ak (λCF=>?_) λCF=>?_;rintro⟨⟩;exact Bc _ _ (Ae 300 [pk,pk,pk,pb CF]) (by kernel_rfl) (.GJ (.outer .body)) .sc;refine Ds (Ed (fr2:=fr 19 [(0,.zs word),(5,.agg [.zs ByteArray.empty,.zs SI,.zs LG,.zs OS,.zs SQ]),(6,.zi 3),(7,.zb true),(11,.zb true),(12,.zb true),(15,.zb false),(16,.zb false)] [] []) (s2:=⟨[],0,[],0⟩) [] (Ae 300 [pk,pk,pk,pb CF,pk]) (by kernel_rfl)) ?_;refine Ak (λD1=>?_) λD1=>?_;rintro⟨⟩;exact Bc _ _ (Ae 300 [pk,pk,pk,pb D1]) (by kernel_rfl) (.GJ (.outer .body)) .sc;refine Ds (Ed (fr2:=fr 19 [(0,.zs word),(5,.agg [.zs ByteArray.empty,.zs SI,.zs LG,.zs OS,.zs SQ]),(6,.zi 4),(7,.zb true),(11,.zb true),(12,.zb true),(15,.zb false),(16,.zb false)] [] []) (s2:=⟨[],0,[],0⟩) [] (Ae 300 [pk,pk,pk,pb D1,pk]) (by kernel_rfl)) ?_;refine Ak (λF9=>?_) λF9=>?_;rintro⟨⟩;exact Bc _ _ (Ae 300 [pk,pk,pk,pb F9]) (by kernel_rfl) (.GJ (.outer .body)) .sc;refine Ds (Ed (fr2:=fr 19 [(0,.zs word),(5,.agg [.zs ByteArray.empty,.zs SI,.zs LG,.zs OS,.zs SQ]),(6,.zi 5),(7,.zb true),(11,.zb true),(12,.zb true),(15,.zb false),(16,.zb false)] [] []) (s2:=⟨[],0,[],0⟩) [] (Ae 300 [pk,pk,pk,pb F9,pk]) (by kernel_rfl)) ?_;refine cO (Fq (id:=0) (fr2:=fr 19 [(7,.zb false),(11,.zb true),(12,.zb true),(15,.zb false),(16,.zb false)] [] []) (s2:=⟨[],0,[],0⟩) (Ae 300 [pk]) (by kernel_rfl)) ?_;rintro⟨⟩;exact Bc _ _ (dU 300 []) (by kernel_rfl) .body .sc
def amX:Code:=Bj Tryz.f123
def anB:Tryz.f123.body=some amX:=by kernel_rfl
def BT(token:Tk):Option Bool:=(El token.text).bind λy1=>cond (EQ 0 y1) (some true) (some false)
def K5{token:Tk}{yR:Bool}(h:BT  token=some yR):Pure P (G mx) 123 [.agg (Iq token)] (.zb yR):=by
 unfold BT at h;refine D7 Hd.mixed Hd.Ab (Ay Tryz.func123 anB ?_) (BE (D4.CW token) rfl) rfl;revert h;refine AA λy1 Ci=>?_;refine Ak (λBp=>?_) λBp=>?_;rintro⟨⟩;exact rT [Be (Kp Ci),pb Bp];rintro⟨⟩;exact rT [Be (Kp Ci),pb Bp]
def Dv(p:Pr):Option ((Tk⊕Dg)×Int):=(AD p).bind λy1=>Sum.elim (λ(CI:Tk)=>(Cu CI).bind λy2=>cond y2 (some ((Sum.inl CI:(Tk⊕Dg)),(BS p.JD 1))) (some ((Sum.inr (⟨71,CI.AF⟩:Dg):(Tk⊕Dg)),p.JD))) (λ(Lj:Dg)=>some ((Sum.inr Lj:(Tk⊕Dg)),p.JD)) y1
def DW{p:Pr}{yR:(Tk⊕Dg)}{Ah:Int}(h:Dv  p=some (yR,Ah)):pR mx 118 [.ptr 0 0,.fn (.func 119) [] []] p (II eT eD yR) Ah:=by
 unfold Dv at h;refine BX Hd.mixed (Ay Tryz.func118 bO ?_);revert h;refine AA λy1 Ci=>?_;refine Sy (λCI Lq=>?_) λLj Lq=>?_;subst Lq;refine AA λy2 Ep=>?_;let o1:List (PC P (G mx)):=[Af (Av (Ao Ci) 0),Be (NI Ep)];refine Ak (λhv=>?_) λhv=>?_;subst hv;rintro⟨⟩;exact Au Hd.Ab _ _ [⟨.agg (Iq CI),.agg (Iq CI),(.plain (D4.CW CI))⟩] [pW p (BS p.JD 1)] (Ae 300 (o1++[pk])) (by kernel_rfl) .body;subst hv;rintro⟨⟩;exact BK Hd.Ab _ [⟨.E7 45 (.agg [.zi 71,.zi CI.AF]),.E7 45 (.agg [.zi 71,.zi CI.AF]),(.plain (Cj.CW (⟨71,CI.AF⟩:Dg)))⟩] [bp (CM.pl p)] (Ae 300 (o1++[An (As (Am (p:=p) (err:=71) (at_:=CI.AF) rfl) 0)])) (by kernel_rfl) .body;subst Lq;rintro⟨⟩;exact BK Hd.Ab _ [gD Lj] [bp (CM.pl p)] (Ae 300 [An (Av (Ao Ci) 0)]) (by kernel_rfl) .body
def Ez(p:Pr):Option ((Tk⊕Dg)×Int):=(AD p).bind λy1=>Sum.elim (λ(CI:Tk)=>(EX CI).bind λy2=>cond y2 (some ((Sum.inl CI:(Tk⊕Dg)),(BS p.JD 1))) (some ((Sum.inr (⟨71,CI.AF⟩:Dg):(Tk⊕Dg)),p.JD))) (λ(Lj:Dg)=>some ((Sum.inr Lj:(Tk⊕Dg)),p.JD)) y1
def H5{p:Pr}{yR:(Tk⊕Dg)}{Ah:Int}(h:Ez  p=some (yR,Ah)):pR mx 118 [.ptr 0 0,.fn (.func 121) [] []] p (II eT eD yR) Ah:=by
 unfold Ez at h;refine BX Hd.mixed (Ay Tryz.func118 bO ?_);revert h;refine AA λy1 Ci=>?_;refine Sy (λCI Lq=>?_) λLj Lq=>?_;subst Lq;refine AA λy2 Ep=>?_;let o1:List (PC P (G mx)):=[Af (Av (Ao Ci) 0),Be (To Ep)];refine Ak (λhv=>?_) λhv=>?_;subst hv;rintro⟨⟩;exact Au Hd.Ab _ _ [⟨.agg (Iq CI),.agg (Iq CI),(.plain (D4.CW CI))⟩] [pW p (BS p.JD 1)] (Ae 300 (o1++[pk])) (by kernel_rfl) .body;subst hv;rintro⟨⟩;exact BK Hd.Ab _ [⟨.E7 45 (.agg [.zi 71,.zi CI.AF]),.E7 45 (.agg [.zi 71,.zi CI.AF]),(.plain (Cj.CW (⟨71,CI.AF⟩:Dg)))⟩] [bp (CM.pl p)] (Ae 300 (o1++[An (As (Am (p:=p) (err:=71) (at_:=CI.AF) rfl) 0)])) (by kernel_rfl) .body;subst Lq;rintro⟨⟩;exact BK Hd.Ab _ [gD Lj] [bp (CM.pl p)] (Ae 300 [An (Av (Ao Ci) 0)]) (by kernel_rfl) .body
def FW(p:Pr):Option ((Tk⊕Dg)×Int):=(AD p).bind λy1=>Sum.elim (λ(CI:Tk)=>(BT CI).bind λy2=>cond y2 (some ((Sum.inl CI:(Tk⊕Dg)),(BS p.JD 1))) (some ((Sum.inr (⟨71,CI.AF⟩:Dg):(Tk⊕Dg)),p.JD))) (λ(Lj:Dg)=>some ((Sum.inr Lj:(Tk⊕Dg)),p.JD)) y1
def Jt{p:Pr}{yR:(Tk⊕Dg)}{Ah:Int}(h:FW  p=some (yR,Ah)):pR mx 118 [.ptr 0 0,.fn (.func 123) [] []] p (II eT eD yR) Ah:=by
 unfold FW at h;refine BX Hd.mixed (Ay Tryz.func118 bO ?_);revert h;refine AA λy1 Ci=>?_;refine Sy (λCI Lq=>?_) λLj Lq=>?_;subst Lq;refine AA λy2 Ep=>?_;let o1:List (PC P (G mx)):=[Af (Av (Ao Ci) 0),Be (K5 Ep)];refine Ak (λhv=>?_) λhv=>?_;subst hv;rintro⟨⟩;exact Au Hd.Ab _ _ [⟨.agg (Iq CI),.agg (Iq CI),(.plain (D4.CW CI))⟩] [pW p (BS p.JD 1)] (Ae 300 (o1++[pk])) (by kernel_rfl) .body;subst hv;rintro⟨⟩;exact BK Hd.Ab _ [⟨.E7 45 (.agg [.zi 71,.zi CI.AF]),.E7 45 (.agg [.zi 71,.zi CI.AF]),(.plain (Cj.CW (⟨71,CI.AF⟩:Dg)))⟩] [bp (CM.pl p)] (Ae 300 (o1++[An (As (Am (p:=p) (err:=71) (at_:=CI.AF) rfl) 0)])) (by kernel_rfl) .body;subst Lq;rintro⟨⟩;exact BK Hd.Ab _ [gD Lj] [bp (CM.pl p)] (Ae 300 [An (Av (Ao Ci) 0)]) (by kernel_rfl) .body
def B70:Code:=Bj Tryz.f70
def b70:Tryz.f70.body=some B70:=by kernel_rfl
def Du(p:Pr):Option ((Nd⊕Dg)×Int):=(AD p).bind λy1=>Sum.elim (λ(CI:Tk)=>(Dv (⟨p.Bq,(BS p.JD 1),p.DC⟩:Pr)).bind λ(I7,EA)=>Sum.elim (λ(CX:Tk)=>(Aj (⟨p.Bq,EA,p.DC⟩:Pr) jP).bind λ(PW,Fb)=>Sum.elim (λ(CK:Tk)=>(Ez (⟨p.Bq,Fb,p.DC⟩:Pr)).bind λ(VI,Jb)=>Sum.elim (λ(Dd:Tk)=>cond (BZ CI.text.data.toList Ov.data.toList) ((FW (⟨p.Bq,Jb,p.DC⟩:Pr)).bind λ(TS,Hr)=>Sum.elim (λ(Ig:Tk)=>(El Ig.text).bind λy6=>(Aj (⟨p.Bq,Hr,p.DC⟩:Pr) Wp).bind λ(y7a,Sd)=>Sum.elim (λ(UY:Tk)=>some ((Sum.inl (⟨3,CX.text,Dd.text,y6,0,0,0,(⟨0,[]⟩:Fn),[],CI.AF⟩:Nd):(Nd⊕Dg)),Sd)) (λ(O9:Dg)=>some ((Sum.inr O9:(Nd⊕Dg)),Sd)) y7a) (λ(GQ:Dg)=>some ((Sum.inr GQ:(Nd⊕Dg)),Hr)) TS) ((Aj (⟨p.Bq,Jb,p.DC⟩:Pr) Wp).bind λ(YX,Lg)=>Sum.elim (λ(GK:Tk)=>some ((Sum.inl (⟨2,CX.text,Dd.text,0,0,0,0,(⟨0,[]⟩:Fn),[],CI.AF⟩:Nd):(Nd⊕Dg)),Lg)) (λ(Lf:Dg)=>some ((Sum.inr Lf:(Nd⊕Dg)),Lg)) YX)) (λ(Ie:Dg)=>some ((Sum.inr Ie:(Nd⊕Dg)),Jb)) VI) (λ(Eo:Dg)=>some ((Sum.inr Eo:(Nd⊕Dg)),Fb)) PW) (λ(GP:Dg)=>some ((Sum.inr GP:(Nd⊕Dg)),EA)) I7) (λ(Lj:Dg)=>some ((Sum.inr Lj:(Nd⊕Dg)),p.JD)) y1
def DV{p:Pr}{yR:(Nd⊕Dg)}{Ah:Int}(h:Du  p=some (yR,Ah)):pR mx 70 [.ptr 0 0] p (II eN eD yR) Ah:=by
 unfold Du at h;refine BX Hd.mixed (Ay Tryz.func70 b70 ?_);revert h;refine AA λy1 Ci=>?_;refine Sy (λCI Lq=>?_) λLj Lq=>?_;subst Lq;let o1:List (PC P (G mx)):=[Af (Av (Ao Ci) 0),pk];refine BQ (λCX EA Ep=>?_) λGP EA Ep=>?_;let o2:List (PC P (G mx)):=o1++[Af (Hw (DW Ep) 0)];refine BQ (λCK Fb Gr=>?_) λEo Fb Gr=>?_;let o3:List (PC P (G mx)):=o2++[Af (Hw (Aa Gr) 0)];refine BQ (λDd Jb JV=>?_) λIe Jb JV=>?_;let o4:List (PC P (G mx)):=o3++[Af (Hw (H5 JV) 0)];refine Ak (λBp=>?_) λBp=>?_;refine BQ (λIg Hr J2=>?_) λGQ Hr J2=>?_;refine AA λy6 MO=>?_;let o5:List (PC P (G mx)):=o4++[pb Bp,Af (Hw (Jt J2) 0),Be (Kp MO)];refine BQ (λUY Sd R4=>?_) λO9 Sd R4=>?_;refine Em ?_;rintro rfl rfl;exact Au Hd.Ab _ _ [⟨.agg [.zi 3,.zs CX.text,.zs Dd.text,.zi y6,.zi 0,.zi 0,.zi 0,.zi 0,.sl .full 0 [],.sl .full 0 [],.zi CI.AF],.agg [.zi 3,.zs CX.text,.zs Dd.text,.zi y6,.zi 0,.zi 0,.zi 0,.zi 0,.sl .lost ([].length) (rows H7 []),.sl .lost ([].length) (Bd []),.zi CI.AF],(.wn (.g (.r (.r (.r (.r (.r (.r (.r (.r (.z (.z (.r .nil))))))))))) .nil) (AB.CW (⟨3,CX.text,Dd.text,y6,0,0,0,(⟨0,[]⟩:Fn),[],CI.AF⟩:Nd)))⟩] [pW p Sd] (Ae 300 (o5++[Af (Hw (Aa R4) 0)])) (by kernel_rfl) .body;refine Em ?_;rintro rfl rfl;exact Hs O9 p Sd (o5++[An (Hw (Aa R4) 0)]) .body;refine Em ?_;rintro rfl rfl;exact Hs GQ p Hr (o4++[pb Bp,An (Hw (Jt J2) 0)]) .body;refine BQ (λGK Lg Oq=>?_) λLf Lg Oq=>?_;refine Em ?_;rintro rfl rfl;exact Au Hd.Ab _ _ [⟨.agg [.zi 2,.zs CX.text,.zs Dd.text,.zi 0,.zi 0,.zi 0,.zi 0,.zi 0,.sl .full 0 [],.sl .full 0 [],.zi CI.AF],.agg [.zi 2,.zs CX.text,.zs Dd.text,.zi 0,.zi 0,.zi 0,.zi 0,.zi 0,.sl .lost ([].length) (rows H7 []),.sl .lost ([].length) (Bd []),.zi CI.AF],(.wn (.g (.r (.r (.r (.r (.r (.r (.r (.r (.z (.z (.r .nil))))))))))) .nil) (AB.CW (⟨2,CX.text,Dd.text,0,0,0,0,(⟨0,[]⟩:Fn),[],CI.AF⟩:Nd)))⟩] [pW p Lg] (Ae 300 (o4++[pb Bp,Af (Hw (Aa Oq) 0)])) (by kernel_rfl) .body;refine Em ?_;rintro rfl rfl;exact Hs Lf p Lg (o4++[pb Bp,An (Hw (Aa Oq) 0)]) .body;refine Em ?_;rintro rfl rfl;exact Hs Ie p Jb (o3++[An (Hw (H5 JV) 0)]) .body;refine Em ?_;rintro rfl rfl;exact Hs Eo p Fb (o2++[An (Hw (Aa Gr) 0)]) .body;refine Em ?_;rintro rfl rfl;exact Hs GP p EA (o1++[An (Hw (DW Ep) 0)]) .body;subst Lq;refine Em ?_;rintro rfl rfl;exact BK Hd.Ab _ [gD Lj] [bp (CM.pl p)] (Ae 300 [An (Av (Ao Ci) 0)]) (by kernel_rfl) .body
def ane:Code:=Bj Tryz.f172
def anS:Tryz.f172.body=some ane:=by kernel_rfl
def Ef(token:Tk):Option Bool:=cond (DZ token.kind 3) (some true) (some false)
def MX{token:Tk}{yR:Bool}(h:Ef  token=some yR):Pure P (G mx) 172 [.agg (Iq token)] (.zb yR):=by
 unfold Ef at h;refine D7 Hd.mixed Hd.Ab (Ay Tryz.func172 anS ?_) (BE (D4.CW token) rfl) rfl;revert h;refine Ak (λBp=>?_) λBp=>?_;rintro⟨⟩;exact rT [pb Bp];rintro⟨⟩;exact rT [pb Bp]
def Hi(p:Pr):Option ((Tk⊕Dg)×Int):=(AD p).bind λy1=>Sum.elim (λ(CI:Tk)=>(Ef CI).bind λy2=>cond y2 (some ((Sum.inl CI:(Tk⊕Dg)),(BS p.JD 1))) (some ((Sum.inr (⟨71,CI.AF⟩:Dg):(Tk⊕Dg)),p.JD))) (λ(Lj:Dg)=>some ((Sum.inr Lj:(Tk⊕Dg)),p.JD)) y1
def I4{p:Pr}{yR:(Tk⊕Dg)}{Ah:Int}(h:Hi  p=some (yR,Ah)):pR mx 118 [.ptr 0 0,.fn (.func 172) [] []] p (II eT eD yR) Ah:=by
 unfold Hi at h;refine BX Hd.mixed (Ay Tryz.func118 bO ?_);revert h;refine AA λy1 Ci=>?_;refine Sy (λCI Lq=>?_) λLj Lq=>?_;subst Lq;refine AA λy2 Ep=>?_;let o1:List (PC P (G mx)):=[Af (Av (Ao Ci) 0),Be (MX Ep)];refine Ak (λhv=>?_) λhv=>?_;subst hv;rintro⟨⟩;exact Au Hd.Ab _ _ [⟨.agg (Iq CI),.agg (Iq CI),(.plain (D4.CW CI))⟩] [pW p (BS p.JD 1)] (Ae 300 (o1++[pk])) (by kernel_rfl) .body;subst hv;rintro⟨⟩;exact BK Hd.Ab _ [⟨.E7 45 (.agg [.zi 71,.zi CI.AF]),.E7 45 (.agg [.zi 71,.zi CI.AF]),(.plain (Cj.CW (⟨71,CI.AF⟩:Dg)))⟩] [bp (CM.pl p)] (Ae 300 (o1++[An (As (Am (p:=p) (err:=71) (at_:=CI.AF) rfl) 0)])) (by kernel_rfl) .body;subst Lq;rintro⟨⟩;exact BK Hd.Ab _ [gD Lj] [bp (CM.pl p)] (Ae 300 [An (Av (Ao Ci) 0)]) (by kernel_rfl) .body
def am8:Code:=Bj Tryz.f155
def anN:Tryz.f155.body=some am8:=by kernel_rfl
def EF(p:Pr):Option (((Int×Int)⊕Dg)×Int):=(Hi p).bind λ(Ei,Bh)=>Sum.elim (λ(Aw:Tk)=>(Rk Aw.text).bind λ(I7,EA)=>some ((Sum.inl (I7,Aw.AF):((Int×Int)⊕Dg)),Bh)) (λ(CQ:Dg)=>some ((Sum.inr CQ:((Int×Int)⊕Dg)),Bh)) Ei
def E4{p:Pr}{yR:((Int×Int)⊕Dg)}{Ah:Int}(h:EF  p=some (yR,Ah)):pR mx 155 [.ptr 0 0] p (II eJ eD yR) Ah:=by
 unfold EF at h;refine BX Hd.mixed (Ay Tryz.func155 anN ?_);revert h;refine BQ (λAw Bh Ci=>?_) λCQ Bh Ci=>?_;refine AA ?_;rintro⟨I7,EA⟩ Ep;dsimp only;refine Em ?_;rintro rfl rfl;exact Au Hd.Ab _ _ [⟨.Dk [.zi I7,.zi Aw.AF],.Dk [.zi I7,.zi Aw.AF],(.plain (BE rfl (BE rfl rfl)))⟩] [pW p Bh] (Ae 300 [Af (Hw (I4 Ci) 0),Be (pN Ep)]) (by kernel_rfl) .body;refine Em ?_;rintro rfl rfl;exact Hs CQ p Bh [An (Hw (I4 Ci) 0)] .body
def amY:Code:=Bj Tryz.f124
def anC:Tryz.f124.body=some amY:=by kernel_rfl
def AJ(p:Pr)(least:Int):Option (((Int×Int)⊕Dg)×Int):=(EF p).bind λ(Ei,Bh)=>Sum.elim (λ(Aw:(Int×Int))=>cond (EQ Aw.1 least) (some ((Sum.inr (⟨3,Aw.2⟩:Dg):((Int×Int)⊕Dg)),Bh)) (cond (EQ 1000000 Aw.1) (some ((Sum.inr (⟨3,Aw.2⟩:Dg):((Int×Int)⊕Dg)),Bh)) (some ((Sum.inl (Aw.1,Aw.2):((Int×Int)⊕Dg)),Bh)))) (λ(CQ:Dg)=>some ((Sum.inr CQ:((Int×Int)⊕Dg)),Bh)) Ei
def Al{p:Pr}{least:Int}{yR:((Int×Int)⊕Dg)}{Ah:Int}(h:AJ  p least=some (yR,Ah)):pR mx 124 [.ptr 0 0,.zi least] p (II eJ eD yR) Ah:=by
 unfold AJ at h;refine BX Hd.mixed (Ay Tryz.func124 anC ?_);revert h;refine BQ (λAw Bh Ci=>?_) λCQ Bh Ci=>?_;let o1:List (PC P (G mx)):=[Af (ME (E4 Ci) 0)];refine Ak (λBp=>?_) λBp=>?_;refine Em ?_;rintro rfl rfl;exact BK Hd.Ab _ [⟨.E7 45 (.agg [.zi 3,.zi Aw.2]),.E7 45 (.agg [.zi 3,.zi Aw.2]),(.plain (Cj.CW (⟨3,Aw.2⟩:Dg)))⟩] [pW p Bh] (Ae 300 (o1++[pb Bp,An (As (Am (p:=(⟨p.Bq,Bh,p.DC⟩:Pr)) (err:=3) (at_:=Aw.2) rfl) 0)])) (by kernel_rfl) .body;refine Ak (λCF=>?_) λCF=>?_;refine Em ?_;rintro rfl rfl;exact BK Hd.Ab _ [⟨.E7 45 (.agg [.zi 3,.zi Aw.2]),.E7 45 (.agg [.zi 3,.zi Aw.2]),(.plain (Cj.CW (⟨3,Aw.2⟩:Dg)))⟩] [pW p Bh] (Ae 300 (o1++[pb Bp,pb CF,An (As (Am (p:=(⟨p.Bq,Bh,p.DC⟩:Pr)) (err:=3) (at_:=Aw.2) rfl) 0)])) (by kernel_rfl) .body;refine Em ?_;rintro rfl rfl;exact Au Hd.Ab _ _ [⟨.Dk [.zi Aw.1,.zi Aw.2],.Dk [.zi Aw.1,.zi Aw.2],(.plain (BE rfl (BE rfl rfl)))⟩] [pW p Bh] (Ae 300 (o1++[pb Bp,pb CF])) (by kernel_rfl) .body;refine Em ?_;rintro rfl rfl;exact Hs CQ p Bh [An (ME (E4 Ci) 0)] .body
def B37:Code:=Bj Tryz.f37
def b37:Tryz.f37.body=some B37:=by kernel_rfl
def Aq(p:Pr)(text:ByteArray):Option Bool:=cond (EQ p.JD ((p.Bq.length:Nat):Int)) ((Mp p.Bq p.JD).bind λx1=>(some (BZ x1.text.data.toList text.data.toList)).bind λq2=>some q2) (some false)
def Ag{p:Pr}{text:ByteArray}{yR:Bool}(h:Aq  p text=some yR):Sound P (G mx) (.call 37 [.ptr 0 0,.zs text] (pZ p) (.ret (.zb yR)) (pZ p)):=by
 unfold Aq at h;refine BX Hd.mixed (Ay Tryz.func37 b37 ?_);revert h;refine Ak (λBp=>?_) λBp=>?_;refine AA λx1 vD=>?_;refine AA λq2 Y1=>?_;rintro⟨⟩;exact Au Hd.Ab _ _ [] [bp (CM.pl p)] (Ae 300 [pb Bp,IP (abe .lost vD),PI (amP Y1 (.tmp 26) (.tmp 27))]) (by kernel_rfl) .body;rintro⟨⟩;exact Au Hd.Ab _ _ [] [bp (CM.pl p)] (Ae 300 [pb Bp]) (by kernel_rfl) .body
def anf:Code:=Bj Tryz.f174
def anT:Tryz.f174.body=some anf:=by kernel_rfl
def EE(token:Tk):Option Bool:=cond (DZ token.kind 5) (some true) (some false)
def Ob{token:Tk}{yR:Bool}(h:EE  token=some yR):Pure P (G mx) 174 [.agg (Iq token)] (.zb yR):=by
 unfold EE at h;refine D7 Hd.mixed Hd.Ab (Ay Tryz.func174 anT ?_) (BE (D4.CW token) rfl) rfl;revert h;refine Ak (λBp=>?_) λBp=>?_;rintro⟨⟩;exact rT [pb Bp];rintro⟨⟩;exact rT [pb Bp]
def anj:Code:=Bj Tryz.f212
def anZ:Tryz.f212.body=some anj:=by kernel_rfl
def F5(year:Int)(month:Int):Option Int:=(Mp beforeL (BS month 1)).bind λx1=>(Mp beforeL month).bind λx2=>cond (DZ month 1) (cond (DZ (kS year 4) 0) (some (BS (Sz x1 x2) 1)) (some (Sz x1 x2))) (some (Sz x1 x2))
def P6{year:Int}{month:Int}{yR:Int}(h:F5  year month=some yR):Pure P (G mx) 212 [.zi year,.zi month] (.zi yR):=by
 unfold F5 at h;refine D7 Hd.mixed Hd.Ab (Ay Tryz.func212 anZ ?_) (BE rfl (BE rfl rfl)) rfl;revert h;refine AA λx1 vD=>?_;refine AA λx2 xO=>?_;let o1:List (PC P (G mx)):=[pk,IP (nT vD),IP (nT xO),pk];refine Ak (λBp=>?_) λBp=>?_;refine Ak (λCF=>?_) λCF=>?_;rintro⟨⟩;exact rT (o1++[pb Bp,pk,pb CF,pk]);rintro⟨⟩;exact rT (o1++[pb Bp,pk,pb CF]);rintro⟨⟩;exact rT (o1++[pb Bp])
def ann:Code:=Bj Tryz.f227
def an4:Tryz.f227.body=some ann:=by kernel_rfl
def Jj(year:Int):Option Int:=some (BS (BN (Sz year 2000) 365) (xC (BS (Sz year 2000) 3) 4))
def Pm{year:Int}{yR:Int}(h:Jj  year=some yR):Pure P (G mx) 227 [.zi year] (.zi yR):=by
 unfold Jj at h;refine D7 Hd.mixed Hd.Ab (Ay Tryz.func227 an4 ?_) (BE rfl rfl) rfl;revert h;rintro⟨⟩;exact rT [pk,pk,pk,pk,pk]
def ank:Code:=Bj Tryz.f213
def an0:Tryz.f213.body=some ank:=by kernel_rfl
def Hy(month:Int):Option Int:=cond (EQ month 0) (some (-1)) (cond (EQ 1199 month) (some (-1)) ((Jj (BS 2000 (xC month 12))).bind λy1=>(Mp beforeL (kS month 12)).bind λx2=>cond (EQ 1 (kS month 12)) (cond (DZ (kS (BS 2000 (xC month 12)) 4) 0) (some (BS (BS y1 x2) 1)) (some (BS y1 x2))) (some (BS y1 x2))))
def Sf{month:Int}{yR:Int}(h:Hy  month=some yR):Pure P (G mx) 213 [.zi month] (.zi yR):=by
 unfold Hy at h;refine D7 Hd.mixed Hd.Ab (Ay Tryz.func213 an0 ?_) (BE rfl rfl) rfl;revert h;refine Ak (λBp=>?_) λBp=>?_;rintro⟨⟩;exact rT [pb Bp];refine Ak (λCF=>?_) λCF=>?_;rintro⟨⟩;exact rT [pb Bp,pb CF];refine AA λy1 Ci=>?_;refine AA λx2 xO=>?_;let o1:List (PC P (G mx)):=[pb Bp,pb CF,pk,pk,Be (Pm Ci),pk,IP (nT xO),pk,pk];refine Ak (λD1=>?_) λD1=>?_;refine Ak (λF9=>?_) λF9=>?_;rintro⟨⟩;exact rT (o1++[pb D1,pk,pb F9,pk]);rintro⟨⟩;exact rT (o1++[pb D1,pk,pb F9]);rintro⟨⟩;exact rT (o1++[pb D1])
def anh:Code:=Bj Tryz.f195
def anX:Tryz.f195.body=some anh:=by kernel_rfl
def Ji(year:Int)(month:Int)(day:Int):Option (Int×Int):=cond (EQ year 2000) (some (0,21)) (cond (EQ 2099 year) (some (0,21)) (cond (EQ month 1) (some (0,21)) (cond (EQ 12 month) (some (0,21)) (cond (EQ day 1) (some (0,21)) ((F5 year (Sz month 1)).bind λy1=>cond (EQ y1 day) (some (0,21)) ((Hy (Sz (BS (BN (Sz year 2000) 12) month) 1)).bind λy2=>some ((Sz (BS y2 day) 1),0)))))))
def Ua{year:Int}{month:Int}{day:Int}{yR:(Int×Int)}(h:Ji  year month day=some yR):Pure P (G mx) 195 [.zi year,.zi month,.zi day] (.Dk [.zi yR.1,.zi yR.2]):=by
 unfold Ji at h;refine D7 Hd.mixed Hd.Ab (Ay Tryz.func195 anX ?_) (BE rfl (BE rfl (BE rfl rfl))) (BE rfl (BE rfl rfl));revert h;refine Ak (λBp=>?_) λBp=>?_;rintro⟨⟩;exact Bc _ _ (Ae 300 [pb Bp]) (by kernel_rfl) .body (.plain (BE rfl (BE rfl rfl)));refine Ak (λCF=>?_) λCF=>?_;rintro⟨⟩;exact Bc _ _ (Ae 300 [pb Bp,pb CF]) (by kernel_rfl) .body (.plain (BE rfl (BE rfl rfl)));refine Ak (λD1=>?_) λD1=>?_;rintro⟨⟩;exact Bc _ _ (Ae 300 [pb Bp,pb CF,pb D1]) (by kernel_rfl) .body (.plain (BE rfl (BE rfl rfl)));refine Ak (λF9=>?_) λF9=>?_;rintro⟨⟩;exact Bc _ _ (Ae 300 [pb Bp,pb CF,pb D1,pb F9]) (by kernel_rfl) .body (.plain (BE rfl (BE rfl rfl)));refine Ak (λIZ=>?_) λIZ=>?_;rintro⟨⟩;exact Bc _ _ (Ae 300 [pb Bp,pb CF,pb D1,pb F9,pb IZ]) (by kernel_rfl) .body (.plain (BE rfl (BE rfl rfl)));refine AA λy1 Ci=>?_;let o1:List (PC P (G mx)):=[pb Bp,pb CF,pb D1,pb F9,pb IZ,pk,Be (P6 Ci)];refine Ak (λJm=>?_) λJm=>?_;rintro⟨⟩;exact Bc _ _ (Ae 300 (o1++[pb Jm])) (by kernel_rfl) .body (.plain (BE rfl (BE rfl rfl)));refine AA λy2 Ep=>?_;rintro⟨⟩;exact Bc _ _ (Ae 300 (o1++[pb Jm,pk,pk,pk,pk,Be (Sf Ep),pk,pk])) (by kernel_rfl) .body (.plain (BE rfl (BE rfl rfl)))
def aif:Code:=Bj Tryz.f175
def anU:Tryz.f175.body=some aif:=by kernel_rfl
def B7(i0:Nat)(e0:UInt8)(KB:Int)(ES:Int)(By:Int)(UP:Int):Option (Lp (Int×Int×Int×Int) (Int×Int×Int) (Int×Int)):=cond (DZ ((i0:Nat):Int) 4) (cond (DZ ((e0.toNat:Nat):Int) 45) (some (.nx ((BS KB 1),ES,By,UP))) (some (.rt (0,12)))) (cond (DZ ((i0:Nat):Int) 7) (cond (DZ ((e0.toNat:Nat):Int) 45) (some (.nx ((BS KB 1),ES,By,UP))) (some (.rt (0,12)))) (cond (EQ ((e0.toNat:Nat):Int) 48) (some (.rt (0,12))) (cond (EQ 57 ((e0.toNat:Nat):Int)) (some (.rt (0,12))) (cond (DZ KB 0) (some (.nx (KB,(BS (BN ES 10) (w64 (MG .u8 (eB ((e0.toNat:Nat):Int) 48)))),By,UP))) (cond (DZ KB 1) (some (.nx (KB,ES,(BS (BN By 10) (w64 (MG .u8 (eB ((e0.toNat:Nat):Int) 48)))),UP))) (cond (DZ KB 2) (some (.nx (KB,ES,By,(BS (BN UP 10) (w64 (MG .u8 (eB ((e0.toNat:Nat):Int) 48))))))) (none)))))))
def Fc(text:ByteArray):Option (Int×Int):=cond (DZ ((text.data.toList.length:Nat):Int) 10) ((SR text.data.toList.length (Dl (λi y x=>B7   i y x.1 x.2.1 x.2.2.1 x.2.2.2) (λx=>(x.2.1,x.2.2.1,x.2.2.2)) (text.data.toList.drop 0) 0 (0,0,0,0))).bind (PZ (λ((ade,adf,adh):(Int×Int×Int))=>(Ji ade adf adh).bind λ(I7,EA)=>some (I7,EA)) (λv=>some v))) (some (0,12))
def Sg{text:ByteArray}{yR:(Int×Int)}(h:Fc  text=some yR):Pure P (G mx) 175 [.zs text] (.Dk [.zi yR.1,.zi yR.2]):=by
 unfold Fc at h;refine D7 Hd.mixed Hd.Ab (Ay Tryz.func175 anU ?_) (BE rfl rfl) (BE rfl (BE rfl rfl));revert h;refine Ak (λBp=>?_) λBp=>?_;refine Rj (λQ v=>Ni P Tryz.f175 0 Q (.Dk [.zi v.1,.zi v.2])) (λi0 ((KB,ES,By,UP):(Int×Int×Int×Int)) (j0:List Value)=>fr 58 [(0,.zs text),(4,.ptr 0 0),(5,.zi KB),(13,.zi ((text.data.toList.length:Nat):Int)),(14,.zi ((i0:Nat):Int))] [10,15,30,32,33,35,36,38,41,43,44,46,47] j0) (λ((KB,ES,By,UP):(Int×Int×Int×Int))=>⟨[(0,.cells [.zi ES,.zi By,.zi UP])],1,[],0⟩) (λ((ES,By,UP):(Int×Int×Int)) (jx:List Value)=>fr 58 [(4,.ptr 0 0)] [10,15,30,32,33,35,36,38,41,43,44,46,47] jx) (λ((ES,By,UP):(Int×Int×Int))=>⟨[(0,.cells [.zi ES,.zi By,.zi UP])],1,[],0⟩) [bF] (IJ [] 0 (sb aif 500) [.code (sb aif 63)] (Ae 300 [pn Bp]) (by kernel_rfl)) ?_ ?_ ?_ (λv h=>by cases h;exact .outer .body);rintro i0 ⟨KB,ES,By,UP⟩ j0 On hq;exact Fq (Ae 300 [pb (fE On)]) (by kernel_rfl) (hq (js 13 j0 [(1,bF)]));rintro i0 e0 ⟨KB,ES,By,UP⟩ j0 r Qb Pf P0 k;show B7   i0 e0 KB ES By UP=some r->_;unfold B7;let o1:List (PC P (G mx)):=[pb (WN Pf),pst (X0 Qb)];refine Ak (λCF=>?_) λCF=>?_;refine Ak (λD1=>?_) λD1=>?_;rintro⟨⟩;exact Lk (Ae 300 (o1++[pb CF,pn D1,pk,pi P0])) (by kernel_rfl) (k (js 13 j0 [(1,bT),(2,bT),(3,bT),(4,bT),(5,undef),(6,bT),(7,bF)]));rintro⟨⟩;exact Bc _ _ (Ae 300 (o1++[pb CF,pn D1])) (by kernel_rfl) (.GJ k) (.plain (BE rfl (BE rfl rfl)));refine Ak (λF9=>?_) λF9=>?_;refine Ak (λIZ=>?_) λIZ=>?_;rintro⟨⟩;exact Lk (Ae 300 (o1++[pb CF,pb F9,pn IZ,pk,pi P0])) (by kernel_rfl) (k (js 13 j0 [(1,bT),(2,bT),(3,bF),(4,bF),(5,bT),(6,bT),(7,bF)]));rintro⟨⟩;exact Bc _ _ (Ae 300 (o1++[pb CF,pb F9,pn IZ])) (by kernel_rfl) (.GJ k) (.plain (BE rfl (BE rfl rfl)));refine Ak (λJm=>?_) λJm=>?_;rintro⟨⟩;exact Bc _ _ (Ae 300 (o1++[pb CF,pb F9,pb Jm])) (by kernel_rfl) (.GJ k) (.plain (BE rfl (BE rfl rfl)));refine Ak (λJU=>?_) λJU=>?_;rintro⟨⟩;exact Bc _ _ (Ae 300 (o1++[pb CF,pb F9,pb Jm,pb JU])) (by kernel_rfl) (.GJ k) (.plain (BE rfl (BE rfl rfl)));refine Ak (λLt=>?_) λLt=>?_;rintro⟨⟩;exact Lk (Ae 300 (o1++[pb CF,pb F9,pb Jm,pb JU,IP (t:=173) (a:=.ptr 0 0) (b:=.zi KB) (v:=.ptr 0 0) (by rw[Fw Lt];kernel_rfl),pk,pk,pk,IP (t:=173) (a:=.ptr 0 0) (b:=.zi KB) (v:=.ptr 0 0) (by rw[Fw Lt];kernel_rfl),pi P0])) (by kernel_rfl) (k [(jv j0 0),bT,bF,bF,bF,bF,bF,(jv j0 7),bF,bF,bF,bF,bF]);refine Ak (λKl=>?_) λKl=>?_;rintro⟨⟩;exact Lk (Ae 300 (o1++[pb CF,pb F9,pb Jm,pb JU,IP (t:=173) (a:=.ptr 0 0) (b:=.zi KB) (v:=.ptr 0 1) (by rw[Fw Kl];kernel_rfl),pk,pk,pk,IP (t:=173) (a:=.ptr 0 0) (b:=.zi KB) (v:=.ptr 0 1) (by rw[Fw Kl];kernel_rfl),pi P0])) (by kernel_rfl) (k [(jv j0 0),bT,bF,bF,bF,bF,bF,(jv j0 7),bF,bF,bF,bF,bF]);refine Ak (λHg=>?_) λHg=>?_;rintro⟨⟩;exact Lk (Ae 300 (o1++[pb CF,pb F9,pb Jm,pb JU,IP (t:=173) (a:=.ptr 0 0) (b:=.zi KB) (v:=.ptr 0 2) (by rw[Fw Hg];kernel_rfl),pk,pk,pk,IP (t:=173) (a:=.ptr 0 0) (b:=.zi KB) (v:=.ptr 0 2) (by rw[Fw Hg];kernel_rfl),pi P0])) (by kernel_rfl) (k [(jv j0 0),bT,bF,bF,bF,bF,bF,(jv j0 7),bF,bF,bF,bF,bF]);exact cY;rintro⟨ade,adf,adh⟩ apq;dsimp only;refine AA ?_;rintro⟨I7,EA⟩ Ep;dsimp only;rintro⟨⟩;exact Bc _ _ (K9 300 [pk,pk,pk,Be (Ua Ep)]) (by kernel_rfl) .body (.plain (BE rfl (BE rfl rfl)));rintro⟨⟩;exact Bc _ _ (Ae 300 [pn Bp]) (by kernel_rfl) .body (.plain (BE rfl (BE rfl rfl)))
def GN(p:Pr):Option ((Tk⊕Dg)×Int):=(AD p).bind λy1=>Sum.elim (λ(CI:Tk)=>(EE CI).bind λy2=>cond y2 (some ((Sum.inl CI:(Tk⊕Dg)),(BS p.JD 1))) (some ((Sum.inr (⟨71,CI.AF⟩:Dg):(Tk⊕Dg)),p.JD))) (λ(Lj:Dg)=>some ((Sum.inr Lj:(Tk⊕Dg)),p.JD)) y1
def IE{p:Pr}{yR:(Tk⊕Dg)}{Ah:Int}(h:GN  p=some (yR,Ah)):pR mx 118 [.ptr 0 0,.fn (.func 174) [] []] p (II eT eD yR) Ah:=by
 unfold GN at h;refine BX Hd.mixed (Ay Tryz.func118 bO ?_);revert h;refine AA λy1 Ci=>?_;refine Sy (λCI Lq=>?_) λLj Lq=>?_;subst Lq;refine AA λy2 Ep=>?_;let o1:List (PC P (G mx)):=[Af (Av (Ao Ci) 0),Be (Ob Ep)];refine Ak (λhv=>?_) λhv=>?_;subst hv;rintro⟨⟩;exact Au Hd.Ab _ _ [⟨.agg (Iq CI),.agg (Iq CI),(.plain (D4.CW CI))⟩] [pW p (BS p.JD 1)] (Ae 300 (o1++[pk])) (by kernel_rfl) .body;subst hv;rintro⟨⟩;exact BK Hd.Ab _ [⟨.E7 45 (.agg [.zi 71,.zi CI.AF]),.E7 45 (.agg [.zi 71,.zi CI.AF]),(.plain (Cj.CW (⟨71,CI.AF⟩:Dg)))⟩] [bp (CM.pl p)] (Ae 300 (o1++[An (As (Am (p:=p) (err:=71) (at_:=CI.AF) rfl) 0)])) (by kernel_rfl) .body;subst Lq;rintro⟨⟩;exact BK Hd.Ab _ [gD Lj] [bp (CM.pl p)] (Ae 300 [An (Av (Ao Ci) 0)]) (by kernel_rfl) .body
def am9:Code:=Bj Tryz.f156
def anO:Tryz.f156.body=some am9:=by kernel_rfl
def DM(p:Pr)(least:Int):Option ((Int⊕Dg)×Int):=(GN p).bind λ(Ei,Bh)=>Sum.elim (λ(Aw:Tk)=>(Fc Aw.text).bind λ(I7,EA)=>cond (DZ EA 0) (cond (EQ I7 least) (some ((Sum.inr (⟨21,Aw.AF⟩:Dg):(Int⊕Dg)),Bh)) (some ((Sum.inl I7:(Int⊕Dg)),Bh))) (some ((Sum.inr (⟨21,Aw.AF⟩:Dg):(Int⊕Dg)),Bh))) (λ(CQ:Dg)=>some ((Sum.inr CQ:(Int⊕Dg)),Bh)) Ei
def CC{p:Pr}{least:Int}{yR:(Int⊕Dg)}{Ah:Int}(h:DM  p least=some (yR,Ah)):pR mx 156 [.ptr 0 0,.zi least] p (II eI eD yR) Ah:=by
 unfold DM at h;refine BX Hd.mixed (Ay Tryz.func156 anO ?_);revert h;refine BQ (λAw Bh Ci=>?_) λCQ Bh Ci=>?_;refine AA ?_;rintro⟨I7,EA⟩ Ep;dsimp only;let o1:List (PC P (G mx)):=[Af (Hw (IE Ci) 0),Be (Sg Ep)];refine Ak (λBp=>?_) λBp=>?_;refine Ak (λCF=>?_) λCF=>?_;refine Em ?_;rintro rfl rfl;exact BK Hd.Ab _ [⟨.E7 45 (.agg [.zi 21,.zi Aw.AF]),.E7 45 (.agg [.zi 21,.zi Aw.AF]),(.plain (Cj.CW (⟨21,Aw.AF⟩:Dg)))⟩] [pW p Bh] (Ae 300 (o1++[pn Bp,pb CF,An (As (Am (p:=(⟨p.Bq,Bh,p.DC⟩:Pr)) (err:=21) (at_:=Aw.AF) rfl) 0)])) (by kernel_rfl) .body;refine Em ?_;rintro rfl rfl;exact Au Hd.Ab _ _ [] [pW p Bh] (Ae 300 (o1++[pn Bp,pb CF])) (by kernel_rfl) .body;refine Em ?_;rintro rfl rfl;exact BK Hd.Ab _ [⟨.E7 45 (.agg [.zi 21,.zi Aw.AF]),.E7 45 (.agg [.zi 21,.zi Aw.AF]),(.plain (Cj.CW (⟨21,Aw.AF⟩:Dg)))⟩] [pW p Bh] (Ae 300 (o1++[pn Bp,An (As (Am (p:=(⟨p.Bq,Bh,p.DC⟩:Pr)) (err:=21) (at_:=Aw.AF) rfl) 0)])) (by kernel_rfl) .body;refine Em ?_;rintro rfl rfl;exact Hs CQ p Bh [An (Hw (IE Ci) 0)] .body
def amZ:Code:=Bj Tryz.f125
def anD:Tryz.f125.body=some amZ:=by kernel_rfl
def G3(p:Pr):Option ((Nd⊕Dg)×Int):=(Aj p r9).bind λ(Ei,Bh)=>Sum.elim (λ(Aw:Tk)=>(AJ (⟨p.Bq,Bh,p.DC⟩:Pr) 0).bind λ(I7,EA)=>Sum.elim (λ(CX:(Int×Int))=>(Aj (⟨p.Bq,EA,p.DC⟩:Pr) qG).bind λ(PW,Fb)=>Sum.elim (λ(CK:Tk)=>(DM (⟨p.Bq,Fb,p.DC⟩:Pr) 0).bind λ(VI,Jb)=>Sum.elim (λ(Dd:Int)=>(Aq (⟨p.Bq,Jb,p.DC⟩:Pr) toS).bind λy5=>cond y5 ((DM (⟨p.Bq,(BS Jb 1),p.DC⟩:Pr) (BS Dd 1)).bind λ(lK,N7)=>Sum.elim (λ(IU:Int)=>(Aj (⟨p.Bq,N7,p.DC⟩:Pr) Vi).bind λ(y7a,Sd)=>Sum.elim (λ(UY:Tk)=>(DM (⟨p.Bq,Sd,p.DC⟩:Pr) 0).bind λ(YX,Lg)=>Sum.elim (λ(GK:Int)=>some ((Sum.inl (⟨5,ByteArray.empty,ByteArray.empty,CX.1,Dd,IU,GK,(⟨0,[]⟩:Fn),[],Aw.AF⟩:Nd):(Nd⊕Dg)),Lg)) (λ(Lf:Dg)=>some ((Sum.inr Lf:(Nd⊕Dg)),Lg)) YX) (λ(O9:Dg)=>some ((Sum.inr O9:(Nd⊕Dg)),Sd)) y7a) (λ(Mz:Dg)=>some ((Sum.inr Mz:(Nd⊕Dg)),N7)) lK) ((Aj (⟨p.Bq,Jb,p.DC⟩:Pr) Vi).bind λ(y9a,YZ)=>Sum.elim (λ(Ww:Tk)=>(DM (⟨p.Bq,YZ,p.DC⟩:Pr) 0).bind λ(YT,Kr)=>Sum.elim (λ(JC:Int)=>some ((Sum.inl (⟨5,ByteArray.empty,ByteArray.empty,CX.1,Dd,36525,JC,(⟨0,[]⟩:Fn),[],Aw.AF⟩:Nd):(Nd⊕Dg)),Kr)) (λ(YU:Dg)=>some ((Sum.inr YU:(Nd⊕Dg)),Kr)) YT) (λ(YY:Dg)=>some ((Sum.inr YY:(Nd⊕Dg)),YZ)) y9a)) (λ(Ie:Dg)=>some ((Sum.inr Ie:(Nd⊕Dg)),Jb)) VI) (λ(Eo:Dg)=>some ((Sum.inr Eo:(Nd⊕Dg)),Fb)) PW) (λ(GP:Dg)=>some ((Sum.inr GP:(Nd⊕Dg)),EA)) I7) (λ(CQ:Dg)=>some ((Sum.inr CQ:(Nd⊕Dg)),Bh)) Ei
def Kz{p:Pr}{yR:(Nd⊕Dg)}{Ah:Int}(h:G3  p=some (yR,Ah)):pR mx 125 [.ptr 0 0] p (II eN eD yR) Ah:=by
 unfold G3 at h;refine BX Hd.mixed (Ay Tryz.func125 anD ?_);revert h;refine BQ (λAw Bh Ci=>?_) λCQ Bh Ci=>?_;let o1:List (PC P (G mx)):=[Af (Hw (Aa Ci) 0)];refine BQ (λCX EA Ep=>?_) λGP EA Ep=>?_;let o2:List (PC P (G mx)):=o1++[Af (ME (Al Ep) 0)];refine BQ (λCK Fb Gr=>?_) λEo Fb Gr=>?_;let o3:List (PC P (G mx)):=o2++[Af (Hw (Aa Gr) 0)];refine BQ (λDd Jb JV=>?_) λIe Jb JV=>?_;refine AA λy5 J2=>?_;let o4:List (PC P (G mx)):=o3++[Af (Z6 (CC JV) 0),Af (NS (Ag J2) 0)];refine Ak (λhv=>?_) λhv=>?_;subst hv;refine BQ (λIU N7 MO=>?_) λMz N7 MO=>?_;let o5:List (PC P (G mx)):=o4++[pk,pk,Af (Z6 (CC MO) 0)];refine BQ (λUY Sd R4=>?_) λO9 Sd R4=>?_;refine BQ (λGK Lg Oq=>?_) λLf Lg Oq=>?_;refine Em ?_;rintro rfl rfl;exact Au Hd.Ab _ _ [⟨.agg [.zi 5,.zs ByteArray.empty,.zs ByteArray.empty,.zi CX.1,.zi Dd,.zi IU,.zi GK,.zi 0,.sl .full 0 [],.sl .full 0 [],.zi Aw.AF],.agg [.zi 5,.zs ByteArray.empty,.zs ByteArray.empty,.zi CX.1,.zi Dd,.zi IU,.zi GK,.zi 0,.sl .lost ([].length) (rows H7 []),.sl .lost ([].length) (Bd []),.zi Aw.AF],(.wn (.g (.r (.r (.r (.r (.r (.r (.r (.r (.z (.z (.r .nil))))))))))) .nil) (AB.CW (⟨5,ByteArray.empty,ByteArray.empty,CX.1,Dd,IU,GK,(⟨0,[]⟩:Fn),[],Aw.AF⟩:Nd)))⟩] [pW p Lg] (Ae 300 (o5++[Af (Hw (Aa R4) 0),Af (Z6 (CC Oq) 0)])) (by kernel_rfl) .body;refine Em ?_;rintro rfl rfl;exact Hs Lf p Lg (o5++[Af (Hw (Aa R4) 0),An (Z6 (CC Oq) 0)]) .body;refine Em ?_;rintro rfl rfl;exact Hs O9 p Sd (o5++[An (Hw (Aa R4) 0)]) .body;refine Em ?_;rintro rfl rfl;exact Hs Mz p N7 (o4++[pk,pk,An (Z6 (CC MO) 0)]) .body;subst hv;refine BQ (λWw YZ VT=>?_) λYY YZ VT=>?_;refine BQ (λJC Kr Pw=>?_) λYU Kr Pw=>?_;refine Em ?_;rintro rfl rfl;exact Au Hd.Ab _ _ [⟨.agg [.zi 5,.zs ByteArray.empty,.zs ByteArray.empty,.zi CX.1,.zi Dd,.zi 36525,.zi JC,.zi 0,.sl .full 0 [],.sl .full 0 [],.zi Aw.AF],.agg [.zi 5,.zs ByteArray.empty,.zs ByteArray.empty,.zi CX.1,.zi Dd,.zi 36525,.zi JC,.zi 0,.sl .lost ([].length) (rows H7 []),.sl .lost ([].length) (Bd []),.zi Aw.AF],(.wn (.g (.r (.r (.r (.r (.r (.r (.r (.r (.z (.z (.r .nil))))))))))) .nil) (AB.CW (⟨5,ByteArray.empty,ByteArray.empty,CX.1,Dd,36525,JC,(⟨0,[]⟩:Fn),[],Aw.AF⟩:Nd)))⟩] [pW p Kr] (Ae 300 (o4++[Af (Hw (Aa VT) 0),Af (Z6 (CC Pw) 0)])) (by kernel_rfl) .body;refine Em ?_;rintro rfl rfl;exact Hs YU p Kr (o4++[Af (Hw (Aa VT) 0),An (Z6 (CC Pw) 0)]) .body;refine Em ?_;rintro rfl rfl;exact Hs YY p YZ (o4++[An (Hw (Aa VT) 0)]) .body;refine Em ?_;rintro rfl rfl;exact Hs Ie p Jb (o3++[An (Z6 (CC JV) 0)]) .body;refine Em ?_;rintro rfl rfl;exact Hs Eo p Fb (o2++[An (Hw (Aa Gr) 0)]) .body;refine Em ?_;rintro rfl rfl;exact Hs GP p EA (o1++[An (ME (Al Ep) 0)]) .body;refine Em ?_;rintro rfl rfl;exact Hs CQ p Bh [An (Hw (Aa Ci) 0)] .body
def ana:Code:=Bj Tryz.f160
def anP:Tryz.f160.body=some ana:=by kernel_rfl
def DU(token:Tk):Option Bool:=cond (DZ token.kind 4) (some true) (some false)
def Oa{token:Tk}{yR:Bool}(h:DU  token=some yR):Pure P (G mx) 160 [.agg (Iq token)] (.zb yR):=by
 unfold DU at h;refine D7 Hd.mixed Hd.Ab (Ay Tryz.func160 anP ?_) (BE (D4.CW token) rfl) rfl;revert h;refine Ak (λBp=>?_) λBp=>?_;rintro⟨⟩;exact rT [pb Bp];rintro⟨⟩;exact rT [pb Bp]
def anb:Code:=Bj Tryz.f161
def anQ:Tryz.f161.body=some anb:=by kernel_rfl
def Cp(token:Tk):Option Int:=(Jw token.text aj5 ByteArray.empty 1).bind λy1=>(Rk y1).bind λ(I7,EA)=>some I7
def Oy{token:Tk}{yR:Int}(h:Cp  token=some yR):Pure P (G mx) 161 [.agg (Iq token)] (.zi yR):=by
 unfold Cp at h;refine D7 Hd.mixed Hd.Ab (Ay Tryz.func161 anQ ?_) (BE (D4.CW token) rfl) rfl;revert h;refine AA λy1 Ci=>?_;refine AA ?_;rintro⟨I7,EA⟩ Ep;dsimp only;rintro⟨⟩;exact rT [Be (dM Ci),Be (pN Ep)]
def ano:Code:=Bj Tryz.f228
def an5:Tryz.f228.body=some ano:=by kernel_rfl
def Da(token:Tk):Option Bool:=cond (DZ token.kind 4) (some true) (cond (DZ token.kind 3) (some true) (some false))
def NQ{token:Tk}{yR:Bool}(h:Da  token=some yR):Pure P (G mx) 228 [.agg (Iq token)] (.zb yR):=by
 unfold Da at h;refine D7 Hd.mixed Hd.Ab (Ay Tryz.func228 an5 ?_) (BE (D4.CW token) rfl) rfl;revert h;refine Ak (λBp=>?_) λBp=>?_;rintro⟨⟩;exact rT [pb Bp];refine Ak (λCF=>?_) λCF=>?_;rintro⟨⟩;exact rT [pb Bp,pb CF];rintro⟨⟩;exact rT [pb Bp,pb CF]
def Gv(p:Pr):Option ((Tk⊕Dg)×Int):=(AD p).bind λy1=>Sum.elim (λ(CI:Tk)=>(Da CI).bind λy2=>cond y2 (some ((Sum.inl CI:(Tk⊕Dg)),(BS p.JD 1))) (some ((Sum.inr (⟨71,CI.AF⟩:Dg):(Tk⊕Dg)),p.JD))) (λ(Lj:Dg)=>some ((Sum.inr Lj:(Tk⊕Dg)),p.JD)) y1
def Im{p:Pr}{yR:(Tk⊕Dg)}{Ah:Int}(h:Gv  p=some (yR,Ah)):pR mx 118 [.ptr 0 0,.fn (.func 228) [] []] p (II eT eD yR) Ah:=by
 unfold Gv at h;refine BX Hd.mixed (Ay Tryz.func118 bO ?_);revert h;refine AA λy1 Ci=>?_;refine Sy (λCI Lq=>?_) λLj Lq=>?_;subst Lq;refine AA λy2 Ep=>?_;let o1:List (PC P (G mx)):=[Af (Av (Ao Ci) 0),Be (NQ Ep)];refine Ak (λhv=>?_) λhv=>?_;subst hv;rintro⟨⟩;exact Au Hd.Ab _ _ [⟨.agg (Iq CI),.agg (Iq CI),(.plain (D4.CW CI))⟩] [pW p (BS p.JD 1)] (Ae 300 (o1++[pk])) (by kernel_rfl) .body;subst hv;rintro⟨⟩;exact BK Hd.Ab _ [⟨.E7 45 (.agg [.zi 71,.zi CI.AF]),.E7 45 (.agg [.zi 71,.zi CI.AF]),(.plain (Cj.CW (⟨71,CI.AF⟩:Dg)))⟩] [bp (CM.pl p)] (Ae 300 (o1++[An (As (Am (p:=p) (err:=71) (at_:=CI.AF) rfl) 0)])) (by kernel_rfl) .body;subst Lq;rintro⟨⟩;exact BK Hd.Ab _ [gD Lj] [bp (CM.pl p)] (Ae 300 [An (Av (Ao Ci) 0)]) (by kernel_rfl) .body
def anl:Code:=Bj Tryz.f214
def an1:Tryz.f214.body=some anl:=by kernel_rfl
def BP(p:Pr):Option (((Int×Int)⊕Dg)×Int):=(Gv p).bind λ(Ei,Bh)=>Sum.elim (λ(Aw:Tk)=>(Cp Aw).bind λy2=>cond (DZ Aw.kind 3) (cond (DZ y2 0) (some ((Sum.inl (y2,Aw.AF):((Int×Int)⊕Dg)),Bh)) (some ((Sum.inr (⟨3,Aw.AF⟩:Dg):((Int×Int)⊕Dg)),Bh))) (some ((Sum.inl (y2,Aw.AF):((Int×Int)⊕Dg)),Bh))) (λ(CQ:Dg)=>some ((Sum.inr CQ:((Int×Int)⊕Dg)),Bh)) Ei
def Bk{p:Pr}{yR:((Int×Int)⊕Dg)}{Ah:Int}(h:BP  p=some (yR,Ah)):pR mx 214 [.ptr 0 0] p (II eJ eD yR) Ah:=by
 unfold BP at h;refine BX Hd.mixed (Ay Tryz.func214 an1 ?_);revert h;refine BQ (λAw Bh Ci=>?_) λCQ Bh Ci=>?_;refine AA λy2 Ep=>?_;let o1:List (PC P (G mx)):=[Af (Hw (Im Ci) 0),Be (Oy Ep)];refine Ak (λBp=>?_) λBp=>?_;refine Ak (λCF=>?_) λCF=>?_;refine Em ?_;rintro rfl rfl;exact Au Hd.Ab _ _ [⟨.Dk [.zi y2,.zi Aw.AF],.Dk [.zi y2,.zi Aw.AF],(.plain (BE rfl (BE rfl rfl)))⟩] [pW p Bh] (Ae 300 (o1++[pb Bp,pn CF])) (by kernel_rfl) .body;refine Em ?_;rintro rfl rfl;exact BK Hd.Ab _ [⟨.E7 45 (.agg [.zi 3,.zi Aw.AF]),.E7 45 (.agg [.zi 3,.zi Aw.AF]),(.plain (Cj.CW (⟨3,Aw.AF⟩:Dg)))⟩] [pW p Bh] (Ae 300 (o1++[pb Bp,pn CF,An (As (Am (p:=(⟨p.Bq,Bh,p.DC⟩:Pr)) (err:=3) (at_:=Aw.AF) rfl) 0)])) (by kernel_rfl) .body;refine Em ?_;rintro rfl rfl;exact Au Hd.Ab _ _ [⟨.Dk [.zi y2,.zi Aw.AF],.Dk [.zi y2,.zi Aw.AF],(.plain (BE rfl (BE rfl rfl)))⟩] [pW p Bh] (Ae 300 (o1++[pb Bp])) (by kernel_rfl) .body;refine Em ?_;rintro rfl rfl;exact Hs CQ p Bh [An (Hw (Im Ci) 0)] .body
def anp:Code:=Bj Tryz.f229
def an6:Tryz.f229.body=some anp:=by kernel_rfl
def EH(token:Tk):Option Bool:=cond (BZ token.text.data.toList RI.data.toList) (some true) (cond (BZ token.text.data.toList M1.data.toList) (some true) (some false))
def Oc{token:Tk}{yR:Bool}(h:EH  token=some yR):Pure P (G mx) 229 [.agg (Iq token)] (.zb yR):=by
 unfold EH at h;refine D7 Hd.mixed Hd.Ab (Ay Tryz.func229 an6 ?_) (BE (D4.CW token) rfl) rfl;revert h;refine Ak (λBp=>?_) λBp=>?_;rintro⟨⟩;exact rT [pb Bp];refine Ak (λCF=>?_) λCF=>?_;rintro⟨⟩;exact rT [pb Bp,pb CF];rintro⟨⟩;exact rT [pb Bp,pb CF]
end Mo
end Go.Proofs.YtpbkhogolfegfaaGreatDoor
