/- Part of a proof: see the last text. -/
import Derived.Test.YtkfplcngmiljaaaGreatDoorUor
import Derived.Test.YtkfplcngmiljaaaGreatDoorCards
import Derived.Test.YtkfplcngmiljaaaGreatDoorTie
import Derived.Lib.LaidTab
import Derived.Lib.LaidIn
import Derived.Shelf.Vars
set_option linter.unusedVariables false
set_option linter.unusedSimpArgs false
namespace Go.Proofs.YtkfplcngmiljaaaGreatDoor
open AI Go Go.RowKit LexS
theorem chunks {α:Type} {V:α→List Value} {k:Nat}:∀ {l:List α} {cs:List Value},cs.length=l.length*k→(∀ y,(V y).length=k)→(∀ (i:Nat) y,l[i]?=some y→(cs.drop (i*k)).take k=V y)→cs=l.flatMap V
 | [],cs,h,_,_=>by
   simp only [List.length_nil,Nat.zero_mul] at h
   rw [List.eq_nil_of_length_eq_zero h];rfl
 | a::l,cs,h,hV,hc=>by
   have h0:=hc 0 a rfl
   rw [Nat.zero_mul,List.drop_zero] at h0
   have ih:=chunks (V:=V) (k:=k) (l:=l) (cs:=cs.drop k) (by rw [List.length_drop,h,List.length_cons,Nat.succ_mul];omega) hV fun i y hy=>by
     rw [List.drop_drop]
     have:=hc (i+1) y (by simpa using hy)
     rwa [Nat.succ_mul,Nat.add_comm] at this
   rw [List.flatMap_cons,← h0,← ih,List.take_append_drop]
theorem Ho {α H:Type} {enc:TypeId×Value→H} {P:Program} {w:World} {base:Nat} {sp:Nat→Bool} {held:Bool} {fuel:Nat} {t e:TypeId} {n k:Nat} {cs:List Value} {l:List α} {p:List MemPlace} (D:α→DataW H) (V:α→List Value) (hV:∀ y,(V y).length=k)
   (hread:∀ f c y q,DataW.trod enc P w base sp held f e c=some (D y,q)→c=V y)
   (ht:P.underlying t=some (.array n e)) (hce:P.cellsOf e=k) (hct:P.cellsOf t=n*k) (h:DataW.trod enc P w base sp held fuel t cs=some (.agg (l.map D),p)):cs=l.flatMap V:=by
 obtain ⟨xs,m,_,hx,hl,hxl,hat⟩:=DataW.trod_array ht h
 have hd:l.map D=xs.map (·.1):=by
   have:=congrArg Prod.fst hx
   simpa using this
 have hll:l.length=n:=by
   have:=congrArg List.length hd
   simp at this
   omega
 rw [hct] at hl
 rw [hce] at hat
 refine chunks (by rw [hl,hll]) hV fun i y hy=>?_
 have hi:i < n:=by have:=(List.getElem?_eq_some_iff.1 hy).1;omega
 have h2:=hat i hi
 have hxi:xs[i]?=some xs[i]:=List.getElem?_eq_getElem (by omega)
 rw [hxi] at h2
 have h3:(l.map D)[i]?=(xs.map (·.1))[i]?:=by rw [hd]
 rw [List.getElem?_map,List.getElem?_map,hy,hxi] at h3
 simp only [Option.map_some,Option.some.injEq] at h3
 refine hread m _ y xs[i].2 ?_
 rw [h2,h3]
theorem Mx {H:Type} {enc:TypeId×Value→H} {w:World} {base:Nat} {sp:Nat→Bool} {held:Bool} (f:Nat) (c:List Value) (y:List UInt8) (q:List MemPlace) (hh:DataW.trod enc Tryz.prog w base sp held f 9 c=some (.lit (.string y),q)):c=[.string ⟨y.toArray⟩]:=by
 obtain ⟨z,hc,hz,_⟩:=DataW.trod_string Tryz.underlying9 hh
 simp only [Prod.mk.injEq,DataW.lit.injEq,Lit.string.injEq] at hz
 rw [hc,hz.1]
theorem IW {W:World} {n:String} {g:Nat} {cs:Array Value} (hg:Tryz.prog.globalNamed n=some g) (h:W.var? Tryz.prog n=some cs):∃ t fr,W.heap[g]?=some (.cells cs t fr):=by
 unfold World.var? at h
 rw [hg] at h
 simp only [Option.bind_some] at h
 split at h
 · rename_i c t fr hh
   injection h with h
   subst h
   exact ⟨t,fr,hh⟩
 · cases h
theorem gB:Tryz.prog.globalNamed "wageoffice/calendar.before"=some 6:=by kernel_rfl
theorem gC:Tryz.prog.globalNamed "wageoffice/lexer.classes"=some 2:=by kernel_rfl
theorem gS:Tryz.prog.globalNamed "wageoffice/lexer.symbols"=some 0:=by kernel_rfl
theorem gO:Tryz.prog.globalNamed "wageoffice/parser.operators"=some 3:=by kernel_rfl
theorem gR:Tryz.prog.globalNamed "wageoffice/parser.roles"=some 1:=by kernel_rfl
theorem gBT:(Tryz.prog.globals[(6:Nat)]?).map (·.type)=some 195:=by kernel_rfl
theorem gCT:(Tryz.prog.globals[(2:Nat)]?).map (·.type)=some 149:=by kernel_rfl
theorem gST:(Tryz.prog.globals[(0:Nat)]?).map (·.type)=some 142:=by kernel_rfl
theorem yU:(Tryz.prog.globals[(3:Nat)]?).map (·.type)=some 160:=by kernel_rfl
theorem gRT:(Tryz.prog.globals[(1:Nat)]?).map (·.type)=some 143:=by kernel_rfl
theorem zI:Tryz.prog.cellsOf 3=1:=by kernel_rfl
theorem zU:Tryz.prog.cellsOf 5=1:=by kernel_rfl
theorem zS:Tryz.prog.cellsOf 9=1:=by kernel_rfl
theorem zB:Tryz.prog.cellsOf 195=13*1:=by kernel_rfl
theorem zC:Tryz.prog.cellsOf 149=128*1:=by kernel_rfl
theorem zY:Tryz.prog.cellsOf 142=17*1:=by kernel_rfl
theorem z6:Tryz.prog.cellsOf 159=6*1:=by kernel_rfl
theorem zO:Tryz.prog.cellsOf 160=6*6:=by kernel_rfl
theorem zR:Tryz.prog.cellsOf 143=5*1:=by kernel_rfl
def qG:List Int:=[0,31,59,90,120,151,181,212,243,273,304,334,365]
def n7:List (List UInt8):=[[],[101,97,114,110],[100,101,100,117,99,116],[102,108,111,111,114],[105,110,102,111]]
def opsL:List (List (List UInt8)):=[[[111,114],[],[],[],[],[]],[[97,110,100],[],[],[],[],[]],[[],[],[],[],[],[]],[[61,61],[33,61],[60],[60,61],[62],[62,61]],[[43],[45],[],[],[],[]],[[42],[47],[97,116],[],[],[]]]
abbrev Pz (y:List UInt8):DataW Unit:=.lit (.string y)
theorem u4:(Rows.laid_wageoffice_calendar_before:DataW Unit)=.agg (qG.map fun z=>.lit (.int .i64 z)):=by rfl
theorem uZ:(Rows.laid_wageoffice_lexer_classes:DataW Unit)=.agg ((List.range 128).map fun i=>.lit (.int .u8 (KU i:Nat))):=by rfl
theorem uA:(Rows.laid_wageoffice_lexer_symbols:DataW Unit)=.agg (C0.map Pz):=by rfl
theorem uB:(Rows.laid_wageoffice_parser_operators:DataW Unit)=.agg (opsL.map fun l=>.agg (l.map Pz)):=by rfl
theorem uW:(Rows.laid_wageoffice_parser_roles:DataW Unit)=.agg (n7.map Pz):=by rfl
theorem uF:((begin Tryz.prog (fun _ _=>0) default).world.heap[(7:Nat)]?).bind Obj.row?=some (#[.int .i64 0],3):=by kernel_rfl
theorem jE {W:World} (h:W.ShapedOpen Tryz.prog):∃ m,W.cell? ⟨7,0,none⟩=some (.int .i64 m):=by
 obtain ⟨m,hm⟩:=cell_of_shapedOpen_int h (g:=7) (by decide +kernel) uF rfl (by kernel_rfl) (by kernel_rfl) Tryz.underlying3
 exact ⟨m,hm⟩
theorem L9 (c:Cx) (w:World):∀ l:List (List UInt8),A6 c w (l.map Ab) (l.flatMap fun y=>[.string ⟨y.toArray⟩])
 | []=>.nil
 | _::l=>.cons (.sc rfl) (L9 c w l)
theorem TD (c:Cx) (w:World):∀ l:List Int,A6 c w (l.map HdU.int) (l.flatMap fun y=>[.int .i64 y])
 | []=>.nil
 | _::l=>.cons (.sc rfl) (TD c w l)
theorem VO (c:Cx) (w:World):∀ l:List Nat,A6 c w (l.map fun i=>.sc (.int .u8 (KU i:Nat))) (l.flatMap fun i=>[.int .u8 (KU i:Nat)])
 | []=>.nil
 | _::l=>.cons (.sc rfl) (VO c w l)
theorem Q5 (c:Cx) (w:World):∀ l:List (List (List UInt8)),A6 c w (l.flatMap fun y=>y.map Ab) (l.flatMap fun y=>y.flatMap fun z=>[.string ⟨z.toArray⟩])
 | []=>.nil
 | a::l=>(L9 c w a).append (Q5 c w l)
theorem Nk {W:World} {g:Nat} {l:List AV} {cs:Array Value} (h:∃ t fr,W.heap[g]?=some (.cells cs t fr)) (hr:A6 (Mo.K2 W) W l cs.toList):AA (Mo.K2 W) W g 0 l:=by
 obtain ⟨t,fr,h⟩:=h
 refine AA.GV hr fun i v hi=>Mo.fI ?_
 rw [Nat.zero_add,cell_of_row W g i cs t fr h]
 rwa [Array.getElem?_toList] at hi
theorem SU {W:World} (h:laidMetH Tryz.prog Rows.unitsOperandsRow.laid W) (hsh:W.ShapedOpen Tryz.prog):∃ mx,St (HdU.G mx) (Mo.K2 W) W s0:=by
 have h:laidMet Tryz.prog [("math/bits.deBruijn32tab",Rows.laid_math_bits_deBruijn32tab),("math/bits.deBruijn64tab",Rows.laid_math_bits_deBruijn64tab),("internal/strconv.uint64pow10",Rows.laid_internal_strconv_uint64pow10),("unicode/utf8.acceptRanges",Rows.laid_unicode_utf8_acceptRanges),("strconv.ErrRange",Rows.laid_strconv_ErrRange),("strconv.ErrSyntax",Rows.laid_strconv_ErrSyntax),("wageoffice/calendar.before",Rows.laid_wageoffice_calendar_before),("wageoffice/lexer.classes",Rows.laid_wageoffice_lexer_classes),("wageoffice/lexer.symbols",Rows.laid_wageoffice_lexer_symbols),("wageoffice/parser.operators",Rows.laid_wageoffice_parser_operators),("wageoffice/parser.roles",Rows.laid_wageoffice_parser_roles),("unicode/utf8.first",Rows.laid_unicode_utf8_first)] W:=h
 obtain ⟨ps,⟨_,_,_,_,_,_,_,_,_,_,⟨_,_,_,_,_,_,_,_,_,_,⟨_,_,_,_,_,_,_,_,_,_,⟨_,_,_,_,_,_,_,_,_,_,⟨_,_,_,_,_,_,_,_,_,_,⟨_,_,_,_,_,_,_,_,_,_,⟨g7,t7,cs7,f7,p7,q7,hg7,ht7,hv7,hd7,⟨g8,t8,cs8,f8,p8,q8,hg8,ht8,hv8,hd8,⟨g9,t9,cs9,f9,p9,q9,hg9,ht9,hv9,hd9,⟨g10,t10,cs10,f10,p10,q10,hg10,ht10,hv10,hd10,⟨g11,t11,cs11,f11,p11,q11,hg11,ht11,hv11,hd11,_⟩,_⟩,_⟩,_⟩,_⟩,_⟩,_⟩,_⟩,_⟩,_⟩,_⟩,_⟩:=h
 obtain rfl:=Option.some.inj (gB.symm.trans hg7)
 obtain rfl:=Option.some.inj (gC.symm.trans hg8)
 obtain rfl:=Option.some.inj (gS.symm.trans hg9)
 obtain rfl:=Option.some.inj (gO.symm.trans hg10)
 obtain rfl:=Option.some.inj (gR.symm.trans hg11)
 obtain rfl:=Option.some.inj (gBT.symm.trans ht7)
 obtain rfl:=Option.some.inj (gCT.symm.trans ht8)
 obtain rfl:=Option.some.inj (gST.symm.trans ht9)
 obtain rfl:=Option.some.inj (yU.symm.trans ht10)
 obtain rfl:=Option.some.inj (gRT.symm.trans ht11)
 rw [u4] at hd7
 rw [uZ] at hd8
 rw [uA] at hd9
 rw [uB] at hd10
 rw [uW] at hd11
 have e7:=Ho (k:=1) (fun z:Int=>(DataW.lit (.int .i64 z):DataW Unit)) (fun z=>[.int .i64 z]) (fun _=>rfl)
   (fun f c y q hh=>by obtain ⟨z,hc,hz,_⟩:=DataW.trod_int Tryz.underlying3 hh;simp only [Prod.mk.injEq,DataW.lit.injEq,Lit.int.injEq,true_and] at hz;rw [hc,hz.1]) Tryz.underlying195 zI zB hd7
 have e8:=Ho (k:=1) (fun i:Nat=>(DataW.lit (.int .u8 (KU i:Nat)):DataW Unit)) (fun i=>[.int .u8 (KU i:Nat)]) (fun _=>rfl)
   (fun f c y q hh=>by obtain ⟨z,hc,hz,_⟩:=DataW.trod_int Tryz.underlying5 hh;simp only [Prod.mk.injEq,DataW.lit.injEq,Lit.int.injEq,true_and] at hz;rw [hc,hz.1]) Tryz.underlying149 zU zC hd8
 have e9:=Ho (k:=1) Pz (fun y=>[.string ⟨y.toArray⟩]) (fun _=>rfl) Mx Tryz.underlying142 zS zY hd9
 have sM:=Ho (k:=1) Pz (fun y=>[.string ⟨y.toArray⟩]) (fun _=>rfl) Mx Tryz.underlying143 zS zR hd11
 have nH:cs10.toList=opsL.flatMap fun y=>y.flatMap fun z=>[.string ⟨z.toArray⟩]:=by
   obtain ⟨xs,m,_,hx,hl,hxl,hat⟩:=DataW.trod_array Tryz.underlying160 hd10
   have hd:(opsL.map fun l=>(DataW.agg (l.map Pz):DataW Unit))=xs.map (·.1):=by
     have:=congrArg Prod.fst hx
     simpa using this
   rw [zO] at hl
   rw [z6] at hat
   have len6:∀ y∈opsL,(y.flatMap fun z=>[(Value.string ⟨z.toArray⟩:Value)]).length=6:=by decide
   have hget:∀ (i:Nat) y,opsL[i]?=some y→(cs10.toList.drop (i*6)).take 6=y.flatMap fun z=>[.string ⟨z.toArray⟩]:=by
     intro i y hy
     have hi:i < 6:=(List.getElem?_eq_some_iff.1 hy).1
     have h2:=hat i hi
     have hxi:xs[i]?=some xs[i]:=List.getElem?_eq_getElem (by omega)
     rw [hxi] at h2
     have h3:(opsL.map fun l=>(DataW.agg (l.map Pz):DataW Unit))[i]?=(xs.map (·.1))[i]?:=by rw [hd]
     rw [List.getElem?_map,List.getElem?_map,hy,hxi] at h3
     simp only [Option.map_some,Option.some.injEq] at h3
     have h4:xs[i]=(.agg (y.map Pz),xs[i].2):=Prod.ext h3.symm rfl
     rw [h4] at h2
     exact Ho (k:=1) Pz (fun y=>[.string ⟨y.toArray⟩]) (fun _=>rfl) Mx Tryz.underlying159 zS z6 h2
   have l6:∀ {l:List (List (List UInt8))} {cs:List Value},(∀ y∈l,(y.flatMap fun z=>[(Value.string ⟨z.toArray⟩:Value)]).length=6)→cs.length=l.length*6→(∀ (i:Nat) y,l[i]?=some y→(cs.drop (i*6)).take 6=y.flatMap fun z=>[.string ⟨z.toArray⟩])→cs=l.flatMap fun y=>y.flatMap fun z=>[.string ⟨z.toArray⟩]:=by
     intro l
     induction l with
     | nil=>intro cs _ h _;exact List.eq_nil_of_length_eq_zero (by simpa using h)
     | cons a l ih =>
       intro cs hq h hc
       have h0:=hc 0 a rfl
       rw [Nat.zero_mul,List.drop_zero] at h0
       have:=ih (cs:=cs.drop 6) (fun y hy=>hq y (by simp [hy])) (by rw [List.length_drop,h,List.length_cons,Nat.succ_mul];omega) fun i y hy=>by
         rw [List.drop_drop]
         have:=hc (i+1) y (by simpa using hy)
         rwa [Nat.succ_mul,Nat.add_comm] at this
       rw [List.flatMap_cons,← h0,← this,List.take_append_drop]
   exact l6 len6 (by rw [hl];rfl) hget
 obtain ⟨mx,hm⟩:=jE hsh
 have hst:=Mo.stW W
 refine ⟨mx,hst.len,hst.desc,hst.nodup,hst.low,hst.box,hst.rlen,hst.row,hst.rfree,hst.plow,hst.blow,hst.rdist,fun g cs h=>?_,hst.bsz⟩
 unfold HdU.G at h
 split at h
 · rename_i hg;cases h;rw [beq_true hg]
   exact Nk (IW gO hv10) (by rw [nH];exact Q5 _ _ opsL)
 · split at h
   · rename_i hg;cases h;rw [beq_true hg]
     exact Nk (IW gR hv11) (by rw [sM];exact L9 _ _ n7)
   · split at h
     · rename_i hg;cases h;rw [beq_true hg]
       exact Nk (IW gB hv7) (by rw [e7];exact TD _ _ qG)
     · split at h
       · rename_i hg;cases h;rw [beq_true hg]
         exact Nk (IW gC hv8) (by rw [e8];exact VO _ _ _)
       · split at h
         · rename_i hg;cases h;rw [beq_true hg]
           exact Nk (IW gS hv9) (by rw [e9];exact L9 _ _ _)
         · split at h
           · rename_i hg;cases h;rw [beq_true hg]
             exact .cons (Mo.fI hm) (.sc rfl) .nil
           · cases h
theorem Sb {mx:Int} {f:FuncId} {args:List AV} {vs:List Value} {W:World} (hst:St (HdU.G mx) (Mo.K2 W) W s0) (h:Pure Tryz.prog (HdU.G mx) f args (.sc (.bool true))) (ha:A6 (Mo.K2 W) W args vs):Calls Tryz.prog f vs.toArray W fun e W'=>e=.returned (.bool true)∧Below W.heap.size W W':=by
 refine (h s0 (Mo.K2 W) W vs hst ha).mono ?_
 rintro e w' ⟨c',hx,_,u,rfl,hu⟩
 cases hu
 exact ⟨rfl,hx.below⟩
def mP:DataW Unit→List Value
 | .lit l=>[l.value]
 | _=>[]
def r6:DataW Unit→List Value
 | .agg l=>l.flatMap mP
 | d=>mP d
def Jv:DataW Unit→Array Value
 | .agg l=>(l.flatMap r6).toArray
 | d=>(mP d).toArray
def putCells (cs:Array Value):Obj→Obj
 | .cells _ t frozen=>.cells cs t frozen
 | o=>o
noncomputable def low:Nat:=(World.holding Tryz.prog default ⟨#[],#[],[]⟩).heap.size
abbrev rA:ByteArray:={ data:=#[118,97,108,117,101,32,111,117,116,32,111,102,32,114,97,110,103,101] }
abbrev sF:ByteArray:={ data:=#[105,110,118,97,108,105,100,32,115,121,110,116,97,120] }
noncomputable def K0 (os:Os):World :=
 let w0:=World.holding Tryz.prog os ⟨#[.cells #[.string rA] 207,.cells #[.string sF] 207],#[],[]⟩
 { w0 with heap:=((((((((((((w0.heap.modify 11 (putCells (Jv Rows.laid_math_bits_deBruijn32tab))).modify
     12 (putCells (Jv Rows.laid_math_bits_deBruijn64tab))).modify
     10 (putCells (Jv Rows.laid_internal_strconv_uint64pow10))).modify
     9 (putCells (Jv Rows.laid_unicode_utf8_acceptRanges))).modify
     5 (putCells #[.iface 205 (.pointer (some ⟨low,0,none⟩))])).modify
     4 (putCells #[.iface 205 (.pointer (some ⟨low+1,0,none⟩))])).modify
     6 (putCells (Jv Rows.laid_wageoffice_calendar_before))).modify
     2 (putCells (Jv Rows.laid_wageoffice_lexer_classes))).modify
     0 (putCells (Jv Rows.laid_wageoffice_lexer_symbols))).modify
     3 (putCells (Jv Rows.laid_wageoffice_parser_operators))).modify
     1 (putCells (Jv Rows.laid_wageoffice_parser_roles))).modify
     8 (putCells (Jv Rows.laid_unicode_utf8_first))) }
theorem WB (os:Os) (args:Array Value):laidMet Tryz.prog Rows.unitsOperandsRow.laid ((K0 os).forCall (fun _ _=>0) ⟨#[],args,[]⟩).memory :=
 laidMet_of_run3 8 (by kernel_rfl) (by kernel_rfl) (by kernel_rfl)
end Go.Proofs.YtkfplcngmiljaaaGreatDoor
namespace Go.Proofs.YtkfplcngmiljaaaGreatDoor
open AI
set_option maxRecDepth 100000
set_option maxHeartbeats 4000000
def k0:AV:=Ab [102,97,99,116,32,104,111,117,114,115,32,58,32,109,105,110,117,116,101,115,59,32,102,97,99,116,32,114,97,116,101,32,58,32,69,85,82,59,32,102,97,99,116,32,109,97,114,114,105,101,100,32,58,32,116,114,117,116,104,59,32,108,105,110,101,32,98,97,115,105,99,32,58,32,69,85,82,32,101,97,114,110,59,32,97,114,116,105,99,108,101,32,49,32,102,111,114,32,98,97,115,105,99,32,114,97,110,107,32,49,32,102,114,111,109,32,50,48,50,52,45,48,49,45,48,49,32,107,110,111,119,110,32,50,48,50,52,45,48,49,45,48,49,32,123,32,97,109,111,117,110,116,32,69,85,82,32,49,46,48,48,59,32,125]
def k1:AV:=Ab [109,105,110,117,116,101,115]
def k2:AV:=Ab [109,97,114,114,105,101,100]
def k3:AV:=Ab [97,114,116,105,99,108,101]
def k4:AV:=Ab [50,48,50,52,45,48,49,45,48,49]
def k5:AV:=.sl .lost 37 [(.sc (.int .i64 (.ofNat 1))),(Ab [102,97,99,116]),(.sc (.int .i64 (.ofNat 0))),(.sc (.int .i64 (.ofNat 1))),(Ab [104,111,117,114,115]),(.sc (.int .i64 (.ofNat 5))),(.sc (.int .i64 (.ofNat 6))),(Ab [58]),(.sc (.int .i64 (.ofNat 11))),(.sc (.int .i64 (.ofNat 1))),k1,(.sc (.int .i64 (.ofNat 13))),(.sc (.int .i64 (.ofNat 6))),(Ab [59]),(.sc (.int .i64 (.ofNat 20))),(.sc (.int .i64 (.ofNat 1))),(Ab [102,97,99,116]),(.sc (.int .i64 (.ofNat 22))),(.sc (.int .i64 (.ofNat 1))),(Ab [114,97,116,101]),(.sc (.int .i64 (.ofNat 27))),(.sc (.int .i64 (.ofNat 6))),(Ab [58]),(.sc (.int .i64 (.ofNat 32))),(.sc (.int .i64 (.ofNat 2))),(Ab [69,85,82]),(.sc (.int .i64 (.ofNat 34))),(.sc (.int .i64 (.ofNat 6))),(Ab [59]),(.sc (.int .i64 (.ofNat 37))),(.sc (.int .i64 (.ofNat 1))),(Ab [102,97,99,116]),(.sc (.int .i64 (.ofNat 39))),(.sc (.int .i64 (.ofNat 1))),k2,(.sc (.int .i64 (.ofNat 44))),(.sc (.int .i64 (.ofNat 6))),(Ab [58]),(.sc (.int .i64 (.ofNat 52))),(.sc (.int .i64 (.ofNat 1))),(Ab [116,114,117,116,104]),(.sc (.int .i64 (.ofNat 54))),(.sc (.int .i64 (.ofNat 6))),(Ab [59]),(.sc (.int .i64 (.ofNat 59))),(.sc (.int .i64 (.ofNat 1))),(Ab [108,105,110,101]),(.sc (.int .i64 (.ofNat 61))),(.sc (.int .i64 (.ofNat 1))),(Ab [98,97,115,105,99]),(.sc (.int .i64 (.ofNat 66))),(.sc (.int .i64 (.ofNat 6))),(Ab [58]),(.sc (.int .i64 (.ofNat 72))),(.sc (.int .i64 (.ofNat 2))),(Ab [69,85,82]),(.sc (.int .i64 (.ofNat 74))),(.sc (.int .i64 (.ofNat 1))),(Ab [101,97,114,110]),(.sc (.int .i64 (.ofNat 78))),(.sc (.int .i64 (.ofNat 6))),(Ab [59]),(.sc (.int .i64 (.ofNat 82))),(.sc (.int .i64 (.ofNat 1))),k3,(.sc (.int .i64 (.ofNat 84))),(.sc (.int .i64 (.ofNat 3))),(Ab [49]),(.sc (.int .i64 (.ofNat 92))),(.sc (.int .i64 (.ofNat 1))),(Ab [102,111,114]),(.sc (.int .i64 (.ofNat 94))),(.sc (.int .i64 (.ofNat 1))),(Ab [98,97,115,105,99]),(.sc (.int .i64 (.ofNat 98))),(.sc (.int .i64 (.ofNat 1))),(Ab [114,97,110,107]),(.sc (.int .i64 (.ofNat 104))),(.sc (.int .i64 (.ofNat 3))),(Ab [49]),(.sc (.int .i64 (.ofNat 109))),(.sc (.int .i64 (.ofNat 1))),(Ab [102,114,111,109]),(.sc (.int .i64 (.ofNat 111))),(.sc (.int .i64 (.ofNat 5))),k4,(.sc (.int .i64 (.ofNat 116))),(.sc (.int .i64 (.ofNat 1))),(Ab [107,110,111,119,110]),(.sc (.int .i64 (.ofNat 127))),(.sc (.int .i64 (.ofNat 5))),k4,(.sc (.int .i64 (.ofNat 133))),(.sc (.int .i64 (.ofNat 6))),(Ab [123]),(.sc (.int .i64 (.ofNat 144))),(.sc (.int .i64 (.ofNat 1))),(Ab [97,109,111,117,110,116]),(.sc (.int .i64 (.ofNat 146))),(.sc (.int .i64 (.ofNat 2))),(Ab [69,85,82]),(.sc (.int .i64 (.ofNat 153))),(.sc (.int .i64 (.ofNat 4))),(Ab [49,46,48,48]),(.sc (.int .i64 (.ofNat 157))),(.sc (.int .i64 (.ofNat 6))),(Ab [59]),(.sc (.int .i64 (.ofNat 161))),(.sc (.int .i64 (.ofNat 6))),(Ab [125]),(.sc (.int .i64 (.ofNat 163)))]
def k6:AV:=Ab [104,111,117,114,115,32,97,116,32,114,97,116,101,32,43,32,97,114,116,32,49]
def k7:AV:=.sl .lost 6 [(.sc (.int .i64 (.ofNat 1))),(Ab [104,111,117,114,115]),(.sc (.int .i64 (.ofNat 0))),(.sc (.int .i64 (.ofNat 1))),(Ab [97,116]),(.sc (.int .i64 (.ofNat 6))),(.sc (.int .i64 (.ofNat 1))),(Ab [114,97,116,101]),(.sc (.int .i64 (.ofNat 9))),(.sc (.int .i64 (.ofNat 6))),(Ab [43]),(.sc (.int .i64 (.ofNat 14))),(.sc (.int .i64 (.ofNat 1))),(Ab [97,114,116]),(.sc (.int .i64 (.ofNat 16))),(.sc (.int .i64 (.ofNat 3))),(Ab [49]),(.sc (.int .i64 (.ofNat 20)))]
def k8:AV:=Ab [104,111,117,114,115,32,62,32,56,32,109,105,110,32,97,110,100,32,109,97,114,114,105,101,100]
def k9:AV:=.sl .lost 6 [(.sc (.int .i64 (.ofNat 1))),(Ab [104,111,117,114,115]),(.sc (.int .i64 (.ofNat 0))),(.sc (.int .i64 (.ofNat 6))),(Ab [62]),(.sc (.int .i64 (.ofNat 6))),(.sc (.int .i64 (.ofNat 3))),(Ab [56]),(.sc (.int .i64 (.ofNat 8))),(.sc (.int .i64 (.ofNat 1))),(Ab [109,105,110]),(.sc (.int .i64 (.ofNat 10))),(.sc (.int .i64 (.ofNat 1))),(Ab [97,110,100]),(.sc (.int .i64 (.ofNat 14))),(.sc (.int .i64 (.ofNat 1))),k2,(.sc (.int .i64 (.ofNat 18)))]
def uX:AV:=Ab [110,111,116,32,109,97,114,114,105,101,100,32,61,61,32,116,114,117,101]
def jC:AV:=.sl .lost 4 [(.sc (.int .i64 (.ofNat 1))),(Ab [110,111,116]),(.sc (.int .i64 (.ofNat 0))),(.sc (.int .i64 (.ofNat 1))),k2,(.sc (.int .i64 (.ofNat 4))),(.sc (.int .i64 (.ofNat 6))),(Ab [61,61]),(.sc (.int .i64 (.ofNat 12))),(.sc (.int .i64 (.ofNat 1))),(Ab [116,114,117,101]),(.sc (.int .i64 (.ofNat 15)))]
def iI:AV:=Ab [114,97,116,101,32,42,32,51,32,47,32,49,48,48]
def lS:AV:=.sl .lost 5 [(.sc (.int .i64 (.ofNat 1))),(Ab [114,97,116,101]),(.sc (.int .i64 (.ofNat 0))),(.sc (.int .i64 (.ofNat 6))),(Ab [42]),(.sc (.int .i64 (.ofNat 5))),(.sc (.int .i64 (.ofNat 3))),(Ab [51]),(.sc (.int .i64 (.ofNat 7))),(.sc (.int .i64 (.ofNat 6))),(Ab [47]),(.sc (.int .i64 (.ofNat 9))),(.sc (.int .i64 (.ofNat 3))),(Ab [49,48,48]),(.sc (.int .i64 (.ofNat 11)))]
def kD:AV:=Ab [50,32,42,32,104,111,117,114,115]
def kR:AV:=.sl .lost 3 [(.sc (.int .i64 (.ofNat 3))),(Ab [50]),(.sc (.int .i64 (.ofNat 0))),(.sc (.int .i64 (.ofNat 6))),(Ab [42]),(.sc (.int .i64 (.ofNat 2))),(.sc (.int .i64 (.ofNat 1))),(Ab [104,111,117,114,115]),(.sc (.int .i64 (.ofNat 4)))]
def YI:AV:=Ab [114,97,116,101,32,42,32,114,97,116,101]
def hO:AV:=.sl .lost 3 [(.sc (.int .i64 (.ofNat 1))),(Ab [114,97,116,101]),(.sc (.int .i64 (.ofNat 0))),(.sc (.int .i64 (.ofNat 6))),(Ab [42]),(.sc (.int .i64 (.ofNat 5))),(.sc (.int .i64 (.ofNat 1))),(Ab [114,97,116,101]),(.sc (.int .i64 (.ofNat 7)))]
def iC:AV:=Ab [104,111,117,114,115,32,43,32,49]
def tJ:AV:=.sl .lost 3 [(.sc (.int .i64 (.ofNat 1))),(Ab [104,111,117,114,115]),(.sc (.int .i64 (.ofNat 0))),(.sc (.int .i64 (.ofNat 6))),(Ab [43]),(.sc (.int .i64 (.ofNat 6))),(.sc (.int .i64 (.ofNat 3))),(Ab [49]),(.sc (.int .i64 (.ofNat 8)))]
def uM:AV:=.sl .lost 3 [(.sc (.int .i64 (.ofNat 1))),(Ab [120]),(.sc (.int .i64 (.ofNat 0))),(.sc (.int .i64 (.ofNat 6))),(Ab [43]),(.sc (.int .i64 (.ofNat 2))),(.sc (.int .i64 (.ofNat 3))),(Ab [49]),(.sc (.int .i64 (.ofNat 4)))]
def vB:AV:=Ab [116,97,98,108,101,40,104,111,117,114,115,59,32,48,32,58,32,48,32,43,32,49,47,49,48,41]
def tG:AV:=.sl .lost 12 [(.sc (.int .i64 (.ofNat 1))),(Ab [116,97,98,108,101]),(.sc (.int .i64 (.ofNat 0))),(.sc (.int .i64 (.ofNat 6))),(Ab [40]),(.sc (.int .i64 (.ofNat 5))),(.sc (.int .i64 (.ofNat 1))),(Ab [104,111,117,114,115]),(.sc (.int .i64 (.ofNat 6))),(.sc (.int .i64 (.ofNat 6))),(Ab [59]),(.sc (.int .i64 (.ofNat 11))),(.sc (.int .i64 (.ofNat 3))),(Ab [48]),(.sc (.int .i64 (.ofNat 13))),(.sc (.int .i64 (.ofNat 6))),(Ab [58]),(.sc (.int .i64 (.ofNat 15))),(.sc (.int .i64 (.ofNat 3))),(Ab [48]),(.sc (.int .i64 (.ofNat 17))),(.sc (.int .i64 (.ofNat 6))),(Ab [43]),(.sc (.int .i64 (.ofNat 19))),(.sc (.int .i64 (.ofNat 3))),(Ab [49]),(.sc (.int .i64 (.ofNat 21))),(.sc (.int .i64 (.ofNat 6))),(Ab [47]),(.sc (.int .i64 (.ofNat 22))),(.sc (.int .i64 (.ofNat 3))),(Ab [49,48]),(.sc (.int .i64 (.ofNat 23))),(.sc (.int .i64 (.ofNat 6))),(Ab [41]),(.sc (.int .i64 (.ofNat 25)))]
def tC:AV:=Ab [108,101,97,115,116,40,114,97,116,101,44,32,69,85,82,32,49,46,48,48,41]
def tI:AV:=.sl .lost 7 [(.sc (.int .i64 (.ofNat 1))),(Ab [108,101,97,115,116]),(.sc (.int .i64 (.ofNat 0))),(.sc (.int .i64 (.ofNat 6))),(Ab [40]),(.sc (.int .i64 (.ofNat 5))),(.sc (.int .i64 (.ofNat 1))),(Ab [114,97,116,101]),(.sc (.int .i64 (.ofNat 6))),(.sc (.int .i64 (.ofNat 6))),(Ab [44]),(.sc (.int .i64 (.ofNat 10))),(.sc (.int .i64 (.ofNat 2))),(Ab [69,85,82]),(.sc (.int .i64 (.ofNat 12))),(.sc (.int .i64 (.ofNat 4))),(Ab [49,46,48,48]),(.sc (.int .i64 (.ofNat 16))),(.sc (.int .i64 (.ofNat 6))),(Ab [41]),(.sc (.int .i64 (.ofNat 20)))]
def yL:AV:=Ab [102,97,99,116,32,104,111,117,114,115,32,58,32,109,105,110,117,116,101,115,59,32,102,97,99,116,32,114,97,116,101,32,58,32,69,85,82,59,32,102,97,99,116,32,109,97,114,114,105,101,100,32,58,32,116,114,117,116,104,59,32,108,105,110,101,32,98,97,115,105,99,32,58,32,69,85,82,32,101,97,114,110,59,32,97,114,116,105,99,108,101,32,49,32,102,111,114,32,98,97,115,105,99,32,114,97,110,107,32,49,32,102,114,111,109,32,50,48,50,52,45,48,49,45,48,49,32,107,110,111,119,110,32,50,48,50,52,45,48,49,45,48,49,32,123,32,97,109,111,117,110,116,32,69,85,82,32,49,46,48,48,59,32,125,32,108,105,110,101,32,98,97,115,105,99,32,58,32,110,117,109,98,101,114,32,105,110,102,111,59]
def IE:AV:=.sl .lost 43 [(.sc (.int .i64 (.ofNat 1))),(Ab [102,97,99,116]),(.sc (.int .i64 (.ofNat 0))),(.sc (.int .i64 (.ofNat 1))),(Ab [104,111,117,114,115]),(.sc (.int .i64 (.ofNat 5))),(.sc (.int .i64 (.ofNat 6))),(Ab [58]),(.sc (.int .i64 (.ofNat 11))),(.sc (.int .i64 (.ofNat 1))),k1,(.sc (.int .i64 (.ofNat 13))),(.sc (.int .i64 (.ofNat 6))),(Ab [59]),(.sc (.int .i64 (.ofNat 20))),(.sc (.int .i64 (.ofNat 1))),(Ab [102,97,99,116]),(.sc (.int .i64 (.ofNat 22))),(.sc (.int .i64 (.ofNat 1))),(Ab [114,97,116,101]),(.sc (.int .i64 (.ofNat 27))),(.sc (.int .i64 (.ofNat 6))),(Ab [58]),(.sc (.int .i64 (.ofNat 32))),(.sc (.int .i64 (.ofNat 2))),(Ab [69,85,82]),(.sc (.int .i64 (.ofNat 34))),(.sc (.int .i64 (.ofNat 6))),(Ab [59]),(.sc (.int .i64 (.ofNat 37))),(.sc (.int .i64 (.ofNat 1))),(Ab [102,97,99,116]),(.sc (.int .i64 (.ofNat 39))),(.sc (.int .i64 (.ofNat 1))),k2,(.sc (.int .i64 (.ofNat 44))),(.sc (.int .i64 (.ofNat 6))),(Ab [58]),(.sc (.int .i64 (.ofNat 52))),(.sc (.int .i64 (.ofNat 1))),(Ab [116,114,117,116,104]),(.sc (.int .i64 (.ofNat 54))),(.sc (.int .i64 (.ofNat 6))),(Ab [59]),(.sc (.int .i64 (.ofNat 59))),(.sc (.int .i64 (.ofNat 1))),(Ab [108,105,110,101]),(.sc (.int .i64 (.ofNat 61))),(.sc (.int .i64 (.ofNat 1))),(Ab [98,97,115,105,99]),(.sc (.int .i64 (.ofNat 66))),(.sc (.int .i64 (.ofNat 6))),(Ab [58]),(.sc (.int .i64 (.ofNat 72))),(.sc (.int .i64 (.ofNat 2))),(Ab [69,85,82]),(.sc (.int .i64 (.ofNat 74))),(.sc (.int .i64 (.ofNat 1))),(Ab [101,97,114,110]),(.sc (.int .i64 (.ofNat 78))),(.sc (.int .i64 (.ofNat 6))),(Ab [59]),(.sc (.int .i64 (.ofNat 82))),(.sc (.int .i64 (.ofNat 1))),k3,(.sc (.int .i64 (.ofNat 84))),(.sc (.int .i64 (.ofNat 3))),(Ab [49]),(.sc (.int .i64 (.ofNat 92))),(.sc (.int .i64 (.ofNat 1))),(Ab [102,111,114]),(.sc (.int .i64 (.ofNat 94))),(.sc (.int .i64 (.ofNat 1))),(Ab [98,97,115,105,99]),(.sc (.int .i64 (.ofNat 98))),(.sc (.int .i64 (.ofNat 1))),(Ab [114,97,110,107]),(.sc (.int .i64 (.ofNat 104))),(.sc (.int .i64 (.ofNat 3))),(Ab [49]),(.sc (.int .i64 (.ofNat 109))),(.sc (.int .i64 (.ofNat 1))),(Ab [102,114,111,109]),(.sc (.int .i64 (.ofNat 111))),(.sc (.int .i64 (.ofNat 5))),k4,(.sc (.int .i64 (.ofNat 116))),(.sc (.int .i64 (.ofNat 1))),(Ab [107,110,111,119,110]),(.sc (.int .i64 (.ofNat 127))),(.sc (.int .i64 (.ofNat 5))),k4,(.sc (.int .i64 (.ofNat 133))),(.sc (.int .i64 (.ofNat 6))),(Ab [123]),(.sc (.int .i64 (.ofNat 144))),(.sc (.int .i64 (.ofNat 1))),(Ab [97,109,111,117,110,116]),(.sc (.int .i64 (.ofNat 146))),(.sc (.int .i64 (.ofNat 2))),(Ab [69,85,82]),(.sc (.int .i64 (.ofNat 153))),(.sc (.int .i64 (.ofNat 4))),(Ab [49,46,48,48]),(.sc (.int .i64 (.ofNat 157))),(.sc (.int .i64 (.ofNat 6))),(Ab [59]),(.sc (.int .i64 (.ofNat 161))),(.sc (.int .i64 (.ofNat 6))),(Ab [125]),(.sc (.int .i64 (.ofNat 163))),(.sc (.int .i64 (.ofNat 1))),(Ab [108,105,110,101]),(.sc (.int .i64 (.ofNat 165))),(.sc (.int .i64 (.ofNat 1))),(Ab [98,97,115,105,99]),(.sc (.int .i64 (.ofNat 170))),(.sc (.int .i64 (.ofNat 6))),(Ab [58]),(.sc (.int .i64 (.ofNat 176))),(.sc (.int .i64 (.ofNat 1))),(Ab [110,117,109,98,101,114]),(.sc (.int .i64 (.ofNat 178))),(.sc (.int .i64 (.ofNat 1))),(Ab [105,110,102,111]),(.sc (.int .i64 (.ofNat 185))),(.sc (.int .i64 (.ofNat 6))),(Ab [59]),(.sc (.int .i64 (.ofNat 189)))]
def k27:AV:=.sl .full 2 [(.sc (.int .i64 (.ofNat 12))),(Ab [104,111,117,114,115]),(Ab []),(.sc (.int .i64 (.ofNat 0))),(.sc (.int .i64 (.ofNat 0))),(.sc (.int .i64 (.ofNat 0))),(.sc (.int .i64 (.ofNat 0))),(.sc (.int .i64 (.ofNat 0))),(.sl .full 0 []),(.sl .full 0 []),(.sc (.int .i64 (.ofNat 0))),(.sc (.int .i64 (.ofNat 12))),(Ab [114,97,116,101]),(Ab []),(.sc (.int .i64 (.ofNat 0))),(.sc (.int .i64 (.ofNat 0))),(.sc (.int .i64 (.ofNat 0))),(.sc (.int .i64 (.ofNat 0))),(.sc (.int .i64 (.ofNat 0))),(.sl .full 0 []),(.sl .full 0 []),(.sc (.int .i64 (.ofNat 9)))]
def nN:AV:=.sl .full 2 [(.sc (.int .i64 (.ofNat 16))),(Ab [97,116]),(Ab []),(.sc (.int .i64 (.ofNat 0))),(.sc (.int .i64 (.ofNat 0))),(.sc (.int .i64 (.ofNat 0))),(.sc (.int .i64 (.ofNat 0))),(.sc (.int .i64 (.ofNat 0))),(.sl .full 0 []),k27,(.sc (.int .i64 (.ofNat 0))),(.sc (.int .i64 (.ofNat 13))),(Ab []),(Ab []),(.sc (.int .i64 (.ofNat 1))),(.sc (.int .i64 (.ofNat 0))),(.sc (.int .i64 (.ofNat 0))),(.sc (.int .i64 (.ofNat 0))),(.sc (.int .i64 (.ofNat 0))),(.sl .full 0 []),(.sl .full 0 []),(.sc (.int .i64 (.ofNat 16)))]
def zA:AV:=.sl .full 2 [(.sc (.int .i64 (.ofNat 11))),(Ab []),k1,(.sc (.int .i64 (.ofNat 8))),(.sc (.int .i64 (.ofNat 0))),(.sc (.int .i64 (.ofNat 0))),(.sc (.int .i64 (.ofNat 0))),(.sc (.int .i64 (.ofNat 0))),(.sl .full 0 []),(.sl .full 0 []),(.sc (.int .i64 (.ofNat 8))),(.sc (.int .i64 (.ofNat 12))),(Ab [104,111,117,114,115]),(Ab []),(.sc (.int .i64 (.ofNat 0))),(.sc (.int .i64 (.ofNat 0))),(.sc (.int .i64 (.ofNat 0))),(.sc (.int .i64 (.ofNat 0))),(.sc (.int .i64 (.ofNat 0))),(.sl .full 0 []),(.sl .full 0 []),(.sc (.int .i64 (.ofNat 0)))]
def mV:AV:=.sl .full 2 [(.sc (.int .i64 (.ofNat 16))),(Ab [60]),(Ab []),(.sc (.int .i64 (.ofNat 0))),(.sc (.int .i64 (.ofNat 0))),(.sc (.int .i64 (.ofNat 0))),(.sc (.int .i64 (.ofNat 0))),(.sc (.int .i64 (.ofNat 0))),(.sl .full 0 []),zA,(.sc (.int .i64 (.ofNat 0))),(.sc (.int .i64 (.ofNat 12))),k2,(Ab []),(.sc (.int .i64 (.ofNat 0))),(.sc (.int .i64 (.ofNat 0))),(.sc (.int .i64 (.ofNat 0))),(.sc (.int .i64 (.ofNat 0))),(.sc (.int .i64 (.ofNat 0))),(.sl .full 0 []),(.sl .full 0 []),(.sc (.int .i64 (.ofNat 18)))]
def k31:AV:=.sl .full 2 [(.sc (.int .i64 (.ofNat 12))),k2,(Ab []),(.sc (.int .i64 (.ofNat 0))),(.sc (.int .i64 (.ofNat 0))),(.sc (.int .i64 (.ofNat 0))),(.sc (.int .i64 (.ofNat 0))),(.sc (.int .i64 (.ofNat 0))),(.sl .full 0 []),(.sl .full 0 []),(.sc (.int .i64 (.ofNat 4))),(.sc (.int .i64 (.ofNat 11))),(Ab []),(Ab [116,114,117,116,104]),(.sc (.int .i64 (.ofNat 1))),(.sc (.int .i64 (.ofNat 0))),(.sc (.int .i64 (.ofNat 0))),(.sc (.int .i64 (.ofNat 0))),(.sc (.int .i64 (.ofNat 0))),(.sl .full 0 []),(.sl .full 0 []),(.sc (.int .i64 (.ofNat 15)))]
def nL:AV:=.sl .full 1 [(.sc (.int .i64 (.ofNat 16))),(Ab [61,61]),(Ab []),(.sc (.int .i64 (.ofNat 0))),(.sc (.int .i64 (.ofNat 0))),(.sc (.int .i64 (.ofNat 0))),(.sc (.int .i64 (.ofNat 0))),(.sc (.int .i64 (.ofNat 0))),(.sl .full 0 []),k31,(.sc (.int .i64 (.ofNat 4)))]
def zX:AV:=.sl .full 2 [(.sc (.int .i64 (.ofNat 12))),(Ab [114,97,116,101]),(Ab []),(.sc (.int .i64 (.ofNat 0))),(.sc (.int .i64 (.ofNat 0))),(.sc (.int .i64 (.ofNat 0))),(.sc (.int .i64 (.ofNat 0))),(.sc (.int .i64 (.ofNat 0))),(.sl .full 0 []),(.sl .full 0 []),(.sc (.int .i64 (.ofNat 0))),(.sc (.int .i64 (.ofNat 11))),(Ab []),(Ab [110,117,109,98,101,114]),(.sc (.int .i64 (.ofNat 3))),(.sc (.int .i64 (.ofNat 0))),(.sc (.int .i64 (.ofNat 0))),(.sc (.int .i64 (.ofNat 0))),(.sc (.int .i64 (.ofNat 0))),(.sl .full 0 []),(.sl .full 0 []),(.sc (.int .i64 (.ofNat 7)))]
def nQ:AV:=.sl .full 2 [(.sc (.int .i64 (.ofNat 16))),(Ab [42]),(Ab []),(.sc (.int .i64 (.ofNat 0))),(.sc (.int .i64 (.ofNat 0))),(.sc (.int .i64 (.ofNat 0))),(.sc (.int .i64 (.ofNat 0))),(.sc (.int .i64 (.ofNat 0))),(.sl .full 0 []),zX,(.sc (.int .i64 (.ofNat 0))),(.sc (.int .i64 (.ofNat 11))),(Ab []),(Ab [110,117,109,98,101,114]),(.sc (.int .i64 (.ofNat 100))),(.sc (.int .i64 (.ofNat 0))),(.sc (.int .i64 (.ofNat 0))),(.sc (.int .i64 (.ofNat 0))),(.sc (.int .i64 (.ofNat 0))),(.sl .full 0 []),(.sl .full 0 []),(.sc (.int .i64 (.ofNat 11)))]
def e0:By:=⟨43,[k0],none,(.Bc [k5,(.sc (.int .i64 (.ofNat 0))),(.sc (.int .i64 (.ofNat 0)))])⟩
theorem oN {mx:Int}:Aq Tryz.prog (HdU.G mx) e0:=HdU.D8 _ _ (by kernel_rfl)
def e1:By:=⟨143,[(Ab [49,46,48,48]),(Ab [46]),(Ab []),(.sc (.int .i64 (.ofNat 1)))],none,(Ab [49,48,48])⟩
theorem GB {mx:Int}:Aq Tryz.prog (HdU.G mx) e1:=HdU.MI _ _ _ _ _ (by kernel_rfl) (by kernel_rfl) (by kernel_rfl)
def e2:By:=⟨43,[k6],none,(.Bc [k7,(.sc (.int .i64 (.ofNat 0))),(.sc (.int .i64 (.ofNat 0)))])⟩
theorem rQ {mx:Int}:Aq Tryz.prog (HdU.G mx) e2:=HdU.D8 _ _ (by kernel_rfl)
def e3:By:=⟨43,[k8],none,(.Bc [k9,(.sc (.int .i64 (.ofNat 0))),(.sc (.int .i64 (.ofNat 0)))])⟩
theorem qE {mx:Int}:Aq Tryz.prog (HdU.G mx) e3:=HdU.D8 _ _ (by kernel_rfl)
def e4:By:=⟨43,[uX],none,(.Bc [jC,(.sc (.int .i64 (.ofNat 0))),(.sc (.int .i64 (.ofNat 0)))])⟩
theorem qT {mx:Int}:Aq Tryz.prog (HdU.G mx) e4:=HdU.D8 _ _ (by kernel_rfl)
def e5:By:=⟨43,[iI],none,(.Bc [lS,(.sc (.int .i64 (.ofNat 0))),(.sc (.int .i64 (.ofNat 0)))])⟩
theorem oE {mx:Int}:Aq Tryz.prog (HdU.G mx) e5:=HdU.D8 _ _ (by kernel_rfl)
def e6:By:=⟨43,[kD],none,(.Bc [kR,(.sc (.int .i64 (.ofNat 0))),(.sc (.int .i64 (.ofNat 0)))])⟩
theorem qP {mx:Int}:Aq Tryz.prog (HdU.G mx) e6:=HdU.D8 _ _ (by kernel_rfl)
def e7:By:=⟨43,[YI],none,(.Bc [hO,(.sc (.int .i64 (.ofNat 0))),(.sc (.int .i64 (.ofNat 0)))])⟩
theorem nX {mx:Int}:Aq Tryz.prog (HdU.G mx) e7:=HdU.D8 _ _ (by kernel_rfl)
def e8:By:=⟨43,[iC],none,(.Bc [tJ,(.sc (.int .i64 (.ofNat 0))),(.sc (.int .i64 (.ofNat 0)))])⟩
theorem rR {mx:Int}:Aq Tryz.prog (HdU.G mx) e8:=HdU.D8 _ _ (by kernel_rfl)
def e9:By:=⟨43,[(Ab [120,32,43,32,49])],none,(.Bc [uM,(.sc (.int .i64 (.ofNat 0))),(.sc (.int .i64 (.ofNat 0)))])⟩
theorem nS {mx:Int}:Aq Tryz.prog (HdU.G mx) e9:=HdU.D8 _ _ (by kernel_rfl)
def nH:By:=⟨43,[(Ab [97,114,116,32,50])],none,(.Bc [(.sl .lost 2 [(.sc (.int .i64 (.ofNat 1))),(Ab [97,114,116]),(.sc (.int .i64 (.ofNat 0))),(.sc (.int .i64 (.ofNat 3))),(Ab [50]),(.sc (.int .i64 (.ofNat 4)))]),(.sc (.int .i64 (.ofNat 0))),(.sc (.int .i64 (.ofNat 0)))])⟩
theorem gZ {mx:Int}:Aq Tryz.prog (HdU.G mx) nH:=HdU.D8 _ _ (by kernel_rfl)
def sM:By:=⟨43,[vB],none,(.Bc [tG,(.sc (.int .i64 (.ofNat 0))),(.sc (.int .i64 (.ofNat 0)))])⟩
theorem jV {mx:Int}:Aq Tryz.prog (HdU.G mx) sM:=HdU.D8 _ _ (by kernel_rfl)
def wZ:By:=⟨43,[tC],none,(.Bc [tI,(.sc (.int .i64 (.ofNat 0))),(.sc (.int .i64 (.ofNat 0)))])⟩
theorem lW {mx:Int}:Aq Tryz.prog (HdU.G mx) wZ:=HdU.D8 _ _ (by kernel_rfl)
def xY:By:=⟨43,[yL],none,(.Bc [IE,(.sc (.int .i64 (.ofNat 0))),(.sc (.int .i64 (.ofNat 0)))])⟩
theorem lY {mx:Int}:Aq Tryz.prog (HdU.G mx) xY:=HdU.D8 _ _ (by kernel_rfl)
def Ov:By:=⟨137,[(Ab [48])],none,(.Bc [(.sc (.int .i64 (.ofNat 0))),(.sc .nilIface)])⟩
theorem Dv {mx:Int}:Aq Tryz.prog (HdU.G mx) Ov:=HdU.Gx _ _ (by kernel_rfl) (by kernel_rfl)
def OV:By:=⟨137,[(Ab [49])],none,(.Bc [(.sc (.int .i64 (.ofNat 1))),(.sc .nilIface)])⟩
theorem Du {mx:Int}:Aq Tryz.prog (HdU.G mx) OV:=HdU.Gx _ _ (by kernel_rfl) (by kernel_rfl)
def OB:By:=⟨137,[(Ab [49,48])],none,(.Bc [(.sc (.int .i64 (.ofNat 10))),(.sc .nilIface)])⟩
theorem DC {mx:Int}:Aq Tryz.prog (HdU.G mx) OB:=HdU.Gx _ _ (by kernel_rfl) (by kernel_rfl)
def Of:By:=⟨137,[(Ab [49,48,48])],none,(.Bc [(.sc (.int .i64 (.ofNat 100))),(.sc .nilIface)])⟩
theorem DA {mx:Int}:Aq Tryz.prog (HdU.G mx) Of:=HdU.Gx _ _ (by kernel_rfl) (by kernel_rfl)
def OL:By:=⟨137,[(Ab [50])],none,(.Bc [(.sc (.int .i64 (.ofNat 2))),(.sc .nilIface)])⟩
theorem Dr {mx:Int}:Aq Tryz.prog (HdU.G mx) OL:=HdU.Gx _ _ (by kernel_rfl) (by kernel_rfl)
def Oy:By:=⟨137,[(Ab [51])],none,(.Bc [(.sc (.int .i64 (.ofNat 3))),(.sc .nilIface)])⟩
theorem Dy {mx:Int}:Aq Tryz.prog (HdU.G mx) Oy:=HdU.Gx _ _ (by kernel_rfl) (by kernel_rfl)
def OH:By:=⟨137,[(Ab [56])],none,(.Bc [(.sc (.int .i64 (.ofNat 8))),(.sc .nilIface)])⟩
theorem Dt {mx:Int}:Aq Tryz.prog (HdU.G mx) OH:=HdU.Gx _ _ (by kernel_rfl) (by kernel_rfl)
def RG:By:=⟨143,[(Ab [62]),(Ab [62]),(Ab [60]),(.sc (.int .i64 (.ofNat 1)))],none,(Ab [60])⟩
theorem Ez {mx:Int}:Aq Tryz.prog (HdU.G mx) RG:=HdU.MI _ _ _ _ _ (by kernel_rfl) (by kernel_rfl) (by kernel_rfl)
def RH:By:=⟨143,[(Ab [48]),(Ab [46]),(Ab []),(.sc (.int .i64 (.ofNat 1)))],none,(Ab [48])⟩
theorem EB {mx:Int}:Aq Tryz.prog (HdU.G mx) RH:=HdU.MI _ _ _ _ _ (by kernel_rfl) (by kernel_rfl) (by kernel_rfl)
def xS:By:=⟨75,[],(some ([k7,(.sc (.int .i64 (.ofNat 0))),(.sc (.int .i64 (.ofNat 21)))],[k7,(.sc (.int .i64 (.ofNat 6))),(.sc (.int .i64 (.ofNat 21)))])),(.agg [(.sc (.int .i64 (.ofNat 16))),(Ab [43]),(Ab []),(.sc (.int .i64 (.ofNat 0))),(.sc (.int .i64 (.ofNat 0))),(.sc (.int .i64 (.ofNat 0))),(.sc (.int .i64 (.ofNat 0))),(.sc (.int .i64 (.ofNat 0))),(.sl .full 0 []),nN,(.sc (.int .i64 (.ofNat 0)))])⟩
theorem lO {mx:Int}:Aq Tryz.prog (HdU.G mx) xS:=HdU.entry (l:=[e1,Ov,OV,OB,Of,OL,Oy,OH,RG,RH]) (m:=1000000) (Aa.cons GB (Aa.cons Dv (Aa.cons Du (Aa.cons DC (Aa.cons DA (Aa.cons Dr (Aa.cons Dy (Aa.cons Dt (Aa.cons Ez (Aa.cons EB HdU.none)))))))))) (by kernel_rfl) (by kernel_rfl)
def VC:By:=⟨47,[(.agg [(.sc (.int .i64 (.ofNat 16))),(Ab [43]),(Ab []),(.sc (.int .i64 (.ofNat 0))),(.sc (.int .i64 (.ofNat 0))),(.sc (.int .i64 (.ofNat 0))),(.sc (.int .i64 (.ofNat 0))),(.sc (.int .i64 (.ofNat 0))),(.sl .full 0 []),nN,(.sc (.int .i64 (.ofNat 0)))])],none,(.Bc [(.agg [(.sc (.int .i64 (.ofNat 16))),(Ab [43]),(Ab []),(.sc (.int .i64 (.ofNat 0))),(.sc (.int .i64 (.ofNat 0))),(.sc (.int .i64 (.ofNat 0))),(.sc (.int .i64 (.ofNat 0))),(.sc (.int .i64 (.ofNat 0))),(.sl .full 0 []),nN,(.sc (.int .i64 (.ofNat 0)))]),(.sl .full 0 [])])⟩
theorem Gy {mx:Int}:Aq Tryz.prog (HdU.G mx) VC:=HdU.entry (l:=[]) (m:=1000000) HdU.none (by kernel_rfl) (by kernel_rfl)
def yJ:By:=⟨48,[k6],none,(.Bc [(.agg [(.sc (.int .i64 (.ofNat 16))),(Ab [43]),(Ab []),(.sc (.int .i64 (.ofNat 0))),(.sc (.int .i64 (.ofNat 0))),(.sc (.int .i64 (.ofNat 0))),(.sc (.int .i64 (.ofNat 0))),(.sc (.int .i64 (.ofNat 0))),(.sl .full 0 []),nN,(.sc (.int .i64 (.ofNat 0)))]),(.sl .full 0 [])])⟩
theorem lM {mx:Int}:Aq Tryz.prog (HdU.G mx) yJ:=HdU.entry (l:=[e2,xS,VC]) (m:=1000000) (Aa.cons rQ (Aa.cons lO (Aa.cons Gy HdU.none))) (by kernel_rfl) (by kernel_rfl)
def yP:By:=⟨75,[],(some ([k9,(.sc (.int .i64 (.ofNat 0))),(.sc (.int .i64 (.ofNat 25)))],[k9,(.sc (.int .i64 (.ofNat 6))),(.sc (.int .i64 (.ofNat 25)))])),(.agg [(.sc (.int .i64 (.ofNat 16))),(Ab [97,110,100]),(Ab []),(.sc (.int .i64 (.ofNat 0))),(.sc (.int .i64 (.ofNat 0))),(.sc (.int .i64 (.ofNat 0))),(.sc (.int .i64 (.ofNat 0))),(.sc (.int .i64 (.ofNat 0))),(.sl .full 0 []),mV,(.sc (.int .i64 (.ofNat 0)))])⟩
theorem jZ {mx:Int}:Aq Tryz.prog (HdU.G mx) yP:=HdU.entry (l:=[e1,Ov,OV,OB,Of,OL,Oy,OH,RG,RH]) (m:=1000000) (Aa.cons GB (Aa.cons Dv (Aa.cons Du (Aa.cons DC (Aa.cons DA (Aa.cons Dr (Aa.cons Dy (Aa.cons Dt (Aa.cons Ez (Aa.cons EB HdU.none)))))))))) (by kernel_rfl) (by kernel_rfl)
def Wh:By:=⟨47,[(.agg [(.sc (.int .i64 (.ofNat 16))),(Ab [97,110,100]),(Ab []),(.sc (.int .i64 (.ofNat 0))),(.sc (.int .i64 (.ofNat 0))),(.sc (.int .i64 (.ofNat 0))),(.sc (.int .i64 (.ofNat 0))),(.sc (.int .i64 (.ofNat 0))),(.sl .full 0 []),mV,(.sc (.int .i64 (.ofNat 0)))])],none,(.Bc [(.agg [(.sc (.int .i64 (.ofNat 16))),(Ab [97,110,100]),(Ab []),(.sc (.int .i64 (.ofNat 0))),(.sc (.int .i64 (.ofNat 0))),(.sc (.int .i64 (.ofNat 0))),(.sc (.int .i64 (.ofNat 0))),(.sc (.int .i64 (.ofNat 0))),(.sl .full 0 []),mV,(.sc (.int .i64 (.ofNat 0)))]),(.sl .full 0 [])])⟩
theorem Hb {mx:Int}:Aq Tryz.prog (HdU.G mx) Wh:=HdU.entry (l:=[]) (m:=1000000) HdU.none (by kernel_rfl) (by kernel_rfl)
def xO:By:=⟨48,[k8],none,(.Bc [(.agg [(.sc (.int .i64 (.ofNat 16))),(Ab [97,110,100]),(Ab []),(.sc (.int .i64 (.ofNat 0))),(.sc (.int .i64 (.ofNat 0))),(.sc (.int .i64 (.ofNat 0))),(.sc (.int .i64 (.ofNat 0))),(.sc (.int .i64 (.ofNat 0))),(.sl .full 0 []),mV,(.sc (.int .i64 (.ofNat 0)))]),(.sl .full 0 [])])⟩
theorem gM {mx:Int}:Aq Tryz.prog (HdU.G mx) xO:=HdU.entry (l:=[e3,VC,yP,Wh]) (m:=1000000) (Aa.cons qE (Aa.cons Gy (Aa.cons jZ (Aa.cons Hb HdU.none)))) (by kernel_rfl) (by kernel_rfl)
def wU:By:=⟨75,[],(some ([jC,(.sc (.int .i64 (.ofNat 0))),(.sc (.int .i64 (.ofNat 19)))],[jC,(.sc (.int .i64 (.ofNat 4))),(.sc (.int .i64 (.ofNat 19)))])),(.agg [(.sc (.int .i64 (.ofNat 15))),(Ab []),(Ab []),(.sc (.int .i64 (.ofNat 0))),(.sc (.int .i64 (.ofNat 0))),(.sc (.int .i64 (.ofNat 0))),(.sc (.int .i64 (.ofNat 0))),(.sc (.int .i64 (.ofNat 0))),(.sl .full 0 []),nL,(.sc (.int .i64 (.ofNat 0)))])⟩
theorem fM {mx:Int}:Aq Tryz.prog (HdU.G mx) wU:=HdU.entry (l:=[e1,Ov,OV,OB,Of,OL,Oy,OH,RG,RH]) (m:=1000000) (Aa.cons GB (Aa.cons Dv (Aa.cons Du (Aa.cons DC (Aa.cons DA (Aa.cons Dr (Aa.cons Dy (Aa.cons Dt (Aa.cons Ez (Aa.cons EB HdU.none)))))))))) (by kernel_rfl) (by kernel_rfl)
def YK:By:=⟨47,[(.agg [(.sc (.int .i64 (.ofNat 15))),(Ab []),(Ab []),(.sc (.int .i64 (.ofNat 0))),(.sc (.int .i64 (.ofNat 0))),(.sc (.int .i64 (.ofNat 0))),(.sc (.int .i64 (.ofNat 0))),(.sc (.int .i64 (.ofNat 0))),(.sl .full 0 []),nL,(.sc (.int .i64 (.ofNat 0)))])],none,(.Bc [(.agg [(.sc (.int .i64 (.ofNat 15))),(Ab []),(Ab []),(.sc (.int .i64 (.ofNat 0))),(.sc (.int .i64 (.ofNat 0))),(.sc (.int .i64 (.ofNat 0))),(.sc (.int .i64 (.ofNat 0))),(.sc (.int .i64 (.ofNat 0))),(.sl .full 0 []),nL,(.sc (.int .i64 (.ofNat 0)))]),(.sl .full 0 [])])⟩
theorem Ik {mx:Int}:Aq Tryz.prog (HdU.G mx) YK:=HdU.entry (l:=[]) (m:=1000000) HdU.none (by kernel_rfl) (by kernel_rfl)
def v7:By:=⟨48,[uX],none,(.Bc [(.agg [(.sc (.int .i64 (.ofNat 15))),(Ab []),(Ab []),(.sc (.int .i64 (.ofNat 0))),(.sc (.int .i64 (.ofNat 0))),(.sc (.int .i64 (.ofNat 0))),(.sc (.int .i64 (.ofNat 0))),(.sc (.int .i64 (.ofNat 0))),(.sl .full 0 []),nL,(.sc (.int .i64 (.ofNat 0)))]),(.sl .full 0 [])])⟩
theorem mF {mx:Int}:Aq Tryz.prog (HdU.G mx) v7:=HdU.entry (l:=[e4,VC,Wh,wU,YK]) (m:=1000000) (Aa.cons qT (Aa.cons Gy (Aa.cons Hb (Aa.cons fM (Aa.cons Ik HdU.none))))) (by kernel_rfl) (by kernel_rfl)
def wB:By:=⟨75,[],(some ([lS,(.sc (.int .i64 (.ofNat 0))),(.sc (.int .i64 (.ofNat 14)))],[lS,(.sc (.int .i64 (.ofNat 5))),(.sc (.int .i64 (.ofNat 14)))])),(.agg [(.sc (.int .i64 (.ofNat 16))),(Ab [47]),(Ab []),(.sc (.int .i64 (.ofNat 0))),(.sc (.int .i64 (.ofNat 0))),(.sc (.int .i64 (.ofNat 0))),(.sc (.int .i64 (.ofNat 0))),(.sc (.int .i64 (.ofNat 0))),(.sl .full 0 []),nQ,(.sc (.int .i64 (.ofNat 0)))])⟩
theorem lK {mx:Int}:Aq Tryz.prog (HdU.G mx) wB:=HdU.entry (l:=[e1,Ov,OV,OB,Of,OL,Oy,OH,RG,RH]) (m:=1000000) (Aa.cons GB (Aa.cons Dv (Aa.cons Du (Aa.cons DC (Aa.cons DA (Aa.cons Dr (Aa.cons Dy (Aa.cons Dt (Aa.cons Ez (Aa.cons EB HdU.none)))))))))) (by kernel_rfl) (by kernel_rfl)
end Go.Proofs.YtkfplcngmiljaaaGreatDoor
namespace Go.Proofs.YtkfplcngmiljaaaGreatDoor
open AI
set_option maxRecDepth 100000
set_option maxHeartbeats 4000000
def mU:AV:=.sl .full 2 [(.sc (.int .i64 (.ofNat 11))),(Ab []),(Ab [110,117,109,98,101,114]),(.sc (.int .i64 (.ofNat 2))),(.sc (.int .i64 (.ofNat 0))),(.sc (.int .i64 (.ofNat 0))),(.sc (.int .i64 (.ofNat 0))),(.sc (.int .i64 (.ofNat 0))),(.sl .full 0 []),(.sl .full 0 []),(.sc (.int .i64 (.ofNat 0))),(.sc (.int .i64 (.ofNat 12))),(Ab [104,111,117,114,115]),(Ab []),(.sc (.int .i64 (.ofNat 0))),(.sc (.int .i64 (.ofNat 0))),(.sc (.int .i64 (.ofNat 0))),(.sc (.int .i64 (.ofNat 0))),(.sc (.int .i64 (.ofNat 0))),(.sl .full 0 []),(.sl .full 0 []),(.sc (.int .i64 (.ofNat 4)))]
def mR:AV:=.sl .full 2 [(.sc (.int .i64 (.ofNat 12))),(Ab [114,97,116,101]),(Ab []),(.sc (.int .i64 (.ofNat 0))),(.sc (.int .i64 (.ofNat 0))),(.sc (.int .i64 (.ofNat 0))),(.sc (.int .i64 (.ofNat 0))),(.sc (.int .i64 (.ofNat 0))),(.sl .full 0 []),(.sl .full 0 []),(.sc (.int .i64 (.ofNat 0))),(.sc (.int .i64 (.ofNat 12))),(Ab [114,97,116,101]),(Ab []),(.sc (.int .i64 (.ofNat 0))),(.sc (.int .i64 (.ofNat 0))),(.sc (.int .i64 (.ofNat 0))),(.sc (.int .i64 (.ofNat 0))),(.sc (.int .i64 (.ofNat 0))),(.sl .full 0 []),(.sl .full 0 []),(.sc (.int .i64 (.ofNat 7)))]
def mZ:AV:=.sl .full 2 [(.sc (.int .i64 (.ofNat 12))),(Ab [104,111,117,114,115]),(Ab []),(.sc (.int .i64 (.ofNat 0))),(.sc (.int .i64 (.ofNat 0))),(.sc (.int .i64 (.ofNat 0))),(.sc (.int .i64 (.ofNat 0))),(.sc (.int .i64 (.ofNat 0))),(.sl .full 0 []),(.sl .full 0 []),(.sc (.int .i64 (.ofNat 0))),(.sc (.int .i64 (.ofNat 11))),(Ab []),(Ab [110,117,109,98,101,114]),(.sc (.int .i64 (.ofNat 1))),(.sc (.int .i64 (.ofNat 0))),(.sc (.int .i64 (.ofNat 0))),(.sc (.int .i64 (.ofNat 0))),(.sc (.int .i64 (.ofNat 0))),(.sl .full 0 []),(.sl .full 0 []),(.sc (.int .i64 (.ofNat 8)))]
def nE:AV:=.sl .full 2 [(.sc (.int .i64 (.ofNat 12))),(Ab [120]),(Ab []),(.sc (.int .i64 (.ofNat 0))),(.sc (.int .i64 (.ofNat 0))),(.sc (.int .i64 (.ofNat 0))),(.sc (.int .i64 (.ofNat 0))),(.sc (.int .i64 (.ofNat 0))),(.sl .full 0 []),(.sl .full 0 []),(.sc (.int .i64 (.ofNat 0))),(.sc (.int .i64 (.ofNat 11))),(Ab []),(Ab [110,117,109,98,101,114]),(.sc (.int .i64 (.ofNat 1))),(.sc (.int .i64 (.ofNat 0))),(.sc (.int .i64 (.ofNat 0))),(.sc (.int .i64 (.ofNat 0))),(.sc (.int .i64 (.ofNat 0))),(.sl .full 0 []),(.sl .full 0 []),(.sc (.int .i64 (.ofNat 4)))]
def nK:AV:=.sl .full 1 [(.sc (.int .i64 (.ofNat 12))),(Ab [104,111,117,114,115]),(Ab []),(.sc (.int .i64 (.ofNat 0))),(.sc (.int .i64 (.ofNat 0))),(.sc (.int .i64 (.ofNat 0))),(.sc (.int .i64 (.ofNat 0))),(.sc (.int .i64 (.ofNat 0))),(.sl .full 0 []),(.sl .full 0 []),(.sc (.int .i64 (.ofNat 6)))]
def Zf:By:=⟨47,[(.agg [(.sc (.int .i64 (.ofNat 16))),(Ab [47]),(Ab []),(.sc (.int .i64 (.ofNat 0))),(.sc (.int .i64 (.ofNat 0))),(.sc (.int .i64 (.ofNat 0))),(.sc (.int .i64 (.ofNat 0))),(.sc (.int .i64 (.ofNat 0))),(.sl .full 0 []),nQ,(.sc (.int .i64 (.ofNat 0)))])],none,(.Bc [(.agg [(.sc (.int .i64 (.ofNat 16))),(Ab [47]),(Ab []),(.sc (.int .i64 (.ofNat 0))),(.sc (.int .i64 (.ofNat 0))),(.sc (.int .i64 (.ofNat 0))),(.sc (.int .i64 (.ofNat 0))),(.sc (.int .i64 (.ofNat 0))),(.sl .full 0 []),nQ,(.sc (.int .i64 (.ofNat 0)))]),(.sl .full 0 [])])⟩
theorem IY {mx:Int}:Aq Tryz.prog (HdU.G mx) Zf:=HdU.entry (l:=[]) (m:=1000000) HdU.none (by kernel_rfl) (by kernel_rfl)
def wQ:By:=⟨48,[iI],none,(.Bc [(.agg [(.sc (.int .i64 (.ofNat 16))),(Ab [47]),(Ab []),(.sc (.int .i64 (.ofNat 0))),(.sc (.int .i64 (.ofNat 0))),(.sc (.int .i64 (.ofNat 0))),(.sc (.int .i64 (.ofNat 0))),(.sc (.int .i64 (.ofNat 0))),(.sl .full 0 []),nQ,(.sc (.int .i64 (.ofNat 0)))]),(.sl .full 0 [])])⟩
theorem mK {mx:Int}:Aq Tryz.prog (HdU.G mx) wQ:=HdU.entry (l:=[e5,VC,Wh,YK,wB,Zf]) (m:=1000000) (Aa.cons oE (Aa.cons Gy (Aa.cons Hb (Aa.cons Ik (Aa.cons lK (Aa.cons IY HdU.none)))))) (by kernel_rfl) (by kernel_rfl)
def yC:By:=⟨75,[],(some ([kR,(.sc (.int .i64 (.ofNat 0))),(.sc (.int .i64 (.ofNat 9)))],[kR,(.sc (.int .i64 (.ofNat 3))),(.sc (.int .i64 (.ofNat 9)))])),(.agg [(.sc (.int .i64 (.ofNat 16))),(Ab [42]),(Ab []),(.sc (.int .i64 (.ofNat 0))),(.sc (.int .i64 (.ofNat 0))),(.sc (.int .i64 (.ofNat 0))),(.sc (.int .i64 (.ofNat 0))),(.sc (.int .i64 (.ofNat 0))),(.sl .full 0 []),mU,(.sc (.int .i64 (.ofNat 0)))])⟩
theorem j7 {mx:Int}:Aq Tryz.prog (HdU.G mx) yC:=HdU.entry (l:=[e1,Ov,OV,OB,Of,OL,Oy,OH,RG,RH]) (m:=1000000) (Aa.cons GB (Aa.cons Dv (Aa.cons Du (Aa.cons DC (Aa.cons DA (Aa.cons Dr (Aa.cons Dy (Aa.cons Dt (Aa.cons Ez (Aa.cons EB HdU.none)))))))))) (by kernel_rfl) (by kernel_rfl)
def dI:By:=⟨47,[(.agg [(.sc (.int .i64 (.ofNat 16))),(Ab [42]),(Ab []),(.sc (.int .i64 (.ofNat 0))),(.sc (.int .i64 (.ofNat 0))),(.sc (.int .i64 (.ofNat 0))),(.sc (.int .i64 (.ofNat 0))),(.sc (.int .i64 (.ofNat 0))),(.sl .full 0 []),mU,(.sc (.int .i64 (.ofNat 0)))])],none,(.Bc [(.agg [(.sc (.int .i64 (.ofNat 16))),(Ab [42]),(Ab []),(.sc (.int .i64 (.ofNat 0))),(.sc (.int .i64 (.ofNat 0))),(.sc (.int .i64 (.ofNat 0))),(.sc (.int .i64 (.ofNat 0))),(.sc (.int .i64 (.ofNat 0))),(.sl .full 0 []),mU,(.sc (.int .i64 (.ofNat 0)))]),(.sl .full 0 [])])⟩
theorem JM {mx:Int}:Aq Tryz.prog (HdU.G mx) dI:=HdU.entry (l:=[]) (m:=1000000) HdU.none (by kernel_rfl) (by kernel_rfl)
def xJ:By:=⟨48,[kD],none,(.Bc [(.agg [(.sc (.int .i64 (.ofNat 16))),(Ab [42]),(Ab []),(.sc (.int .i64 (.ofNat 0))),(.sc (.int .i64 (.ofNat 0))),(.sc (.int .i64 (.ofNat 0))),(.sc (.int .i64 (.ofNat 0))),(.sc (.int .i64 (.ofNat 0))),(.sl .full 0 []),mU,(.sc (.int .i64 (.ofNat 0)))]),(.sl .full 0 [])])⟩
theorem iP {mx:Int}:Aq Tryz.prog (HdU.G mx) xJ:=HdU.entry (l:=[e6,VC,Wh,YK,Zf,yC,dI]) (m:=1000000) (Aa.cons qP (Aa.cons Gy (Aa.cons Hb (Aa.cons Ik (Aa.cons IY (Aa.cons j7 (Aa.cons JM HdU.none))))))) (by kernel_rfl) (by kernel_rfl)
def wK:By:=⟨75,[],(some ([hO,(.sc (.int .i64 (.ofNat 0))),(.sc (.int .i64 (.ofNat 11)))],[hO,(.sc (.int .i64 (.ofNat 3))),(.sc (.int .i64 (.ofNat 11)))])),(.agg [(.sc (.int .i64 (.ofNat 16))),(Ab [42]),(Ab []),(.sc (.int .i64 (.ofNat 0))),(.sc (.int .i64 (.ofNat 0))),(.sc (.int .i64 (.ofNat 0))),(.sc (.int .i64 (.ofNat 0))),(.sc (.int .i64 (.ofNat 0))),(.sl .full 0 []),mR,(.sc (.int .i64 (.ofNat 0)))])⟩
theorem gA {mx:Int}:Aq Tryz.prog (HdU.G mx) wK:=HdU.entry (l:=[e1,Ov,OV,OB,Of,OL,Oy,OH,RG,RH]) (m:=1000000) (Aa.cons GB (Aa.cons Dv (Aa.cons Du (Aa.cons DC (Aa.cons DA (Aa.cons Dr (Aa.cons Dy (Aa.cons Dt (Aa.cons Ez (Aa.cons EB HdU.none)))))))))) (by kernel_rfl) (by kernel_rfl)
def gH:By:=⟨47,[(.agg [(.sc (.int .i64 (.ofNat 16))),(Ab [42]),(Ab []),(.sc (.int .i64 (.ofNat 0))),(.sc (.int .i64 (.ofNat 0))),(.sc (.int .i64 (.ofNat 0))),(.sc (.int .i64 (.ofNat 0))),(.sc (.int .i64 (.ofNat 0))),(.sl .full 0 []),mR,(.sc (.int .i64 (.ofNat 0)))])],none,(.Bc [(.agg [(.sc (.int .i64 (.ofNat 16))),(Ab [42]),(Ab []),(.sc (.int .i64 (.ofNat 0))),(.sc (.int .i64 (.ofNat 0))),(.sc (.int .i64 (.ofNat 0))),(.sc (.int .i64 (.ofNat 0))),(.sc (.int .i64 (.ofNat 0))),(.sl .full 0 []),mR,(.sc (.int .i64 (.ofNat 0)))]),(.sl .full 0 [])])⟩
theorem Ln {mx:Int}:Aq Tryz.prog (HdU.G mx) gH:=HdU.entry (l:=[]) (m:=1000000) HdU.none (by kernel_rfl) (by kernel_rfl)
def wG:By:=⟨48,[YI],none,(.Bc [(.agg [(.sc (.int .i64 (.ofNat 16))),(Ab [42]),(Ab []),(.sc (.int .i64 (.ofNat 0))),(.sc (.int .i64 (.ofNat 0))),(.sc (.int .i64 (.ofNat 0))),(.sc (.int .i64 (.ofNat 0))),(.sc (.int .i64 (.ofNat 0))),(.sl .full 0 []),mR,(.sc (.int .i64 (.ofNat 0)))]),(.sl .full 0 [])])⟩
theorem lP {mx:Int}:Aq Tryz.prog (HdU.G mx) wG:=HdU.entry (l:=[e7,VC,Wh,YK,Zf,dI,wK,gH]) (m:=1000000) (Aa.cons nX (Aa.cons Gy (Aa.cons Hb (Aa.cons Ik (Aa.cons IY (Aa.cons JM (Aa.cons gA (Aa.cons Ln HdU.none)))))))) (by kernel_rfl) (by kernel_rfl)
def wH:By:=⟨75,[],(some ([tJ,(.sc (.int .i64 (.ofNat 0))),(.sc (.int .i64 (.ofNat 9)))],[tJ,(.sc (.int .i64 (.ofNat 3))),(.sc (.int .i64 (.ofNat 9)))])),(.agg [(.sc (.int .i64 (.ofNat 16))),(Ab [43]),(Ab []),(.sc (.int .i64 (.ofNat 0))),(.sc (.int .i64 (.ofNat 0))),(.sc (.int .i64 (.ofNat 0))),(.sc (.int .i64 (.ofNat 0))),(.sc (.int .i64 (.ofNat 0))),(.sl .full 0 []),mZ,(.sc (.int .i64 (.ofNat 0)))])⟩
theorem gW {mx:Int}:Aq Tryz.prog (HdU.G mx) wH:=HdU.entry (l:=[e1,Ov,OV,OB,Of,OL,Oy,OH,RG,RH]) (m:=1000000) (Aa.cons GB (Aa.cons Dv (Aa.cons Du (Aa.cons DC (Aa.cons DA (Aa.cons Dr (Aa.cons Dy (Aa.cons Dt (Aa.cons Ez (Aa.cons EB HdU.none)))))))))) (by kernel_rfl) (by kernel_rfl)
def nJ:By:=⟨47,[(.agg [(.sc (.int .i64 (.ofNat 16))),(Ab [43]),(Ab []),(.sc (.int .i64 (.ofNat 0))),(.sc (.int .i64 (.ofNat 0))),(.sc (.int .i64 (.ofNat 0))),(.sc (.int .i64 (.ofNat 0))),(.sc (.int .i64 (.ofNat 0))),(.sl .full 0 []),mZ,(.sc (.int .i64 (.ofNat 0)))])],none,(.Bc [(.agg [(.sc (.int .i64 (.ofNat 16))),(Ab [43]),(Ab []),(.sc (.int .i64 (.ofNat 0))),(.sc (.int .i64 (.ofNat 0))),(.sc (.int .i64 (.ofNat 0))),(.sc (.int .i64 (.ofNat 0))),(.sc (.int .i64 (.ofNat 0))),(.sl .full 0 []),mZ,(.sc (.int .i64 (.ofNat 0)))]),(.sl .full 0 [])])⟩
theorem NJ {mx:Int}:Aq Tryz.prog (HdU.G mx) nJ:=HdU.entry (l:=[]) (m:=1000000) HdU.none (by kernel_rfl) (by kernel_rfl)
def xA:By:=⟨48,[iC],none,(.Bc [(.agg [(.sc (.int .i64 (.ofNat 16))),(Ab [43]),(Ab []),(.sc (.int .i64 (.ofNat 0))),(.sc (.int .i64 (.ofNat 0))),(.sc (.int .i64 (.ofNat 0))),(.sc (.int .i64 (.ofNat 0))),(.sc (.int .i64 (.ofNat 0))),(.sl .full 0 []),mZ,(.sc (.int .i64 (.ofNat 0)))]),(.sl .full 0 [])])⟩
theorem lQ {mx:Int}:Aq Tryz.prog (HdU.G mx) xA:=HdU.entry (l:=[e8,VC,Wh,YK,Zf,dI,gH,wH,nJ]) (m:=1000000) (Aa.cons rR (Aa.cons Gy (Aa.cons Hb (Aa.cons Ik (Aa.cons IY (Aa.cons JM (Aa.cons Ln (Aa.cons gW (Aa.cons NJ HdU.none))))))))) (by kernel_rfl) (by kernel_rfl)
def wC:By:=⟨75,[],(some ([uM,(.sc (.int .i64 (.ofNat 0))),(.sc (.int .i64 (.ofNat 5)))],[uM,(.sc (.int .i64 (.ofNat 3))),(.sc (.int .i64 (.ofNat 5)))])),(.agg [(.sc (.int .i64 (.ofNat 16))),(Ab [43]),(Ab []),(.sc (.int .i64 (.ofNat 0))),(.sc (.int .i64 (.ofNat 0))),(.sc (.int .i64 (.ofNat 0))),(.sc (.int .i64 (.ofNat 0))),(.sc (.int .i64 (.ofNat 0))),(.sl .full 0 []),nE,(.sc (.int .i64 (.ofNat 0)))])⟩
theorem iS {mx:Int}:Aq Tryz.prog (HdU.G mx) wC:=HdU.entry (l:=[e1,Ov,OV,OB,Of,OL,Oy,OH,RG,RH]) (m:=1000000) (Aa.cons GB (Aa.cons Dv (Aa.cons Du (Aa.cons DC (Aa.cons DA (Aa.cons Dr (Aa.cons Dy (Aa.cons Dt (Aa.cons Ez (Aa.cons EB HdU.none)))))))))) (by kernel_rfl) (by kernel_rfl)
def oG:By:=⟨47,[(.agg [(.sc (.int .i64 (.ofNat 16))),(Ab [43]),(Ab []),(.sc (.int .i64 (.ofNat 0))),(.sc (.int .i64 (.ofNat 0))),(.sc (.int .i64 (.ofNat 0))),(.sc (.int .i64 (.ofNat 0))),(.sc (.int .i64 (.ofNat 0))),(.sl .full 0 []),nE,(.sc (.int .i64 (.ofNat 0)))])],none,(.Bc [(.agg [(.sc (.int .i64 (.ofNat 16))),(Ab [43]),(Ab []),(.sc (.int .i64 (.ofNat 0))),(.sc (.int .i64 (.ofNat 0))),(.sc (.int .i64 (.ofNat 0))),(.sc (.int .i64 (.ofNat 0))),(.sc (.int .i64 (.ofNat 0))),(.sl .full 0 []),nE,(.sc (.int .i64 (.ofNat 0)))]),(.sl .full 0 [])])⟩
theorem P7 {mx:Int}:Aq Tryz.prog (HdU.G mx) oG:=HdU.entry (l:=[]) (m:=1000000) HdU.none (by kernel_rfl) (by kernel_rfl)
def xL:By:=⟨48,[(Ab [120,32,43,32,49])],none,(.Bc [(.agg [(.sc (.int .i64 (.ofNat 16))),(Ab [43]),(Ab []),(.sc (.int .i64 (.ofNat 0))),(.sc (.int .i64 (.ofNat 0))),(.sc (.int .i64 (.ofNat 0))),(.sc (.int .i64 (.ofNat 0))),(.sc (.int .i64 (.ofNat 0))),(.sl .full 0 []),nE,(.sc (.int .i64 (.ofNat 0)))]),(.sl .full 0 [])])⟩
theorem jL {mx:Int}:Aq Tryz.prog (HdU.G mx) xL:=HdU.entry (l:=[e9,VC,Wh,YK,Zf,dI,gH,nJ,wC,oG]) (m:=1000000) (Aa.cons nS (Aa.cons Gy (Aa.cons Hb (Aa.cons Ik (Aa.cons IY (Aa.cons JM (Aa.cons Ln (Aa.cons NJ (Aa.cons iS (Aa.cons P7 HdU.none)))))))))) (by kernel_rfl) (by kernel_rfl)
def xD:By:=⟨75,[],(some ([(.sl .lost 2 [(.sc (.int .i64 (.ofNat 1))),(Ab [97,114,116]),(.sc (.int .i64 (.ofNat 0))),(.sc (.int .i64 (.ofNat 3))),(Ab [50]),(.sc (.int .i64 (.ofNat 4)))]),(.sc (.int .i64 (.ofNat 0))),(.sc (.int .i64 (.ofNat 5)))],[(.sl .lost 2 [(.sc (.int .i64 (.ofNat 1))),(Ab [97,114,116]),(.sc (.int .i64 (.ofNat 0))),(.sc (.int .i64 (.ofNat 3))),(Ab [50]),(.sc (.int .i64 (.ofNat 4)))]),(.sc (.int .i64 (.ofNat 2))),(.sc (.int .i64 (.ofNat 5)))])),(.agg [(.sc (.int .i64 (.ofNat 13))),(Ab []),(Ab []),(.sc (.int .i64 (.ofNat 2))),(.sc (.int .i64 (.ofNat 0))),(.sc (.int .i64 (.ofNat 0))),(.sc (.int .i64 (.ofNat 0))),(.sc (.int .i64 (.ofNat 0))),(.sl .full 0 []),(.sl .full 0 []),(.sc (.int .i64 (.ofNat 0)))])⟩
theorem jD {mx:Int}:Aq Tryz.prog (HdU.G mx) xD:=HdU.entry (l:=[e1,Ov,OV,OB,Of,OL,Oy,OH,RG,RH]) (m:=1000000) (Aa.cons GB (Aa.cons Dv (Aa.cons Du (Aa.cons DC (Aa.cons DA (Aa.cons Dr (Aa.cons Dy (Aa.cons Dt (Aa.cons Ez (Aa.cons EB HdU.none)))))))))) (by kernel_rfl) (by kernel_rfl)
def sP:By:=⟨47,[(.agg [(.sc (.int .i64 (.ofNat 13))),(Ab []),(Ab []),(.sc (.int .i64 (.ofNat 2))),(.sc (.int .i64 (.ofNat 0))),(.sc (.int .i64 (.ofNat 0))),(.sc (.int .i64 (.ofNat 0))),(.sc (.int .i64 (.ofNat 0))),(.sl .full 0 []),(.sl .full 0 []),(.sc (.int .i64 (.ofNat 0)))])],none,(.Bc [(.agg [(.sc (.int .i64 (.ofNat 13))),(Ab []),(Ab []),(.sc (.int .i64 (.ofNat 2))),(.sc (.int .i64 (.ofNat 0))),(.sc (.int .i64 (.ofNat 0))),(.sc (.int .i64 (.ofNat 0))),(.sc (.int .i64 (.ofNat 0))),(.sl .full 0 []),(.sl .full 0 []),(.sc (.int .i64 (.ofNat 0)))]),(.sl .full 0 [])])⟩
theorem SK {mx:Int}:Aq Tryz.prog (HdU.G mx) sP:=HdU.entry (l:=[]) (m:=1000000) HdU.none (by kernel_rfl) (by kernel_rfl)
def yO:By:=⟨48,[(Ab [97,114,116,32,50])],none,(.Bc [(.agg [(.sc (.int .i64 (.ofNat 13))),(Ab []),(Ab []),(.sc (.int .i64 (.ofNat 2))),(.sc (.int .i64 (.ofNat 0))),(.sc (.int .i64 (.ofNat 0))),(.sc (.int .i64 (.ofNat 0))),(.sc (.int .i64 (.ofNat 0))),(.sl .full 0 []),(.sl .full 0 []),(.sc (.int .i64 (.ofNat 0)))]),(.sl .full 0 [])])⟩
theorem kL {mx:Int}:Aq Tryz.prog (HdU.G mx) yO:=HdU.entry (l:=[nH,VC,Wh,YK,Zf,dI,gH,nJ,oG,xD,sP]) (m:=1000000) (Aa.cons gZ (Aa.cons Gy (Aa.cons Hb (Aa.cons Ik (Aa.cons IY (Aa.cons JM (Aa.cons Ln (Aa.cons NJ (Aa.cons P7 (Aa.cons jD (Aa.cons SK HdU.none))))))))))) (by kernel_rfl) (by kernel_rfl)
def yD:By:=⟨75,[],(some ([tG,(.sc (.int .i64 (.ofNat 0))),(.sc (.int .i64 (.ofNat 26)))],[tG,(.sc (.int .i64 (.ofNat 12))),(.sc (.int .i64 (.ofNat 26)))])),(.agg [(.sc (.int .i64 (.ofNat 18))),(Ab []),(Ab []),(.sc (.int .i64 (.ofNat 0))),(.sc (.int .i64 (.ofNat 0))),(.sc (.int .i64 (.ofNat 0))),(.sc (.int .i64 (.ofNat 0))),(.sc (.int .i64 (.ofNat 10))),(.sl .lost 1 [(.sc (.int .i64 (.ofNat 0))),(.sc (.int .i64 (.ofNat 0))),(.sc (.int .i64 (.ofNat 1)))]),nK,(.sc (.int .i64 (.ofNat 0)))])⟩
theorem fW {mx:Int}:Aq Tryz.prog (HdU.G mx) yD:=HdU.entry (l:=[e1,Ov,OV,OB,Of,OL,Oy,OH,RG,RH]) (m:=1000000) (Aa.cons GB (Aa.cons Dv (Aa.cons Du (Aa.cons DC (Aa.cons DA (Aa.cons Dr (Aa.cons Dy (Aa.cons Dt (Aa.cons Ez (Aa.cons EB HdU.none)))))))))) (by kernel_rfl) (by kernel_rfl)
def tM:By:=⟨47,[(.agg [(.sc (.int .i64 (.ofNat 18))),(Ab []),(Ab []),(.sc (.int .i64 (.ofNat 0))),(.sc (.int .i64 (.ofNat 0))),(.sc (.int .i64 (.ofNat 0))),(.sc (.int .i64 (.ofNat 0))),(.sc (.int .i64 (.ofNat 10))),(.sl .lost 1 [(.sc (.int .i64 (.ofNat 0))),(.sc (.int .i64 (.ofNat 0))),(.sc (.int .i64 (.ofNat 1)))]),nK,(.sc (.int .i64 (.ofNat 0)))])],none,(.Bc [(.agg [(.sc (.int .i64 (.ofNat 18))),(Ab []),(Ab []),(.sc (.int .i64 (.ofNat 0))),(.sc (.int .i64 (.ofNat 0))),(.sc (.int .i64 (.ofNat 0))),(.sc (.int .i64 (.ofNat 0))),(.sc (.int .i64 (.ofNat 10))),(.sl .lost 1 [(.sc (.int .i64 (.ofNat 0))),(.sc (.int .i64 (.ofNat 0))),(.sc (.int .i64 (.ofNat 1)))]),nK,(.sc (.int .i64 (.ofNat 0)))]),(.sl .full 0 [])])⟩
theorem VT {mx:Int}:Aq Tryz.prog (HdU.G mx) tM:=HdU.entry (l:=[]) (m:=1000000) HdU.none (by kernel_rfl) (by kernel_rfl)
def xX:By:=⟨48,[vB],none,(.Bc [(.agg [(.sc (.int .i64 (.ofNat 18))),(Ab []),(Ab []),(.sc (.int .i64 (.ofNat 0))),(.sc (.int .i64 (.ofNat 0))),(.sc (.int .i64 (.ofNat 0))),(.sc (.int .i64 (.ofNat 0))),(.sc (.int .i64 (.ofNat 10))),(.sl .lost 1 [(.sc (.int .i64 (.ofNat 0))),(.sc (.int .i64 (.ofNat 0))),(.sc (.int .i64 (.ofNat 1)))]),nK,(.sc (.int .i64 (.ofNat 0)))]),(.sl .full 0 [])])⟩
theorem mM {mx:Int}:Aq Tryz.prog (HdU.G mx) xX:=HdU.entry (l:=[sM,VC,Wh,YK,Zf,dI,gH,nJ,oG,sP,yD,tM]) (m:=1000000) (Aa.cons jV (Aa.cons Gy (Aa.cons Hb (Aa.cons Ik (Aa.cons IY (Aa.cons JM (Aa.cons Ln (Aa.cons NJ (Aa.cons P7 (Aa.cons SK (Aa.cons fW (Aa.cons VT HdU.none)))))))))))) (by kernel_rfl) (by kernel_rfl)
end Go.Proofs.YtkfplcngmiljaaaGreatDoor
namespace Go.Proofs.YtkfplcngmiljaaaGreatDoor
open AI
set_option maxRecDepth 100000
set_option maxHeartbeats 4000000
def nC:AV:=.sl .lost 2 [(.sc (.int .i64 (.ofNat 12))),(Ab [114,97,116,101]),(Ab []),(.sc (.int .i64 (.ofNat 0))),(.sc (.int .i64 (.ofNat 0))),(.sc (.int .i64 (.ofNat 0))),(.sc (.int .i64 (.ofNat 0))),(.sc (.int .i64 (.ofNat 0))),(.sl .full 0 []),(.sl .full 0 []),(.sc (.int .i64 (.ofNat 6))),(.sc (.int .i64 (.ofNat 11))),(Ab []),(Ab [69,85,82]),(.sc (.int .i64 (.ofNat 100))),(.sc (.int .i64 (.ofNat 0))),(.sc (.int .i64 (.ofNat 0))),(.sc (.int .i64 (.ofNat 0))),(.sc (.int .i64 (.ofNat 0))),(.sl .full 0 []),(.sl .full 0 []),(.sc (.int .i64 (.ofNat 12)))]
def uY:AV:=.sl .full 1 [(.sc (.int .i64 (.ofNat 11))),(Ab []),(Ab [69,85,82]),(.sc (.int .i64 (.ofNat 100))),(.sc (.int .i64 (.ofNat 0))),(.sc (.int .i64 (.ofNat 0))),(.sc (.int .i64 (.ofNat 0))),(.sc (.int .i64 (.ofNat 0))),(.sl .full 0 []),(.sl .full 0 []),(.sc (.int .i64 (.ofNat 153)))]
def nD:AV:=.sl .lost 2 [(.sc (.int .i64 (.ofNat 5))),(Ab []),(Ab []),(.sc (.int .i64 (.ofNat 1))),(.sc (.int .i64 (.ofNat 8766))),(.sc (.int .i64 (.ofNat 36525))),(.sc (.int .i64 (.ofNat 8766))),(.sc (.int .i64 (.ofNat 0))),(.sl .full 0 []),(.sl .full 0 []),(.sc (.int .i64 (.ofNat 104))),(.sc (.int .i64 (.ofNat 8))),(Ab []),(Ab []),(.sc (.int .i64 (.ofNat 0))),(.sc (.int .i64 (.ofNat 0))),(.sc (.int .i64 (.ofNat 0))),(.sc (.int .i64 (.ofNat 0))),(.sc (.int .i64 (.ofNat 0))),(.sl .full 0 []),uY,(.sc (.int .i64 (.ofNat 146)))]
def L4:AV:=.sl .lost 5 [(.sc (.int .i64 (.ofNat 2))),(Ab [104,111,117,114,115]),k1,(.sc (.int .i64 (.ofNat 0))),(.sc (.int .i64 (.ofNat 0))),(.sc (.int .i64 (.ofNat 0))),(.sc (.int .i64 (.ofNat 0))),(.sc (.int .i64 (.ofNat 0))),(.sl .full 0 []),(.sl .full 0 []),(.sc (.int .i64 (.ofNat 0))),(.sc (.int .i64 (.ofNat 2))),(Ab [114,97,116,101]),(Ab [69,85,82]),(.sc (.int .i64 (.ofNat 0))),(.sc (.int .i64 (.ofNat 0))),(.sc (.int .i64 (.ofNat 0))),(.sc (.int .i64 (.ofNat 0))),(.sc (.int .i64 (.ofNat 0))),(.sl .full 0 []),(.sl .full 0 []),(.sc (.int .i64 (.ofNat 22))),(.sc (.int .i64 (.ofNat 2))),k2,(Ab [116,114,117,116,104]),(.sc (.int .i64 (.ofNat 0))),(.sc (.int .i64 (.ofNat 0))),(.sc (.int .i64 (.ofNat 0))),(.sc (.int .i64 (.ofNat 0))),(.sc (.int .i64 (.ofNat 0))),(.sl .full 0 []),(.sl .full 0 []),(.sc (.int .i64 (.ofNat 39))),(.sc (.int .i64 (.ofNat 3))),(Ab [98,97,115,105,99]),(Ab [69,85,82]),(.sc (.int .i64 (.ofNat 1))),(.sc (.int .i64 (.ofNat 0))),(.sc (.int .i64 (.ofNat 0))),(.sc (.int .i64 (.ofNat 0))),(.sc (.int .i64 (.ofNat 0))),(.sl .full 0 []),(.sl .full 0 []),(.sc (.int .i64 (.ofNat 61))),(.sc (.int .i64 (.ofNat 4))),(Ab [98,97,115,105,99]),(Ab []),(.sc (.int .i64 (.ofNat 1))),(.sc (.int .i64 (.ofNat 0))),(.sc (.int .i64 (.ofNat 0))),(.sc (.int .i64 (.ofNat 0))),(.sc (.int .i64 (.ofNat 0))),(.sl .full 0 []),nD,(.sc (.int .i64 (.ofNat 84)))]
def wT:By:=⟨75,[],(some ([tI,(.sc (.int .i64 (.ofNat 0))),(.sc (.int .i64 (.ofNat 21)))],[tI,(.sc (.int .i64 (.ofNat 7))),(.sc (.int .i64 (.ofNat 21)))])),(.agg [(.sc (.int .i64 (.ofNat 17))),(Ab [108,101,97,115,116]),(Ab []),(.sc (.int .i64 (.ofNat 0))),(.sc (.int .i64 (.ofNat 0))),(.sc (.int .i64 (.ofNat 0))),(.sc (.int .i64 (.ofNat 0))),(.sc (.int .i64 (.ofNat 0))),(.sl .full 0 []),nC,(.sc (.int .i64 (.ofNat 0)))])⟩
theorem gJ {mx:Int}:Aq Tryz.prog (HdU.G mx) wT:=HdU.entry (l:=[e1,Ov,OV,OB,Of,OL,Oy,OH,RG,RH]) (m:=1000000) (Aa.cons GB (Aa.cons Dv (Aa.cons Du (Aa.cons DC (Aa.cons DA (Aa.cons Dr (Aa.cons Dy (Aa.cons Dt (Aa.cons Ez (Aa.cons EB HdU.none)))))))))) (by kernel_rfl) (by kernel_rfl)
def xN:By:=⟨47,[(.agg [(.sc (.int .i64 (.ofNat 17))),(Ab [108,101,97,115,116]),(Ab []),(.sc (.int .i64 (.ofNat 0))),(.sc (.int .i64 (.ofNat 0))),(.sc (.int .i64 (.ofNat 0))),(.sc (.int .i64 (.ofNat 0))),(.sc (.int .i64 (.ofNat 0))),(.sl .full 0 []),nC,(.sc (.int .i64 (.ofNat 0)))])],none,(.Bc [(.agg [(.sc (.int .i64 (.ofNat 17))),(Ab [108,101,97,115,116]),(Ab []),(.sc (.int .i64 (.ofNat 0))),(.sc (.int .i64 (.ofNat 0))),(.sc (.int .i64 (.ofNat 0))),(.sc (.int .i64 (.ofNat 0))),(.sc (.int .i64 (.ofNat 0))),(.sl .full 0 []),nC,(.sc (.int .i64 (.ofNat 0)))]),(.sl .full 0 [])])⟩
theorem fV {mx:Int}:Aq Tryz.prog (HdU.G mx) xN:=HdU.entry (l:=[]) (m:=1000000) HdU.none (by kernel_rfl) (by kernel_rfl)
def xR:By:=⟨48,[tC],none,(.Bc [(.agg [(.sc (.int .i64 (.ofNat 17))),(Ab [108,101,97,115,116]),(Ab []),(.sc (.int .i64 (.ofNat 0))),(.sc (.int .i64 (.ofNat 0))),(.sc (.int .i64 (.ofNat 0))),(.sc (.int .i64 (.ofNat 0))),(.sc (.int .i64 (.ofNat 0))),(.sl .full 0 []),nC,(.sc (.int .i64 (.ofNat 0)))]),(.sl .full 0 [])])⟩
theorem mH {mx:Int}:Aq Tryz.prog (HdU.G mx) xR:=HdU.entry (l:=[wZ,VC,Wh,YK,Zf,dI,gH,nJ,oG,sP,tM,wT,xN]) (m:=1000000) (Aa.cons lW (Aa.cons Gy (Aa.cons Hb (Aa.cons Ik (Aa.cons IY (Aa.cons JM (Aa.cons Ln (Aa.cons NJ (Aa.cons P7 (Aa.cons SK (Aa.cons VT (Aa.cons gJ (Aa.cons fV HdU.none))))))))))))) (by kernel_rfl) (by kernel_rfl)
def mX:By:=⟨70,[],(some ([k5,(.sc (.int .i64 (.ofNat 0))),(.sc (.int .i64 (.ofNat 164)))],[k5,(.sc (.int .i64 (.ofNat 5))),(.sc (.int .i64 (.ofNat 164)))])),(.agg [(.sc (.int .i64 (.ofNat 2))),(Ab [104,111,117,114,115]),k1,(.sc (.int .i64 (.ofNat 0))),(.sc (.int .i64 (.ofNat 0))),(.sc (.int .i64 (.ofNat 0))),(.sc (.int .i64 (.ofNat 0))),(.sc (.int .i64 (.ofNat 0))),(.sl .full 0 []),(.sl .full 0 []),(.sc (.int .i64 (.ofNat 0)))])⟩
theorem MW {mx:Int}:Aq Tryz.prog (HdU.G mx) mX:=HdU.entry (l:=[]) (m:=1000000) HdU.none (by kernel_rfl) (by kernel_rfl)
def x6:By:=⟨45,[],(some ([k5,(.sc (.int .i64 (.ofNat 0))),(.sc (.int .i64 (.ofNat 164)))],[k5,(.sc (.int .i64 (.ofNat 5))),(.sc (.int .i64 (.ofNat 164)))])),(.agg [(.sc (.int .i64 (.ofNat 2))),(Ab [104,111,117,114,115]),k1,(.sc (.int .i64 (.ofNat 0))),(.sc (.int .i64 (.ofNat 0))),(.sc (.int .i64 (.ofNat 0))),(.sc (.int .i64 (.ofNat 0))),(.sc (.int .i64 (.ofNat 0))),(.sl .full 0 []),(.sl .full 0 []),(.sc (.int .i64 (.ofNat 0)))])⟩
theorem kX {mx:Int}:Aq Tryz.prog (HdU.G mx) x6:=HdU.entry (l:=[mX]) (m:=1000000) (Aa.cons MW HdU.none) (by kernel_rfl) (by kernel_rfl)
def rL:By:=⟨70,[],(some ([k5,(.sc (.int .i64 (.ofNat 5))),(.sc (.int .i64 (.ofNat 164)))],[k5,(.sc (.int .i64 (.ofNat 10))),(.sc (.int .i64 (.ofNat 164)))])),(.agg [(.sc (.int .i64 (.ofNat 2))),(Ab [114,97,116,101]),(Ab [69,85,82]),(.sc (.int .i64 (.ofNat 0))),(.sc (.int .i64 (.ofNat 0))),(.sc (.int .i64 (.ofNat 0))),(.sc (.int .i64 (.ofNat 0))),(.sc (.int .i64 (.ofNat 0))),(.sl .full 0 []),(.sl .full 0 []),(.sc (.int .i64 (.ofNat 22)))])⟩
theorem PX {mx:Int}:Aq Tryz.prog (HdU.G mx) rL:=HdU.entry (l:=[]) (m:=1000000) HdU.none (by kernel_rfl) (by kernel_rfl)
def x8:By:=⟨45,[],(some ([k5,(.sc (.int .i64 (.ofNat 5))),(.sc (.int .i64 (.ofNat 164)))],[k5,(.sc (.int .i64 (.ofNat 10))),(.sc (.int .i64 (.ofNat 164)))])),(.agg [(.sc (.int .i64 (.ofNat 2))),(Ab [114,97,116,101]),(Ab [69,85,82]),(.sc (.int .i64 (.ofNat 0))),(.sc (.int .i64 (.ofNat 0))),(.sc (.int .i64 (.ofNat 0))),(.sc (.int .i64 (.ofNat 0))),(.sc (.int .i64 (.ofNat 0))),(.sl .full 0 []),(.sl .full 0 []),(.sc (.int .i64 (.ofNat 22)))])⟩
theorem gE {mx:Int}:Aq Tryz.prog (HdU.G mx) x8:=HdU.entry (l:=[mX,rL]) (m:=1000000) (Aa.cons MW (Aa.cons PX HdU.none)) (by kernel_rfl) (by kernel_rfl)
def sS:By:=⟨70,[],(some ([k5,(.sc (.int .i64 (.ofNat 10))),(.sc (.int .i64 (.ofNat 164)))],[k5,(.sc (.int .i64 (.ofNat 15))),(.sc (.int .i64 (.ofNat 164)))])),(.agg [(.sc (.int .i64 (.ofNat 2))),k2,(Ab [116,114,117,116,104]),(.sc (.int .i64 (.ofNat 0))),(.sc (.int .i64 (.ofNat 0))),(.sc (.int .i64 (.ofNat 0))),(.sc (.int .i64 (.ofNat 0))),(.sc (.int .i64 (.ofNat 0))),(.sl .full 0 []),(.sl .full 0 []),(.sc (.int .i64 (.ofNat 39)))])⟩
theorem S0 {mx:Int}:Aq Tryz.prog (HdU.G mx) sS:=HdU.entry (l:=[]) (m:=1000000) HdU.none (by kernel_rfl) (by kernel_rfl)
def v8:By:=⟨45,[],(some ([k5,(.sc (.int .i64 (.ofNat 10))),(.sc (.int .i64 (.ofNat 164)))],[k5,(.sc (.int .i64 (.ofNat 15))),(.sc (.int .i64 (.ofNat 164)))])),(.agg [(.sc (.int .i64 (.ofNat 2))),k2,(Ab [116,114,117,116,104]),(.sc (.int .i64 (.ofNat 0))),(.sc (.int .i64 (.ofNat 0))),(.sc (.int .i64 (.ofNat 0))),(.sc (.int .i64 (.ofNat 0))),(.sc (.int .i64 (.ofNat 0))),(.sl .full 0 []),(.sl .full 0 []),(.sc (.int .i64 (.ofNat 39)))])⟩
theorem jF {mx:Int}:Aq Tryz.prog (HdU.G mx) v8:=HdU.entry (l:=[mX,rL,sS]) (m:=1000000) (Aa.cons MW (Aa.cons PX (Aa.cons S0 HdU.none))) (by kernel_rfl) (by kernel_rfl)
def uC:By:=⟨70,[],(some ([k5,(.sc (.int .i64 (.ofNat 15))),(.sc (.int .i64 (.ofNat 164)))],[k5,(.sc (.int .i64 (.ofNat 21))),(.sc (.int .i64 (.ofNat 164)))])),(.agg [(.sc (.int .i64 (.ofNat 3))),(Ab [98,97,115,105,99]),(Ab [69,85,82]),(.sc (.int .i64 (.ofNat 1))),(.sc (.int .i64 (.ofNat 0))),(.sc (.int .i64 (.ofNat 0))),(.sc (.int .i64 (.ofNat 0))),(.sc (.int .i64 (.ofNat 0))),(.sl .full 0 []),(.sl .full 0 []),(.sc (.int .i64 (.ofNat 61)))])⟩
theorem VE {mx:Int}:Aq Tryz.prog (HdU.G mx) uC:=HdU.entry (l:=[]) (m:=1000000) HdU.none (by kernel_rfl) (by kernel_rfl)
def xF:By:=⟨45,[],(some ([k5,(.sc (.int .i64 (.ofNat 15))),(.sc (.int .i64 (.ofNat 164)))],[k5,(.sc (.int .i64 (.ofNat 21))),(.sc (.int .i64 (.ofNat 164)))])),(.agg [(.sc (.int .i64 (.ofNat 3))),(Ab [98,97,115,105,99]),(Ab [69,85,82]),(.sc (.int .i64 (.ofNat 1))),(.sc (.int .i64 (.ofNat 0))),(.sc (.int .i64 (.ofNat 0))),(.sc (.int .i64 (.ofNat 0))),(.sc (.int .i64 (.ofNat 0))),(.sl .full 0 []),(.sl .full 0 []),(.sc (.int .i64 (.ofNat 61)))])⟩
theorem iO {mx:Int}:Aq Tryz.prog (HdU.G mx) xF:=HdU.entry (l:=[mX,rL,sS,uC]) (m:=1000000) (Aa.cons MW (Aa.cons PX (Aa.cons S0 (Aa.cons VE HdU.none)))) (by kernel_rfl) (by kernel_rfl)
def oT:By:=⟨139,[k4],none,(.Bc [(.sc (.int .i64 (.ofNat 8766))),(.sc (.int .i64 (.ofNat 0)))])⟩
theorem Pv {mx:Int}:Aq Tryz.prog (HdU.G mx) oT:=HdU.entry (l:=[]) (m:=1000000) HdU.none (by kernel_rfl) (by kernel_rfl)
def xI:By:=⟨128,[(.sc (.int .i64 (.ofNat 0)))],(some ([k5,(.sc (.int .i64 (.ofNat 28))),(.sc (.int .i64 (.ofNat 164)))],[k5,(.sc (.int .i64 (.ofNat 29))),(.sc (.int .i64 (.ofNat 164)))])),(.sc (.int .i64 (.ofNat 8766)))⟩
theorem fK {mx:Int}:Aq Tryz.prog (HdU.G mx) xI:=HdU.entry (l:=[oT]) (m:=1000000) (Aa.cons Pv HdU.none) (by kernel_rfl) (by kernel_rfl)
def wF:By:=⟨128,[(.sc (.int .i64 (.ofNat 0)))],(some ([k5,(.sc (.int .i64 (.ofNat 30))),(.sc (.int .i64 (.ofNat 164)))],[k5,(.sc (.int .i64 (.ofNat 31))),(.sc (.int .i64 (.ofNat 164)))])),(.sc (.int .i64 (.ofNat 8766)))⟩
theorem fQ {mx:Int}:Aq Tryz.prog (HdU.G mx) wF:=HdU.entry (l:=[oT]) (m:=1000000) (Aa.cons Pv HdU.none) (by kernel_rfl) (by kernel_rfl)
def xK:By:=⟨110,[],(some ([k5,(.sc (.int .i64 (.ofNat 25))),(.sc (.int .i64 (.ofNat 164)))],[k5,(.sc (.int .i64 (.ofNat 31))),(.sc (.int .i64 (.ofNat 164)))])),(.agg [(.sc (.int .i64 (.ofNat 5))),(Ab []),(Ab []),(.sc (.int .i64 (.ofNat 1))),(.sc (.int .i64 (.ofNat 8766))),(.sc (.int .i64 (.ofNat 36525))),(.sc (.int .i64 (.ofNat 8766))),(.sc (.int .i64 (.ofNat 0))),(.sl .full 0 []),(.sl .full 0 []),(.sc (.int .i64 (.ofNat 104)))])⟩
theorem jK {mx:Int}:Aq Tryz.prog (HdU.G mx) xK:=HdU.entry (l:=[Ov,OV,OB,Of,OL,Oy,OH,xI,wF]) (m:=1000000) (Aa.cons Dv (Aa.cons Du (Aa.cons DC (Aa.cons DA (Aa.cons Dr (Aa.cons Dy (Aa.cons Dt (Aa.cons fK (Aa.cons fQ HdU.none))))))))) (by kernel_rfl) (by kernel_rfl)
def wD:By:=⟨75,[],(some ([k5,(.sc (.int .i64 (.ofNat 33))),(.sc (.int .i64 (.ofNat 164)))],[k5,(.sc (.int .i64 (.ofNat 35))),(.sc (.int .i64 (.ofNat 164)))])),(.agg [(.sc (.int .i64 (.ofNat 11))),(Ab []),(Ab [69,85,82]),(.sc (.int .i64 (.ofNat 100))),(.sc (.int .i64 (.ofNat 0))),(.sc (.int .i64 (.ofNat 0))),(.sc (.int .i64 (.ofNat 0))),(.sc (.int .i64 (.ofNat 0))),(.sl .full 0 []),(.sl .full 0 []),(.sc (.int .i64 (.ofNat 153)))])⟩
theorem iV {mx:Int}:Aq Tryz.prog (HdU.G mx) wD:=HdU.entry (l:=[e1,Ov,OV,OB,Of,OL,Oy,OH,RG,RH]) (m:=1000000) (Aa.cons GB (Aa.cons Dv (Aa.cons Du (Aa.cons DC (Aa.cons DA (Aa.cons Dr (Aa.cons Dy (Aa.cons Dt (Aa.cons Ez (Aa.cons EB HdU.none)))))))))) (by kernel_rfl) (by kernel_rfl)
def wE:By:=⟨111,[(.sc (.int .i64 (.ofNat 8)))],(some ([k5,(.sc (.int .i64 (.ofNat 32))),(.sc (.int .i64 (.ofNat 164)))],[k5,(.sc (.int .i64 (.ofNat 36))),(.sc (.int .i64 (.ofNat 164)))])),(.agg [(.sc (.int .i64 (.ofNat 8))),(Ab []),(Ab []),(.sc (.int .i64 (.ofNat 0))),(.sc (.int .i64 (.ofNat 0))),(.sc (.int .i64 (.ofNat 0))),(.sc (.int .i64 (.ofNat 0))),(.sc (.int .i64 (.ofNat 0))),(.sl .full 0 []),uY,(.sc (.int .i64 (.ofNat 146)))])⟩
theorem lC {mx:Int}:Aq Tryz.prog (HdU.G mx) wE:=HdU.entry (l:=[e1,Ov,OV,OB,Of,OL,Oy,OH,RG,RH,wD]) (m:=1000000) (Aa.cons GB (Aa.cons Dv (Aa.cons Du (Aa.cons DC (Aa.cons DA (Aa.cons Dr (Aa.cons Dy (Aa.cons Dt (Aa.cons Ez (Aa.cons EB (Aa.cons iV HdU.none))))))))))) (by kernel_rfl) (by kernel_rfl)
def yM:By:=⟨71,[],(some ([k5,(.sc (.int .i64 (.ofNat 21))),(.sc (.int .i64 (.ofNat 164)))],[k5,(.sc (.int .i64 (.ofNat 37))),(.sc (.int .i64 (.ofNat 164)))])),(.agg [(.sc (.int .i64 (.ofNat 4))),(Ab [98,97,115,105,99]),(Ab []),(.sc (.int .i64 (.ofNat 1))),(.sc (.int .i64 (.ofNat 0))),(.sc (.int .i64 (.ofNat 0))),(.sc (.int .i64 (.ofNat 0))),(.sc (.int .i64 (.ofNat 0))),(.sl .full 0 []),nD,(.sc (.int .i64 (.ofNat 84)))])⟩
theorem fP {mx:Int}:Aq Tryz.prog (HdU.G mx) yM:=HdU.entry (l:=[Ov,OV,OB,Of,OL,Oy,OH,xK,wE]) (m:=1000000) (Aa.cons Dv (Aa.cons Du (Aa.cons DC (Aa.cons DA (Aa.cons Dr (Aa.cons Dy (Aa.cons Dt (Aa.cons jK (Aa.cons lC HdU.none))))))))) (by kernel_rfl) (by kernel_rfl)
def wX:By:=⟨45,[],(some ([k5,(.sc (.int .i64 (.ofNat 21))),(.sc (.int .i64 (.ofNat 164)))],[k5,(.sc (.int .i64 (.ofNat 37))),(.sc (.int .i64 (.ofNat 164)))])),(.agg [(.sc (.int .i64 (.ofNat 4))),(Ab [98,97,115,105,99]),(Ab []),(.sc (.int .i64 (.ofNat 1))),(.sc (.int .i64 (.ofNat 0))),(.sc (.int .i64 (.ofNat 0))),(.sc (.int .i64 (.ofNat 0))),(.sc (.int .i64 (.ofNat 0))),(.sl .full 0 []),nD,(.sc (.int .i64 (.ofNat 84)))])⟩
theorem gT {mx:Int}:Aq Tryz.prog (HdU.G mx) wX:=HdU.entry (l:=[mX,rL,sS,uC,yM]) (m:=1000000) (Aa.cons MW (Aa.cons PX (Aa.cons S0 (Aa.cons VE (Aa.cons fP HdU.none))))) (by kernel_rfl) (by kernel_rfl)
def yB:By:=⟨27,[k0],none,(.Bc [(.agg [(.sc (.int .i64 (.ofNat 1))),(Ab []),(Ab []),(.sc (.int .i64 (.ofNat 0))),(.sc (.int .i64 (.ofNat 0))),(.sc (.int .i64 (.ofNat 0))),(.sc (.int .i64 (.ofNat 0))),(.sc (.int .i64 (.ofNat 0))),(.sl .full 0 []),L4,(.sc (.int .i64 (.ofNat 0)))]),(.sl .full 0 [])])⟩
theorem gU {mx:Int}:Aq Tryz.prog (HdU.G mx) yB:=HdU.entry (l:=[e0,x6,x8,v8,xF,wX]) (m:=1000000) (Aa.cons oN (Aa.cons kX (Aa.cons gE (Aa.cons jF (Aa.cons iO (Aa.cons gT HdU.none)))))) (by kernel_rfl) (by kernel_rfl)
def lX:By:=⟨70,[],(some ([IE,(.sc (.int .i64 (.ofNat 0))),(.sc (.int .i64 (.ofNat 190)))],[IE,(.sc (.int .i64 (.ofNat 5))),(.sc (.int .i64 (.ofNat 190)))])),(.agg [(.sc (.int .i64 (.ofNat 2))),(Ab [104,111,117,114,115]),k1,(.sc (.int .i64 (.ofNat 0))),(.sc (.int .i64 (.ofNat 0))),(.sc (.int .i64 (.ofNat 0))),(.sc (.int .i64 (.ofNat 0))),(.sc (.int .i64 (.ofNat 0))),(.sl .full 0 []),(.sl .full 0 []),(.sc (.int .i64 (.ofNat 0)))])⟩
theorem KY {mx:Int}:Aq Tryz.prog (HdU.G mx) lX:=HdU.entry (l:=[]) (m:=1000000) HdU.none (by kernel_rfl) (by kernel_rfl)
def yI:By:=⟨45,[],(some ([IE,(.sc (.int .i64 (.ofNat 0))),(.sc (.int .i64 (.ofNat 190)))],[IE,(.sc (.int .i64 (.ofNat 5))),(.sc (.int .i64 (.ofNat 190)))])),(.agg [(.sc (.int .i64 (.ofNat 2))),(Ab [104,111,117,114,115]),k1,(.sc (.int .i64 (.ofNat 0))),(.sc (.int .i64 (.ofNat 0))),(.sc (.int .i64 (.ofNat 0))),(.sc (.int .i64 (.ofNat 0))),(.sc (.int .i64 (.ofNat 0))),(.sl .full 0 []),(.sl .full 0 []),(.sc (.int .i64 (.ofNat 0)))])⟩
theorem jT {mx:Int}:Aq Tryz.prog (HdU.G mx) yI:=HdU.entry (l:=[lX]) (m:=1000000) (Aa.cons KY HdU.none) (by kernel_rfl) (by kernel_rfl)
def mT:By:=⟨70,[],(some ([IE,(.sc (.int .i64 (.ofNat 5))),(.sc (.int .i64 (.ofNat 190)))],[IE,(.sc (.int .i64 (.ofNat 10))),(.sc (.int .i64 (.ofNat 190)))])),(.agg [(.sc (.int .i64 (.ofNat 2))),(Ab [114,97,116,101]),(Ab [69,85,82]),(.sc (.int .i64 (.ofNat 0))),(.sc (.int .i64 (.ofNat 0))),(.sc (.int .i64 (.ofNat 0))),(.sc (.int .i64 (.ofNat 0))),(.sc (.int .i64 (.ofNat 0))),(.sl .full 0 []),(.sl .full 0 []),(.sc (.int .i64 (.ofNat 22)))])⟩
theorem NL {mx:Int}:Aq Tryz.prog (HdU.G mx) mT:=HdU.entry (l:=[]) (m:=1000000) HdU.none (by kernel_rfl) (by kernel_rfl)
def wR:By:=⟨45,[],(some ([IE,(.sc (.int .i64 (.ofNat 5))),(.sc (.int .i64 (.ofNat 190)))],[IE,(.sc (.int .i64 (.ofNat 10))),(.sc (.int .i64 (.ofNat 190)))])),(.agg [(.sc (.int .i64 (.ofNat 2))),(Ab [114,97,116,101]),(Ab [69,85,82]),(.sc (.int .i64 (.ofNat 0))),(.sc (.int .i64 (.ofNat 0))),(.sc (.int .i64 (.ofNat 0))),(.sc (.int .i64 (.ofNat 0))),(.sc (.int .i64 (.ofNat 0))),(.sl .full 0 []),(.sl .full 0 []),(.sc (.int .i64 (.ofNat 22)))])⟩
theorem mA {mx:Int}:Aq Tryz.prog (HdU.G mx) wR:=HdU.entry (l:=[lX,mT]) (m:=1000000) (Aa.cons KY (Aa.cons NL HdU.none)) (by kernel_rfl) (by kernel_rfl)
def pE:By:=⟨70,[],(some ([IE,(.sc (.int .i64 (.ofNat 10))),(.sc (.int .i64 (.ofNat 190)))],[IE,(.sc (.int .i64 (.ofNat 15))),(.sc (.int .i64 (.ofNat 190)))])),(.agg [(.sc (.int .i64 (.ofNat 2))),k2,(Ab [116,114,117,116,104]),(.sc (.int .i64 (.ofNat 0))),(.sc (.int .i64 (.ofNat 0))),(.sc (.int .i64 (.ofNat 0))),(.sc (.int .i64 (.ofNat 0))),(.sc (.int .i64 (.ofNat 0))),(.sl .full 0 []),(.sl .full 0 []),(.sc (.int .i64 (.ofNat 39)))])⟩
theorem PV {mx:Int}:Aq Tryz.prog (HdU.G mx) pE:=HdU.entry (l:=[]) (m:=1000000) HdU.none (by kernel_rfl) (by kernel_rfl)
end Go.Proofs.YtkfplcngmiljaaaGreatDoor
namespace Go.Proofs.YtkfplcngmiljaaaGreatDoor
open AI
set_option maxRecDepth 100000
set_option maxHeartbeats 4000000
def uQ:AV:=.sl .lost 6 [(.sc (.int .i64 (.ofNat 2))),(Ab [104,111,117,114,115]),k1,(.sc (.int .i64 (.ofNat 0))),(.sc (.int .i64 (.ofNat 0))),(.sc (.int .i64 (.ofNat 0))),(.sc (.int .i64 (.ofNat 0))),(.sc (.int .i64 (.ofNat 0))),(.sl .full 0 []),(.sl .full 0 []),(.sc (.int .i64 (.ofNat 0))),(.sc (.int .i64 (.ofNat 2))),(Ab [114,97,116,101]),(Ab [69,85,82]),(.sc (.int .i64 (.ofNat 0))),(.sc (.int .i64 (.ofNat 0))),(.sc (.int .i64 (.ofNat 0))),(.sc (.int .i64 (.ofNat 0))),(.sc (.int .i64 (.ofNat 0))),(.sl .full 0 []),(.sl .full 0 []),(.sc (.int .i64 (.ofNat 22))),(.sc (.int .i64 (.ofNat 2))),k2,(Ab [116,114,117,116,104]),(.sc (.int .i64 (.ofNat 0))),(.sc (.int .i64 (.ofNat 0))),(.sc (.int .i64 (.ofNat 0))),(.sc (.int .i64 (.ofNat 0))),(.sc (.int .i64 (.ofNat 0))),(.sl .full 0 []),(.sl .full 0 []),(.sc (.int .i64 (.ofNat 39))),(.sc (.int .i64 (.ofNat 3))),(Ab [98,97,115,105,99]),(Ab [69,85,82]),(.sc (.int .i64 (.ofNat 1))),(.sc (.int .i64 (.ofNat 0))),(.sc (.int .i64 (.ofNat 0))),(.sc (.int .i64 (.ofNat 0))),(.sc (.int .i64 (.ofNat 0))),(.sl .full 0 []),(.sl .full 0 []),(.sc (.int .i64 (.ofNat 61))),(.sc (.int .i64 (.ofNat 4))),(Ab [98,97,115,105,99]),(Ab []),(.sc (.int .i64 (.ofNat 1))),(.sc (.int .i64 (.ofNat 0))),(.sc (.int .i64 (.ofNat 0))),(.sc (.int .i64 (.ofNat 0))),(.sc (.int .i64 (.ofNat 0))),(.sl .full 0 []),nD,(.sc (.int .i64 (.ofNat 84))),(.sc (.int .i64 (.ofNat 3))),(Ab [98,97,115,105,99]),(Ab [110,117,109,98,101,114]),(.sc (.int .i64 (.ofNat 4))),(.sc (.int .i64 (.ofNat 0))),(.sc (.int .i64 (.ofNat 0))),(.sc (.int .i64 (.ofNat 0))),(.sc (.int .i64 (.ofNat 0))),(.sl .full 0 []),(.sl .full 0 []),(.sc (.int .i64 (.ofNat 165)))]
def xB:By:=⟨45,[],(some ([IE,(.sc (.int .i64 (.ofNat 10))),(.sc (.int .i64 (.ofNat 190)))],[IE,(.sc (.int .i64 (.ofNat 15))),(.sc (.int .i64 (.ofNat 190)))])),(.agg [(.sc (.int .i64 (.ofNat 2))),k2,(Ab [116,114,117,116,104]),(.sc (.int .i64 (.ofNat 0))),(.sc (.int .i64 (.ofNat 0))),(.sc (.int .i64 (.ofNat 0))),(.sc (.int .i64 (.ofNat 0))),(.sc (.int .i64 (.ofNat 0))),(.sl .full 0 []),(.sl .full 0 []),(.sc (.int .i64 (.ofNat 39)))])⟩
theorem mD {mx:Int}:Aq Tryz.prog (HdU.G mx) xB:=HdU.entry (l:=[lX,mT,pE]) (m:=1000000) (Aa.cons KY (Aa.cons NL (Aa.cons PV HdU.none))) (by kernel_rfl) (by kernel_rfl)
def s5:By:=⟨70,[],(some ([IE,(.sc (.int .i64 (.ofNat 15))),(.sc (.int .i64 (.ofNat 190)))],[IE,(.sc (.int .i64 (.ofNat 21))),(.sc (.int .i64 (.ofNat 190)))])),(.agg [(.sc (.int .i64 (.ofNat 3))),(Ab [98,97,115,105,99]),(Ab [69,85,82]),(.sc (.int .i64 (.ofNat 1))),(.sc (.int .i64 (.ofNat 0))),(.sc (.int .i64 (.ofNat 0))),(.sc (.int .i64 (.ofNat 0))),(.sc (.int .i64 (.ofNat 0))),(.sl .full 0 []),(.sl .full 0 []),(.sc (.int .i64 (.ofNat 61)))])⟩
theorem S4 {mx:Int}:Aq Tryz.prog (HdU.G mx) s5:=HdU.entry (l:=[]) (m:=1000000) HdU.none (by kernel_rfl) (by kernel_rfl)
def vZ:By:=⟨45,[],(some ([IE,(.sc (.int .i64 (.ofNat 15))),(.sc (.int .i64 (.ofNat 190)))],[IE,(.sc (.int .i64 (.ofNat 21))),(.sc (.int .i64 (.ofNat 190)))])),(.agg [(.sc (.int .i64 (.ofNat 3))),(Ab [98,97,115,105,99]),(Ab [69,85,82]),(.sc (.int .i64 (.ofNat 1))),(.sc (.int .i64 (.ofNat 0))),(.sc (.int .i64 (.ofNat 0))),(.sc (.int .i64 (.ofNat 0))),(.sc (.int .i64 (.ofNat 0))),(.sl .full 0 []),(.sl .full 0 []),(.sc (.int .i64 (.ofNat 61)))])⟩
theorem jR {mx:Int}:Aq Tryz.prog (HdU.G mx) vZ:=HdU.entry (l:=[lX,mT,pE,s5]) (m:=1000000) (Aa.cons KY (Aa.cons NL (Aa.cons PV (Aa.cons S4 HdU.none)))) (by kernel_rfl) (by kernel_rfl)
def vX:By:=⟨128,[(.sc (.int .i64 (.ofNat 0)))],(some ([IE,(.sc (.int .i64 (.ofNat 28))),(.sc (.int .i64 (.ofNat 190)))],[IE,(.sc (.int .i64 (.ofNat 29))),(.sc (.int .i64 (.ofNat 190)))])),(.sc (.int .i64 (.ofNat 8766)))⟩
theorem kK {mx:Int}:Aq Tryz.prog (HdU.G mx) vX:=HdU.entry (l:=[oT]) (m:=1000000) (Aa.cons Pv HdU.none) (by kernel_rfl) (by kernel_rfl)
def yK:By:=⟨128,[(.sc (.int .i64 (.ofNat 0)))],(some ([IE,(.sc (.int .i64 (.ofNat 30))),(.sc (.int .i64 (.ofNat 190)))],[IE,(.sc (.int .i64 (.ofNat 31))),(.sc (.int .i64 (.ofNat 190)))])),(.sc (.int .i64 (.ofNat 8766)))⟩
theorem mN {mx:Int}:Aq Tryz.prog (HdU.G mx) yK:=HdU.entry (l:=[oT]) (m:=1000000) (Aa.cons Pv HdU.none) (by kernel_rfl) (by kernel_rfl)
def wM:By:=⟨110,[],(some ([IE,(.sc (.int .i64 (.ofNat 25))),(.sc (.int .i64 (.ofNat 190)))],[IE,(.sc (.int .i64 (.ofNat 31))),(.sc (.int .i64 (.ofNat 190)))])),(.agg [(.sc (.int .i64 (.ofNat 5))),(Ab []),(Ab []),(.sc (.int .i64 (.ofNat 1))),(.sc (.int .i64 (.ofNat 8766))),(.sc (.int .i64 (.ofNat 36525))),(.sc (.int .i64 (.ofNat 8766))),(.sc (.int .i64 (.ofNat 0))),(.sl .full 0 []),(.sl .full 0 []),(.sc (.int .i64 (.ofNat 104)))])⟩
theorem gI {mx:Int}:Aq Tryz.prog (HdU.G mx) wM:=HdU.entry (l:=[Ov,OV,OB,Of,OL,Oy,OH,vX,yK]) (m:=1000000) (Aa.cons Dv (Aa.cons Du (Aa.cons DC (Aa.cons DA (Aa.cons Dr (Aa.cons Dy (Aa.cons Dt (Aa.cons kK (Aa.cons mN HdU.none))))))))) (by kernel_rfl) (by kernel_rfl)
def xG:By:=⟨75,[],(some ([IE,(.sc (.int .i64 (.ofNat 33))),(.sc (.int .i64 (.ofNat 190)))],[IE,(.sc (.int .i64 (.ofNat 35))),(.sc (.int .i64 (.ofNat 190)))])),(.agg [(.sc (.int .i64 (.ofNat 11))),(Ab []),(Ab [69,85,82]),(.sc (.int .i64 (.ofNat 100))),(.sc (.int .i64 (.ofNat 0))),(.sc (.int .i64 (.ofNat 0))),(.sc (.int .i64 (.ofNat 0))),(.sc (.int .i64 (.ofNat 0))),(.sl .full 0 []),(.sl .full 0 []),(.sc (.int .i64 (.ofNat 153)))])⟩
theorem kY {mx:Int}:Aq Tryz.prog (HdU.G mx) xG:=HdU.entry (l:=[e1,Ov,OV,OB,Of,OL,Oy,OH,RG,RH]) (m:=1000000) (Aa.cons GB (Aa.cons Dv (Aa.cons Du (Aa.cons DC (Aa.cons DA (Aa.cons Dr (Aa.cons Dy (Aa.cons Dt (Aa.cons Ez (Aa.cons EB HdU.none)))))))))) (by kernel_rfl) (by kernel_rfl)
def wO:By:=⟨111,[(.sc (.int .i64 (.ofNat 8)))],(some ([IE,(.sc (.int .i64 (.ofNat 32))),(.sc (.int .i64 (.ofNat 190)))],[IE,(.sc (.int .i64 (.ofNat 36))),(.sc (.int .i64 (.ofNat 190)))])),(.agg [(.sc (.int .i64 (.ofNat 8))),(Ab []),(Ab []),(.sc (.int .i64 (.ofNat 0))),(.sc (.int .i64 (.ofNat 0))),(.sc (.int .i64 (.ofNat 0))),(.sc (.int .i64 (.ofNat 0))),(.sc (.int .i64 (.ofNat 0))),(.sl .full 0 []),uY,(.sc (.int .i64 (.ofNat 146)))])⟩
theorem gV {mx:Int}:Aq Tryz.prog (HdU.G mx) wO:=HdU.entry (l:=[e1,Ov,OV,OB,Of,OL,Oy,OH,RG,RH,xG]) (m:=1000000) (Aa.cons GB (Aa.cons Dv (Aa.cons Du (Aa.cons DC (Aa.cons DA (Aa.cons Dr (Aa.cons Dy (Aa.cons Dt (Aa.cons Ez (Aa.cons EB (Aa.cons kY HdU.none))))))))))) (by kernel_rfl) (by kernel_rfl)
def tV:By:=⟨71,[],(some ([IE,(.sc (.int .i64 (.ofNat 21))),(.sc (.int .i64 (.ofNat 190)))],[IE,(.sc (.int .i64 (.ofNat 37))),(.sc (.int .i64 (.ofNat 190)))])),(.agg [(.sc (.int .i64 (.ofNat 4))),(Ab [98,97,115,105,99]),(Ab []),(.sc (.int .i64 (.ofNat 1))),(.sc (.int .i64 (.ofNat 0))),(.sc (.int .i64 (.ofNat 0))),(.sc (.int .i64 (.ofNat 0))),(.sc (.int .i64 (.ofNat 0))),(.sl .full 0 []),nD,(.sc (.int .i64 (.ofNat 84)))])⟩
theorem Wo {mx:Int}:Aq Tryz.prog (HdU.G mx) tV:=HdU.entry (l:=[Ov,OV,OB,Of,OL,Oy,OH,wM,wO]) (m:=1000000) (Aa.cons Dv (Aa.cons Du (Aa.cons DC (Aa.cons DA (Aa.cons Dr (Aa.cons Dy (Aa.cons Dt (Aa.cons gI (Aa.cons gV HdU.none))))))))) (by kernel_rfl) (by kernel_rfl)
def wS:By:=⟨45,[],(some ([IE,(.sc (.int .i64 (.ofNat 21))),(.sc (.int .i64 (.ofNat 190)))],[IE,(.sc (.int .i64 (.ofNat 37))),(.sc (.int .i64 (.ofNat 190)))])),(.agg [(.sc (.int .i64 (.ofNat 4))),(Ab [98,97,115,105,99]),(Ab []),(.sc (.int .i64 (.ofNat 1))),(.sc (.int .i64 (.ofNat 0))),(.sc (.int .i64 (.ofNat 0))),(.sc (.int .i64 (.ofNat 0))),(.sc (.int .i64 (.ofNat 0))),(.sl .full 0 []),nD,(.sc (.int .i64 (.ofNat 84)))])⟩
theorem lN {mx:Int}:Aq Tryz.prog (HdU.G mx) wS:=HdU.entry (l:=[lX,mT,pE,s5,tV]) (m:=1000000) (Aa.cons KY (Aa.cons NL (Aa.cons PV (Aa.cons S4 (Aa.cons Wo HdU.none))))) (by kernel_rfl) (by kernel_rfl)
def xV:By:=⟨70,[],(some ([IE,(.sc (.int .i64 (.ofNat 37))),(.sc (.int .i64 (.ofNat 190)))],[IE,(.sc (.int .i64 (.ofNat 43))),(.sc (.int .i64 (.ofNat 190)))])),(.agg [(.sc (.int .i64 (.ofNat 3))),(Ab [98,97,115,105,99]),(Ab [110,117,109,98,101,114]),(.sc (.int .i64 (.ofNat 4))),(.sc (.int .i64 (.ofNat 0))),(.sc (.int .i64 (.ofNat 0))),(.sc (.int .i64 (.ofNat 0))),(.sc (.int .i64 (.ofNat 0))),(.sl .full 0 []),(.sl .full 0 []),(.sc (.int .i64 (.ofNat 165)))])⟩
theorem fT {mx:Int}:Aq Tryz.prog (HdU.G mx) xV:=HdU.entry (l:=[]) (m:=1000000) HdU.none (by kernel_rfl) (by kernel_rfl)
def yG:By:=⟨45,[],(some ([IE,(.sc (.int .i64 (.ofNat 37))),(.sc (.int .i64 (.ofNat 190)))],[IE,(.sc (.int .i64 (.ofNat 43))),(.sc (.int .i64 (.ofNat 190)))])),(.agg [(.sc (.int .i64 (.ofNat 3))),(Ab [98,97,115,105,99]),(Ab [110,117,109,98,101,114]),(.sc (.int .i64 (.ofNat 4))),(.sc (.int .i64 (.ofNat 0))),(.sc (.int .i64 (.ofNat 0))),(.sc (.int .i64 (.ofNat 0))),(.sc (.int .i64 (.ofNat 0))),(.sl .full 0 []),(.sl .full 0 []),(.sc (.int .i64 (.ofNat 165)))])⟩
theorem jS {mx:Int}:Aq Tryz.prog (HdU.G mx) yG:=HdU.entry (l:=[lX,mT,pE,s5,tV,xV]) (m:=1000000) (Aa.cons KY (Aa.cons NL (Aa.cons PV (Aa.cons S4 (Aa.cons Wo (Aa.cons fT HdU.none)))))) (by kernel_rfl) (by kernel_rfl)
def wV:By:=⟨27,[yL],none,(.Bc [(.agg [(.sc (.int .i64 (.ofNat 1))),(Ab []),(Ab []),(.sc (.int .i64 (.ofNat 0))),(.sc (.int .i64 (.ofNat 0))),(.sc (.int .i64 (.ofNat 0))),(.sc (.int .i64 (.ofNat 0))),(.sc (.int .i64 (.ofNat 0))),(.sl .full 0 []),uQ,(.sc (.int .i64 (.ofNat 0)))]),(.sl .full 0 [])])⟩
theorem lH {mx:Int}:Aq Tryz.prog (HdU.G mx) wV:=HdU.entry (l:=[xY,yI,wR,xB,vZ,wS,yG]) (m:=1000000) (Aa.cons lY (Aa.cons jT (Aa.cons mA (Aa.cons mD (Aa.cons jR (Aa.cons lN (Aa.cons jS HdU.none))))))) (by kernel_rfl) (by kernel_rfl)
def UU:By:=⟨29,[(.agg [(.sc (.int .i64 (.ofNat 1))),(Ab []),(Ab []),(.sc (.int .i64 (.ofNat 0))),(.sc (.int .i64 (.ofNat 0))),(.sc (.int .i64 (.ofNat 0))),(.sc (.int .i64 (.ofNat 0))),(.sc (.int .i64 (.ofNat 0))),(.sl .full 0 []),L4,(.sc (.int .i64 (.ofNat 0)))])],none,(.sc (.bool true))⟩
theorem FY {mx:Int}:Aq Tryz.prog (HdU.G mx) UU:=HdU.entry (l:=[]) (m:=1000000) HdU.none (by kernel_rfl) (by kernel_rfl)
def wI:By:=⟨16,[(.agg [(.sc (.int .i64 (.ofNat 1))),(Ab []),(Ab []),(.sc (.int .i64 (.ofNat 0))),(.sc (.int .i64 (.ofNat 0))),(.sc (.int .i64 (.ofNat 0))),(.sc (.int .i64 (.ofNat 0))),(.sc (.int .i64 (.ofNat 0))),(.sl .full 0 []),L4,(.sc (.int .i64 (.ofNat 0)))])],none,(.sl .full 0 [])⟩
theorem jJ {mx:Int}:Aq Tryz.prog (HdU.G mx) wI:=HdU.entry (l:=[UU]) (m:=1000000) (Aa.cons FY HdU.none) (by kernel_rfl) (by kernel_rfl)
def xZ:By:=⟨29,[(.agg [(.sc (.int .i64 (.ofNat 16))),(Ab [43]),(Ab []),(.sc (.int .i64 (.ofNat 0))),(.sc (.int .i64 (.ofNat 0))),(.sc (.int .i64 (.ofNat 0))),(.sc (.int .i64 (.ofNat 0))),(.sc (.int .i64 (.ofNat 0))),(.sl .full 0 []),nN,(.sc (.int .i64 (.ofNat 0)))])],none,(.sc (.bool true))⟩
theorem mE {mx:Int}:Aq Tryz.prog (HdU.G mx) xZ:=HdU.entry (l:=[]) (m:=1000000) HdU.none (by kernel_rfl) (by kernel_rfl)
def yF:By:=⟨13,[(.agg [(.sc (.int .i64 (.ofNat 1))),(Ab []),(Ab []),(.sc (.int .i64 (.ofNat 0))),(.sc (.int .i64 (.ofNat 0))),(.sc (.int .i64 (.ofNat 0))),(.sc (.int .i64 (.ofNat 0))),(.sc (.int .i64 (.ofNat 0))),(.sl .full 0 []),L4,(.sc (.int .i64 (.ofNat 0)))]),(.agg [(.sc (.int .i64 (.ofNat 16))),(Ab [43]),(Ab []),(.sc (.int .i64 (.ofNat 0))),(.sc (.int .i64 (.ofNat 0))),(.sc (.int .i64 (.ofNat 0))),(.sc (.int .i64 (.ofNat 0))),(.sc (.int .i64 (.ofNat 0))),(.sl .full 0 []),nN,(.sc (.int .i64 (.ofNat 0)))])],none,(.Bc [(Ab [69,85,82]),(.sl .full 0 [])])⟩
theorem iY {mx:Int}:Aq Tryz.prog (HdU.G mx) yF:=HdU.entry (l:=[UU,xZ]) (m:=1000000) (Aa.cons FY (Aa.cons mE HdU.none)) (by kernel_rfl) (by kernel_rfl)
def wW:By:=⟨28,[(.agg [(.sc (.int .i64 (.ofNat 1))),(Ab []),(Ab []),(.sc (.int .i64 (.ofNat 0))),(.sc (.int .i64 (.ofNat 0))),(.sc (.int .i64 (.ofNat 0))),(.sc (.int .i64 (.ofNat 0))),(.sc (.int .i64 (.ofNat 0))),(.sl .full 0 []),L4,(.sc (.int .i64 (.ofNat 0)))]),k6,(Ab [69,85,82]),(.sc (.int .i64 (.ofNat 0)))],none,(.sc (.bool true))⟩
theorem gL {mx:Int}:Aq Tryz.prog (HdU.G mx) wW:=HdU.entry (l:=[yJ,yF]) (m:=1000000) (Aa.cons lM (Aa.cons iY HdU.none)) (by kernel_rfl) (by kernel_rfl)
def wN:By:=⟨29,[(.agg [(.sc (.int .i64 (.ofNat 16))),(Ab [97,110,100]),(Ab []),(.sc (.int .i64 (.ofNat 0))),(.sc (.int .i64 (.ofNat 0))),(.sc (.int .i64 (.ofNat 0))),(.sc (.int .i64 (.ofNat 0))),(.sc (.int .i64 (.ofNat 0))),(.sl .full 0 []),mV,(.sc (.int .i64 (.ofNat 0)))])],none,(.sc (.bool true))⟩
theorem fL {mx:Int}:Aq Tryz.prog (HdU.G mx) wN:=HdU.entry (l:=[]) (m:=1000000) HdU.none (by kernel_rfl) (by kernel_rfl)
def xQ:By:=⟨13,[(.agg [(.sc (.int .i64 (.ofNat 1))),(Ab []),(Ab []),(.sc (.int .i64 (.ofNat 0))),(.sc (.int .i64 (.ofNat 0))),(.sc (.int .i64 (.ofNat 0))),(.sc (.int .i64 (.ofNat 0))),(.sc (.int .i64 (.ofNat 0))),(.sl .full 0 []),L4,(.sc (.int .i64 (.ofNat 0)))]),(.agg [(.sc (.int .i64 (.ofNat 16))),(Ab [97,110,100]),(Ab []),(.sc (.int .i64 (.ofNat 0))),(.sc (.int .i64 (.ofNat 0))),(.sc (.int .i64 (.ofNat 0))),(.sc (.int .i64 (.ofNat 0))),(.sc (.int .i64 (.ofNat 0))),(.sl .full 0 []),mV,(.sc (.int .i64 (.ofNat 0)))])],none,(.Bc [(Ab [116,114,117,116,104]),(.sl .full 0 [])])⟩
theorem lD {mx:Int}:Aq Tryz.prog (HdU.G mx) xQ:=HdU.entry (l:=[UU,wN]) (m:=1000000) (Aa.cons FY (Aa.cons fL HdU.none)) (by kernel_rfl) (by kernel_rfl)
end Go.Proofs.YtkfplcngmiljaaaGreatDoor
namespace Go.Proofs.YtkfplcngmiljaaaGreatDoor
open AI
set_option maxRecDepth 100000
set_option maxHeartbeats 4000000
def yA:By:=⟨28,[(.agg [(.sc (.int .i64 (.ofNat 1))),(Ab []),(Ab []),(.sc (.int .i64 (.ofNat 0))),(.sc (.int .i64 (.ofNat 0))),(.sc (.int .i64 (.ofNat 0))),(.sc (.int .i64 (.ofNat 0))),(.sc (.int .i64 (.ofNat 0))),(.sl .full 0 []),L4,(.sc (.int .i64 (.ofNat 0)))]),k8,(Ab [116,114,117,116,104]),(.sc (.int .i64 (.ofNat 0)))],none,(.sc (.bool true))⟩
theorem lT {mx:Int}:Aq Tryz.prog (HdU.G mx) yA:=HdU.entry (l:=[xO,xQ]) (m:=1000000) (Aa.cons gM (Aa.cons lD HdU.none)) (by kernel_rfl) (by kernel_rfl)
def vW:By:=⟨29,[(.agg [(.sc (.int .i64 (.ofNat 15))),(Ab []),(Ab []),(.sc (.int .i64 (.ofNat 0))),(.sc (.int .i64 (.ofNat 0))),(.sc (.int .i64 (.ofNat 0))),(.sc (.int .i64 (.ofNat 0))),(.sc (.int .i64 (.ofNat 0))),(.sl .full 0 []),nL,(.sc (.int .i64 (.ofNat 0)))])],none,(.sc (.bool true))⟩
theorem gY {mx:Int}:Aq Tryz.prog (HdU.G mx) vW:=HdU.entry (l:=[]) (m:=1000000) HdU.none (by kernel_rfl) (by kernel_rfl)
def pV:By:=⟨13,[(.agg [(.sc (.int .i64 (.ofNat 1))),(Ab []),(Ab []),(.sc (.int .i64 (.ofNat 0))),(.sc (.int .i64 (.ofNat 0))),(.sc (.int .i64 (.ofNat 0))),(.sc (.int .i64 (.ofNat 0))),(.sc (.int .i64 (.ofNat 0))),(.sl .full 0 []),L4,(.sc (.int .i64 (.ofNat 0)))]),(.agg [(.sc (.int .i64 (.ofNat 15))),(Ab []),(Ab []),(.sc (.int .i64 (.ofNat 0))),(.sc (.int .i64 (.ofNat 0))),(.sc (.int .i64 (.ofNat 0))),(.sc (.int .i64 (.ofNat 0))),(.sc (.int .i64 (.ofNat 0))),(.sl .full 0 []),nL,(.sc (.int .i64 (.ofNat 0)))])],none,(.Bc [(Ab [116,114,117,116,104]),(.sl .full 0 [])])⟩
theorem Y0 {mx:Int}:Aq Tryz.prog (HdU.G mx) pV:=HdU.entry (l:=[UU,vW]) (m:=1000000) (Aa.cons FY (Aa.cons gY HdU.none)) (by kernel_rfl) (by kernel_rfl)
def pY:By:=⟨28,[(.agg [(.sc (.int .i64 (.ofNat 1))),(Ab []),(Ab []),(.sc (.int .i64 (.ofNat 0))),(.sc (.int .i64 (.ofNat 0))),(.sc (.int .i64 (.ofNat 0))),(.sc (.int .i64 (.ofNat 0))),(.sc (.int .i64 (.ofNat 0))),(.sl .full 0 []),L4,(.sc (.int .i64 (.ofNat 0)))]),uX,(Ab [116,114,117,116,104]),(.sc (.int .i64 (.ofNat 0)))],none,(.sc (.bool true))⟩
theorem bR {mx:Int}:Aq Tryz.prog (HdU.G mx) pY:=HdU.entry (l:=[v7,pV]) (m:=1000000) (Aa.cons mF (Aa.cons Y0 HdU.none)) (by kernel_rfl) (by kernel_rfl)
def pO:By:=⟨29,[(.agg [(.sc (.int .i64 (.ofNat 16))),(Ab [47]),(Ab []),(.sc (.int .i64 (.ofNat 0))),(.sc (.int .i64 (.ofNat 0))),(.sc (.int .i64 (.ofNat 0))),(.sc (.int .i64 (.ofNat 0))),(.sc (.int .i64 (.ofNat 0))),(.sl .full 0 []),nQ,(.sc (.int .i64 (.ofNat 0)))])],none,(.sc (.bool true))⟩
theorem bZ {mx:Int}:Aq Tryz.prog (HdU.G mx) pO:=HdU.entry (l:=[]) (m:=1000000) HdU.none (by kernel_rfl) (by kernel_rfl)
def pW:By:=⟨13,[(.agg [(.sc (.int .i64 (.ofNat 1))),(Ab []),(Ab []),(.sc (.int .i64 (.ofNat 0))),(.sc (.int .i64 (.ofNat 0))),(.sc (.int .i64 (.ofNat 0))),(.sc (.int .i64 (.ofNat 0))),(.sc (.int .i64 (.ofNat 0))),(.sl .full 0 []),L4,(.sc (.int .i64 (.ofNat 0)))]),(.agg [(.sc (.int .i64 (.ofNat 16))),(Ab [47]),(Ab []),(.sc (.int .i64 (.ofNat 0))),(.sc (.int .i64 (.ofNat 0))),(.sc (.int .i64 (.ofNat 0))),(.sc (.int .i64 (.ofNat 0))),(.sc (.int .i64 (.ofNat 0))),(.sl .full 0 []),nQ,(.sc (.int .i64 (.ofNat 0)))])],none,(.Bc [(Ab [69,85,82]),(.sl .full 0 [])])⟩
theorem Y7 {mx:Int}:Aq Tryz.prog (HdU.G mx) pW:=HdU.entry (l:=[UU,pO]) (m:=1000000) (Aa.cons FY (Aa.cons bZ HdU.none)) (by kernel_rfl) (by kernel_rfl)
def oX:By:=⟨28,[(.agg [(.sc (.int .i64 (.ofNat 1))),(Ab []),(Ab []),(.sc (.int .i64 (.ofNat 0))),(.sc (.int .i64 (.ofNat 0))),(.sc (.int .i64 (.ofNat 0))),(.sc (.int .i64 (.ofNat 0))),(.sc (.int .i64 (.ofNat 0))),(.sl .full 0 []),L4,(.sc (.int .i64 (.ofNat 0)))]),iI,(Ab [69,85,82]),(.sc (.int .i64 (.ofNat 0)))],none,(.sc (.bool true))⟩
theorem aO {mx:Int}:Aq Tryz.prog (HdU.G mx) oX:=HdU.entry (l:=[wQ,pW]) (m:=1000000) (Aa.cons mK (Aa.cons Y7 HdU.none)) (by kernel_rfl) (by kernel_rfl)
def nT:By:=⟨29,[(.agg [(.sc (.int .i64 (.ofNat 16))),(Ab [42]),(Ab []),(.sc (.int .i64 (.ofNat 0))),(.sc (.int .i64 (.ofNat 0))),(.sc (.int .i64 (.ofNat 0))),(.sc (.int .i64 (.ofNat 0))),(.sc (.int .i64 (.ofNat 0))),(.sl .full 0 []),mU,(.sc (.int .i64 (.ofNat 0)))])],none,(.sc (.bool true))⟩
theorem cP {mx:Int}:Aq Tryz.prog (HdU.G mx) nT:=HdU.entry (l:=[]) (m:=1000000) HdU.none (by kernel_rfl) (by kernel_rfl)
def pN:By:=⟨13,[(.agg [(.sc (.int .i64 (.ofNat 1))),(Ab []),(Ab []),(.sc (.int .i64 (.ofNat 0))),(.sc (.int .i64 (.ofNat 0))),(.sc (.int .i64 (.ofNat 0))),(.sc (.int .i64 (.ofNat 0))),(.sc (.int .i64 (.ofNat 0))),(.sl .full 0 []),L4,(.sc (.int .i64 (.ofNat 0)))]),(.agg [(.sc (.int .i64 (.ofNat 16))),(Ab [42]),(Ab []),(.sc (.int .i64 (.ofNat 0))),(.sc (.int .i64 (.ofNat 0))),(.sc (.int .i64 (.ofNat 0))),(.sc (.int .i64 (.ofNat 0))),(.sc (.int .i64 (.ofNat 0))),(.sl .full 0 []),mU,(.sc (.int .i64 (.ofNat 0)))])],none,(.Bc [k1,(.sl .full 0 [])])⟩
theorem Zq {mx:Int}:Aq Tryz.prog (HdU.G mx) pN:=HdU.entry (l:=[UU,nT]) (m:=1000000) (Aa.cons FY (Aa.cons cP HdU.none)) (by kernel_rfl) (by kernel_rfl)
def p4:By:=⟨28,[(.agg [(.sc (.int .i64 (.ofNat 1))),(Ab []),(Ab []),(.sc (.int .i64 (.ofNat 0))),(.sc (.int .i64 (.ofNat 0))),(.sc (.int .i64 (.ofNat 0))),(.sc (.int .i64 (.ofNat 0))),(.sc (.int .i64 (.ofNat 0))),(.sl .full 0 []),L4,(.sc (.int .i64 (.ofNat 0)))]),kD,k1,(.sc (.int .i64 (.ofNat 0)))],none,(.sc (.bool true))⟩
theorem YU {mx:Int}:Aq Tryz.prog (HdU.G mx) p4:=HdU.entry (l:=[xJ,pN]) (m:=1000000) (Aa.cons iP (Aa.cons Zq HdU.none)) (by kernel_rfl) (by kernel_rfl)
def pI:By:=⟨29,[(.agg [(.sc (.int .i64 (.ofNat 16))),(Ab [42]),(Ab []),(.sc (.int .i64 (.ofNat 0))),(.sc (.int .i64 (.ofNat 0))),(.sc (.int .i64 (.ofNat 0))),(.sc (.int .i64 (.ofNat 0))),(.sc (.int .i64 (.ofNat 0))),(.sl .full 0 []),mR,(.sc (.int .i64 (.ofNat 0)))])],none,(.sc (.bool true))⟩
theorem ZN {mx:Int}:Aq Tryz.prog (HdU.G mx) pI:=HdU.entry (l:=[]) (m:=1000000) HdU.none (by kernel_rfl) (by kernel_rfl)
def oR:By:=⟨13,[(.agg [(.sc (.int .i64 (.ofNat 1))),(Ab []),(Ab []),(.sc (.int .i64 (.ofNat 0))),(.sc (.int .i64 (.ofNat 0))),(.sc (.int .i64 (.ofNat 0))),(.sc (.int .i64 (.ofNat 0))),(.sc (.int .i64 (.ofNat 0))),(.sl .full 0 []),L4,(.sc (.int .i64 (.ofNat 0)))]),(.agg [(.sc (.int .i64 (.ofNat 16))),(Ab [42]),(Ab []),(.sc (.int .i64 (.ofNat 0))),(.sc (.int .i64 (.ofNat 0))),(.sc (.int .i64 (.ofNat 0))),(.sc (.int .i64 (.ofNat 0))),(.sc (.int .i64 (.ofNat 0))),(.sl .full 0 []),mR,(.sc (.int .i64 (.ofNat 0)))])],none,(.Bc [(Ab []),(.sl .lost 1 [(.sc (.int .i64 (.ofNat 11))),(.sc (.int .i64 (.ofNat 0)))])])⟩
theorem cS {mx:Int}:Aq Tryz.prog (HdU.G mx) oR:=HdU.entry (l:=[UU,pI]) (m:=1000000) (Aa.cons FY (Aa.cons ZN HdU.none)) (by kernel_rfl) (by kernel_rfl)
def qQ:By:=⟨28,[(.agg [(.sc (.int .i64 (.ofNat 1))),(Ab []),(Ab []),(.sc (.int .i64 (.ofNat 0))),(.sc (.int .i64 (.ofNat 0))),(.sc (.int .i64 (.ofNat 0))),(.sc (.int .i64 (.ofNat 0))),(.sc (.int .i64 (.ofNat 0))),(.sl .full 0 []),L4,(.sc (.int .i64 (.ofNat 0)))]),YI,(Ab []),(.sc (.int .i64 (.ofNat 11)))],none,(.sc (.bool true))⟩
theorem ZG {mx:Int}:Aq Tryz.prog (HdU.G mx) qQ:=HdU.entry (l:=[wG,oR]) (m:=1000000) (Aa.cons lP (Aa.cons cS HdU.none)) (by kernel_rfl) (by kernel_rfl)
def rC:By:=⟨29,[(.agg [(.sc (.int .i64 (.ofNat 16))),(Ab [43]),(Ab []),(.sc (.int .i64 (.ofNat 0))),(.sc (.int .i64 (.ofNat 0))),(.sc (.int .i64 (.ofNat 0))),(.sc (.int .i64 (.ofNat 0))),(.sc (.int .i64 (.ofNat 0))),(.sl .full 0 []),mZ,(.sc (.int .i64 (.ofNat 0)))])],none,(.sc (.bool true))⟩
theorem bB {mx:Int}:Aq Tryz.prog (HdU.G mx) rC:=HdU.entry (l:=[]) (m:=1000000) HdU.none (by kernel_rfl) (by kernel_rfl)
def pL:By:=⟨13,[(.agg [(.sc (.int .i64 (.ofNat 1))),(Ab []),(Ab []),(.sc (.int .i64 (.ofNat 0))),(.sc (.int .i64 (.ofNat 0))),(.sc (.int .i64 (.ofNat 0))),(.sc (.int .i64 (.ofNat 0))),(.sc (.int .i64 (.ofNat 0))),(.sl .full 0 []),L4,(.sc (.int .i64 (.ofNat 0)))]),(.agg [(.sc (.int .i64 (.ofNat 16))),(Ab [43]),(Ab []),(.sc (.int .i64 (.ofNat 0))),(.sc (.int .i64 (.ofNat 0))),(.sc (.int .i64 (.ofNat 0))),(.sc (.int .i64 (.ofNat 0))),(.sc (.int .i64 (.ofNat 0))),(.sl .full 0 []),mZ,(.sc (.int .i64 (.ofNat 0)))])],none,(.Bc [(Ab []),(.sl .lost 1 [(.sc (.int .i64 (.ofNat 11))),(.sc (.int .i64 (.ofNat 0)))])])⟩
theorem aT {mx:Int}:Aq Tryz.prog (HdU.G mx) pL:=HdU.entry (l:=[UU,rC]) (m:=1000000) (Aa.cons FY (Aa.cons bB HdU.none)) (by kernel_rfl) (by kernel_rfl)
def n6:By:=⟨28,[(.agg [(.sc (.int .i64 (.ofNat 1))),(Ab []),(Ab []),(.sc (.int .i64 (.ofNat 0))),(.sc (.int .i64 (.ofNat 0))),(.sc (.int .i64 (.ofNat 0))),(.sc (.int .i64 (.ofNat 0))),(.sc (.int .i64 (.ofNat 0))),(.sl .full 0 []),L4,(.sc (.int .i64 (.ofNat 0)))]),iC,(Ab []),(.sc (.int .i64 (.ofNat 11)))],none,(.sc (.bool true))⟩
theorem Zm {mx:Int}:Aq Tryz.prog (HdU.G mx) n6:=HdU.entry (l:=[xA,pL]) (m:=1000000) (Aa.cons lQ (Aa.cons aT HdU.none)) (by kernel_rfl) (by kernel_rfl)
def rN:By:=⟨29,[(.agg [(.sc (.int .i64 (.ofNat 16))),(Ab [43]),(Ab []),(.sc (.int .i64 (.ofNat 0))),(.sc (.int .i64 (.ofNat 0))),(.sc (.int .i64 (.ofNat 0))),(.sc (.int .i64 (.ofNat 0))),(.sc (.int .i64 (.ofNat 0))),(.sl .full 0 []),nE,(.sc (.int .i64 (.ofNat 0)))])],none,(.sc (.bool true))⟩
theorem aF {mx:Int}:Aq Tryz.prog (HdU.G mx) rN:=HdU.entry (l:=[]) (m:=1000000) HdU.none (by kernel_rfl) (by kernel_rfl)
def qC:By:=⟨13,[(.agg [(.sc (.int .i64 (.ofNat 1))),(Ab []),(Ab []),(.sc (.int .i64 (.ofNat 0))),(.sc (.int .i64 (.ofNat 0))),(.sc (.int .i64 (.ofNat 0))),(.sc (.int .i64 (.ofNat 0))),(.sc (.int .i64 (.ofNat 0))),(.sl .full 0 []),L4,(.sc (.int .i64 (.ofNat 0)))]),(.agg [(.sc (.int .i64 (.ofNat 16))),(Ab [43]),(Ab []),(.sc (.int .i64 (.ofNat 0))),(.sc (.int .i64 (.ofNat 0))),(.sc (.int .i64 (.ofNat 0))),(.sc (.int .i64 (.ofNat 0))),(.sc (.int .i64 (.ofNat 0))),(.sl .full 0 []),nE,(.sc (.int .i64 (.ofNat 0)))])],none,(.Bc [(Ab []),(.sl .lost 1 [(.sc (.int .i64 (.ofNat 91))),(.sc (.int .i64 (.ofNat 0)))])])⟩
theorem aI {mx:Int}:Aq Tryz.prog (HdU.G mx) qC:=HdU.entry (l:=[UU,rN]) (m:=1000000) (Aa.cons FY (Aa.cons aF HdU.none)) (by kernel_rfl) (by kernel_rfl)
end Go.Proofs.YtkfplcngmiljaaaGreatDoor
namespace Go.Proofs.YtkfplcngmiljaaaGreatDoor
open AI
set_option maxRecDepth 100000
set_option maxHeartbeats 4000000
def qR:By:=⟨28,[(.agg [(.sc (.int .i64 (.ofNat 1))),(Ab []),(Ab []),(.sc (.int .i64 (.ofNat 0))),(.sc (.int .i64 (.ofNat 0))),(.sc (.int .i64 (.ofNat 0))),(.sc (.int .i64 (.ofNat 0))),(.sc (.int .i64 (.ofNat 0))),(.sl .full 0 []),L4,(.sc (.int .i64 (.ofNat 0)))]),(Ab [120,32,43,32,49]),(Ab []),(.sc (.int .i64 (.ofNat 91)))],none,(.sc (.bool true))⟩
theorem ZX {mx:Int}:Aq Tryz.prog (HdU.G mx) qR:=HdU.entry (l:=[xL,qC]) (m:=1000000) (Aa.cons jL (Aa.cons aI HdU.none)) (by kernel_rfl) (by kernel_rfl)
def rJ:By:=⟨29,[(.agg [(.sc (.int .i64 (.ofNat 13))),(Ab []),(Ab []),(.sc (.int .i64 (.ofNat 2))),(.sc (.int .i64 (.ofNat 0))),(.sc (.int .i64 (.ofNat 0))),(.sc (.int .i64 (.ofNat 0))),(.sc (.int .i64 (.ofNat 0))),(.sl .full 0 []),(.sl .full 0 []),(.sc (.int .i64 (.ofNat 0)))])],none,(.sc (.bool true))⟩
theorem ZA {mx:Int}:Aq Tryz.prog (HdU.G mx) rJ:=HdU.entry (l:=[]) (m:=1000000) HdU.none (by kernel_rfl) (by kernel_rfl)
def pU:By:=⟨13,[(.agg [(.sc (.int .i64 (.ofNat 1))),(Ab []),(Ab []),(.sc (.int .i64 (.ofNat 0))),(.sc (.int .i64 (.ofNat 0))),(.sc (.int .i64 (.ofNat 0))),(.sc (.int .i64 (.ofNat 0))),(.sc (.int .i64 (.ofNat 0))),(.sl .full 0 []),L4,(.sc (.int .i64 (.ofNat 0)))]),(.agg [(.sc (.int .i64 (.ofNat 13))),(Ab []),(Ab []),(.sc (.int .i64 (.ofNat 2))),(.sc (.int .i64 (.ofNat 0))),(.sc (.int .i64 (.ofNat 0))),(.sc (.int .i64 (.ofNat 0))),(.sc (.int .i64 (.ofNat 0))),(.sl .full 0 []),(.sl .full 0 []),(.sc (.int .i64 (.ofNat 0)))])],none,(.Bc [(Ab []),(.sl .lost 1 [(.sc (.int .i64 (.ofNat 91))),(.sc (.int .i64 (.ofNat 0)))])])⟩
theorem cB {mx:Int}:Aq Tryz.prog (HdU.G mx) pU:=HdU.entry (l:=[UU,rJ]) (m:=1000000) (Aa.cons FY (Aa.cons ZA HdU.none)) (by kernel_rfl) (by kernel_rfl)
def n9:By:=⟨28,[(.agg [(.sc (.int .i64 (.ofNat 1))),(Ab []),(Ab []),(.sc (.int .i64 (.ofNat 0))),(.sc (.int .i64 (.ofNat 0))),(.sc (.int .i64 (.ofNat 0))),(.sc (.int .i64 (.ofNat 0))),(.sc (.int .i64 (.ofNat 0))),(.sl .full 0 []),L4,(.sc (.int .i64 (.ofNat 0)))]),(Ab [97,114,116,32,50]),(Ab []),(.sc (.int .i64 (.ofNat 91)))],none,(.sc (.bool true))⟩
theorem aA {mx:Int}:Aq Tryz.prog (HdU.G mx) n9:=HdU.entry (l:=[yO,pU]) (m:=1000000) (Aa.cons kL (Aa.cons cB HdU.none)) (by kernel_rfl) (by kernel_rfl)
def rM:By:=⟨29,[(.agg [(.sc (.int .i64 (.ofNat 18))),(Ab []),(Ab []),(.sc (.int .i64 (.ofNat 0))),(.sc (.int .i64 (.ofNat 0))),(.sc (.int .i64 (.ofNat 0))),(.sc (.int .i64 (.ofNat 0))),(.sc (.int .i64 (.ofNat 10))),(.sl .lost 1 [(.sc (.int .i64 (.ofNat 0))),(.sc (.int .i64 (.ofNat 0))),(.sc (.int .i64 (.ofNat 1)))]),nK,(.sc (.int .i64 (.ofNat 0)))])],none,(.sc (.bool true))⟩
theorem aZ {mx:Int}:Aq Tryz.prog (HdU.G mx) rM:=HdU.entry (l:=[]) (m:=1000000) HdU.none (by kernel_rfl) (by kernel_rfl)
def qJ:By:=⟨13,[(.agg [(.sc (.int .i64 (.ofNat 1))),(Ab []),(Ab []),(.sc (.int .i64 (.ofNat 0))),(.sc (.int .i64 (.ofNat 0))),(.sc (.int .i64 (.ofNat 0))),(.sc (.int .i64 (.ofNat 0))),(.sc (.int .i64 (.ofNat 0))),(.sl .full 0 []),L4,(.sc (.int .i64 (.ofNat 0)))]),(.agg [(.sc (.int .i64 (.ofNat 18))),(Ab []),(Ab []),(.sc (.int .i64 (.ofNat 0))),(.sc (.int .i64 (.ofNat 0))),(.sc (.int .i64 (.ofNat 0))),(.sc (.int .i64 (.ofNat 0))),(.sc (.int .i64 (.ofNat 10))),(.sl .lost 1 [(.sc (.int .i64 (.ofNat 0))),(.sc (.int .i64 (.ofNat 0))),(.sc (.int .i64 (.ofNat 1)))]),nK,(.sc (.int .i64 (.ofNat 0)))])],none,(.Bc [(Ab []),(.sl .lost 1 [(.sc (.int .i64 (.ofNat 11))),(.sc (.int .i64 (.ofNat 0)))])])⟩
theorem bT {mx:Int}:Aq Tryz.prog (HdU.G mx) qJ:=HdU.entry (l:=[UU,rM]) (m:=1000000) (Aa.cons FY (Aa.cons aZ HdU.none)) (by kernel_rfl) (by kernel_rfl)
def qL:By:=⟨28,[(.agg [(.sc (.int .i64 (.ofNat 1))),(Ab []),(Ab []),(.sc (.int .i64 (.ofNat 0))),(.sc (.int .i64 (.ofNat 0))),(.sc (.int .i64 (.ofNat 0))),(.sc (.int .i64 (.ofNat 0))),(.sc (.int .i64 (.ofNat 0))),(.sl .full 0 []),L4,(.sc (.int .i64 (.ofNat 0)))]),vB,(Ab []),(.sc (.int .i64 (.ofNat 11)))],none,(.sc (.bool true))⟩
theorem ZP {mx:Int}:Aq Tryz.prog (HdU.G mx) qL:=HdU.entry (l:=[xX,qJ]) (m:=1000000) (Aa.cons mM (Aa.cons bT HdU.none)) (by kernel_rfl) (by kernel_rfl)
def rE:By:=⟨29,[(.agg [(.sc (.int .i64 (.ofNat 17))),(Ab [108,101,97,115,116]),(Ab []),(.sc (.int .i64 (.ofNat 0))),(.sc (.int .i64 (.ofNat 0))),(.sc (.int .i64 (.ofNat 0))),(.sc (.int .i64 (.ofNat 0))),(.sc (.int .i64 (.ofNat 0))),(.sl .full 0 []),nC,(.sc (.int .i64 (.ofNat 0)))])],none,(.sc (.bool true))⟩
theorem Z5 {mx:Int}:Aq Tryz.prog (HdU.G mx) rE:=HdU.entry (l:=[]) (m:=1000000) HdU.none (by kernel_rfl) (by kernel_rfl)
def qY:By:=⟨13,[(.agg [(.sc (.int .i64 (.ofNat 1))),(Ab []),(Ab []),(.sc (.int .i64 (.ofNat 0))),(.sc (.int .i64 (.ofNat 0))),(.sc (.int .i64 (.ofNat 0))),(.sc (.int .i64 (.ofNat 0))),(.sc (.int .i64 (.ofNat 0))),(.sl .full 0 []),L4,(.sc (.int .i64 (.ofNat 0)))]),(.agg [(.sc (.int .i64 (.ofNat 17))),(Ab [108,101,97,115,116]),(Ab []),(.sc (.int .i64 (.ofNat 0))),(.sc (.int .i64 (.ofNat 0))),(.sc (.int .i64 (.ofNat 0))),(.sc (.int .i64 (.ofNat 0))),(.sc (.int .i64 (.ofNat 0))),(.sl .full 0 []),nC,(.sc (.int .i64 (.ofNat 0)))])],none,(.Bc [(Ab [69,85,82]),(.sl .full 0 [])])⟩
theorem ZQ {mx:Int}:Aq Tryz.prog (HdU.G mx) qY:=HdU.entry (l:=[UU,rE]) (m:=1000000) (Aa.cons FY (Aa.cons Z5 HdU.none)) (by kernel_rfl) (by kernel_rfl)
def pC:By:=⟨28,[(.agg [(.sc (.int .i64 (.ofNat 1))),(Ab []),(Ab []),(.sc (.int .i64 (.ofNat 0))),(.sc (.int .i64 (.ofNat 0))),(.sc (.int .i64 (.ofNat 0))),(.sc (.int .i64 (.ofNat 0))),(.sc (.int .i64 (.ofNat 0))),(.sl .full 0 []),L4,(.sc (.int .i64 (.ofNat 0)))]),tC,(Ab [69,85,82]),(.sc (.int .i64 (.ofNat 0)))],none,(.sc (.bool true))⟩
theorem ZU {mx:Int}:Aq Tryz.prog (HdU.G mx) pC:=HdU.entry (l:=[xR,qY]) (m:=1000000) (Aa.cons mH (Aa.cons ZQ HdU.none)) (by kernel_rfl) (by kernel_rfl)
def rH:By:=⟨29,[(.agg [(.sc (.int .i64 (.ofNat 1))),(Ab []),(Ab []),(.sc (.int .i64 (.ofNat 0))),(.sc (.int .i64 (.ofNat 0))),(.sc (.int .i64 (.ofNat 0))),(.sc (.int .i64 (.ofNat 0))),(.sc (.int .i64 (.ofNat 0))),(.sl .full 0 []),uQ,(.sc (.int .i64 (.ofNat 0)))])],none,(.sc (.bool true))⟩
theorem ZL {mx:Int}:Aq Tryz.prog (HdU.G mx) rH:=HdU.entry (l:=[]) (m:=1000000) HdU.none (by kernel_rfl) (by kernel_rfl)
def pR:By:=⟨16,[(.agg [(.sc (.int .i64 (.ofNat 1))),(Ab []),(Ab []),(.sc (.int .i64 (.ofNat 0))),(.sc (.int .i64 (.ofNat 0))),(.sc (.int .i64 (.ofNat 0))),(.sc (.int .i64 (.ofNat 0))),(.sc (.int .i64 (.ofNat 0))),(.sl .full 0 []),uQ,(.sc (.int .i64 (.ofNat 0)))])],none,(.sl .lost 1 [(.sc (.int .i64 (.ofNat 5))),(.sc (.int .i64 (.ofNat 165)))])⟩
theorem Z9 {mx:Int}:Aq Tryz.prog (HdU.G mx) pR:=HdU.entry (l:=[rH]) (m:=1000000) (Aa.cons ZL HdU.none) (by kernel_rfl) (by kernel_rfl)
def nV:By:=⟨11,[],none,(.sc (.bool true))⟩
theorem Zn {mx:Int}:Aq Tryz.prog (HdU.G mx) nV:=HdU.entry (l:=[yB,wV,wI,wW,yA,pY,oX,p4,qQ,n6,qR,n9,qL,pC,pR]) (m:=1000000) (Aa.cons gU (Aa.cons lH (Aa.cons jJ (Aa.cons gL (Aa.cons lT (Aa.cons bR (Aa.cons aO (Aa.cons YU (Aa.cons ZG (Aa.cons Zm (Aa.cons ZX (Aa.cons aA (Aa.cons ZP (Aa.cons ZU (Aa.cons Z9 HdU.none))))))))))))))) (by kernel_rfl) (by kernel_rfl)
theorem bM (mx:Int) (s:AS):Sound Tryz.prog (HdU.G mx) (.call 11 [] s (.ret (.sc (.bool true))) s):=(Zn:Aq Tryz.prog (HdU.G mx) nV) s
end Go.Proofs.YtkfplcngmiljaaaGreatDoor
namespace Go.Proofs.YtkfplcngmiljaaaGreatDoor
open AI Go
namespace Mo
set_option maxRecDepth 100000
set_option maxHeartbeats 4000000
abbrev GU (mx:Int):AB:=HdU.G mx
theorem up {mx:Int} {f:FuncId} {args:List AV} {v:AV} (h:Pure P G f args v):Pure P (GU mx) f args v:=by
 intro s cx w vs hs ha
 have hs0:St G cx w s:=⟨hs.len,hs.desc,hs.nodup,hs.low,hs.box,hs.rlen,hs.row,hs.rfree,hs.plow,hs.blow,hs.rdist,(fun _ _ h=>nomatch h),hs.bsz⟩
 refine (h s cx w vs hs0 ha).mono ?_
 rintro e w' ⟨c',hx,st,hr⟩
 exact ⟨c',hx,⟨st.len,st.desc,st.nodup,st.low,st.box,st.rlen,st.row,st.rfree,st.plow,st.blow,st.rdist,(fun g cs h=>(hs.glob g cs h).mono hx),st.bsz⟩,hr⟩
noncomputable def Ky:Option Bool:=some true
theorem N7 {mx:Int} {yR:Bool} (h:Ky=some yR):Pure P (GU mx) 11 [] (.sc (.bool yR)):=by
 cases h
 exact fun s=>bM mx s
variable {mx:Int}
noncomputable def B10:Code:=Bp Tryz.f10
theorem zK:Tryz.f10.body=some B10:=by kernel_rfl
noncomputable def C3  (source:Nd) (e:Nd):Option Bool:=(Ky).bind fun y1=>(FQ source e).bind fun y2=>cond y2 ((Dk source).bind fun y3=>(Dk e).bind fun y4=>(DI source e).bind fun (y5a,y5b)=>(DI y3 y4).bind fun (y6a,y6b)=>cond y1 (cond (Cc y5a.data.toList y6a.data.toList) ((Ef y5b).bind fun y7=>(Cr y7 y6b).bind fun y8=>cond y8 ((DJ source).bind fun y9=>(Ef y9).bind fun y10=>(DJ y3).bind fun y11=>(Cr y10 y11).bind fun y12=>some y12) (some false)) (some false)) (some false)) (some y1)
theorem Hi   {source:Nd} {e:Nd} {yR:Bool} (h:C3  source e=some yR):Pure P (GU mx) 10 [.agg (BP source),.agg (BP e)] (.sc (.bool yR)):=by
 unfold C3 at h
 refine D0 Hd.mixed HdU.Ac (AZ Tryz.func10 zK ?_) (BI (Ay.Lc source) (BI (Ay.Lc e) rfl)) rfl
 revert h
 refine AD fun y1 hy1=>?_
 refine AD fun y2 hy2=>?_
 let o1:List (PC P (GU mx)):=[Bk (N7 hy1),Bk (up (NA hy2))]
 refine Ai (fun hv=>?_) fun hv=>?_
 subst hv
 refine AD fun y3 hy3=>?_
 refine AD fun y4 hy4=>?_
 refine AD ?_
 rintro ⟨y5a,y5b⟩ hy5
 dsimp only
 refine AD ?_
 rintro ⟨y6a,y6b⟩ hy6
 dsimp only
 let o2:List (PC P (GU mx)):=o1++[Bk (up (GS hy3)),Bk (up (GS hy4)),Bk (up (Hw hy5)),Bk (up (Hw hy6))]
 refine Ai (fun hv=>?_) fun hv=>?_
 subst hv
 refine Ai (fun hb1=>?_) fun hb1=>?_
 refine AD fun y7 hy7=>?_
 refine AD fun y8 hy8=>?_
 refine Ai (fun hv=>?_) fun hv=>?_
 subst hv
 refine AD fun y9 hy9=>?_
 refine AD fun y10 hy10=>?_
 refine AD fun y11 hy11=>?_
 refine AD fun y12 hy12=>?_
 intro h
 have hE:=Option.some.inj h
 subst hE
 exact rS (Ae 300 (o2++[pb hb1,Bk (up (FW hy7)),Bk (up (DV hy8)),Bk (up (Hk hy9)),Bk (up (FW hy10)),Bk (up (Hk hy11)),Bk (up (DV hy12))])) (by kernel_rfl)
 subst hv
 rintro ⟨⟩
 exact rS (Ae 300 (o2++[pb hb1,Bk (up (FW hy7)),Bk (up (DV hy8))])) (by kernel_rfl)
 rintro ⟨⟩
 exact rS (Ae 300 (o2++[pb hb1])) (by kernel_rfl)
 subst hv
 rintro ⟨⟩
 exact rS (Ae 300 o2) (by kernel_rfl)
 subst hv
 intro h
 have hE:=Option.some.inj h
 subst hE
 exact rS (Ae 300 o1) (by kernel_rfl)
end Mo
end Go.Proofs.YtkfplcngmiljaaaGreatDoor
namespace Go.Proofs.YtkfplcngmiljaaaGreatDoor
open AI Go
namespace Mo
set_option maxRecDepth 100000
set_option maxHeartbeats 4000000
theorem Tb (a b:List Dg) (ha:a.length≤9223372036854775807):Cr a b=some (mb (a=b)):=by
 rw [Cr,CP,C7]
 by_cases h:((a.length:Nat):Int)=((b.length:Nat):Int)
 · rw [Ah h,NX (v:=false) (P:=fun i y=>b[i]?=some y) ha (fun i y hy=>by
     have hi:i < a.length:=(List.getElem?_eq_some_iff.1 hy).1
     have hb:b[i]?=some b[i]:=List.getElem?_eq_getElem (by omega)
     simp only [DB]
     rw [hb]
     simp only [Option.bind_some]
     have hs:K7 y b[i]=mb (b[i]?=some y):=by
       rw [Bool.eq_iff_iff,Bl,hb]
       unfold K7
       simp only [Bool.and_eq_true,JZ,beq_iff_eq,Option.some.injEq]
       generalize b[i]=z
       cases y;cases z
       simp only [Dg.mk.injEq]
       grind
     rw [hs,C7,lF,hb]),PS]
   refine nR ⟨fun h2=>?_,fun h2 i y hy=>by rw [← h2];exact hy⟩
   apply List.ext_getElem?
   intro i
   by_cases hi:i < a.length
   · rw [List.getElem?_eq_getElem hi,h2 i _ (List.getElem?_eq_getElem hi)]
   · rw [List.getElem?_eq_none (by omega),List.getElem?_eq_none (by omega)]
 · rw [Ad h];exact MY fun h2=>h (by rw [h2])
theorem Xe:∀ {l:List Nd},(∀ k∈l,cN k=C5 k)→cL l=E8 l
 | [],_=>by rw [cL,E8]
 | a::l,h=>by rw [cL,E8,h a (by simp),Xe fun k hk=>h k (by simp [hk])]
theorem mC (n:Nd):cN n=C5 n:=by
 refine MJ (p:=fun n=>cN n=C5 n) (fun n ih=>?_) n
 rw [VI,C9,Xe ih]
theorem Uy (src e:Nd):I2 (Ci src) (Ci e)=((I2 src e).1,(I2 src e).2.map Nc):=by
 rw [Li,Li,Cs,Cs,propext (SZ src),propext (SZ e),Xb,K4]
 by_cases hc:(src.kind=1∧e.kind≠1)∧NV src∧NV e
 · rw [Ah hc,Ah hc]
   unfold cap
   rw [List.nil_append,List.nil_append,List.map_take]
 · rw [Ad hc,Ad hc];rfl
theorem O3 (src e:Nd):(I2 src e).2.length≤1000:=by
 rw [Li]
 by_cases hc:(src.kind=1∧e.kind≠1)∧NV src∧NV e
 · rw [Ah hc];exact Nat.le_trans (E3 _ _) (by decide)
 · rw [Ad hc];simp
theorem Og (src:Nd):(JY src).length≤1000:=by
 unfold JY
 by_cases hc:src.kind=1∧NV src
 · rw [Ah hc];exact Nat.le_trans (E3 _ _) (by decide)
 · rw [Ad hc];simp
theorem Tt {n:Nd} (hs:C5 n≤400) (hp:RF n):Dk n=some (Ci n):=by
 unfold Dk
 rw [if_pos ⟨by rw [cL,cL,mC];omega,hp⟩]
theorem VY (l:List Dg) (hl:l.length≤1000):Ef l=some (l.map Nc):=by
 have key:∀ (k:List Dg) (i:Nat) (acc:List Dg),acc.length+k.length≤1000→A2 (fun i y x=>Et i y x) (fun x=>x) k i acc=some (.inl (acc++k.map Nc)):=by
   intro k
   induction k with
   | nil=>intro i acc _;rw [List.map_nil,List.append_nil];rfl
   | cons y k ih =>
     intro i acc h
     rw [List.length_cons] at h
     have hL:Et i y acc=some (.nx (acc++[(⟨y.err,0⟩:Dg)])):=Tx (by omega)
     rw [A2,hL]
     simp only [Option.bind_some,Gs]
     rw [ih (i+1) _ (by rw [List.length_append,List.length_singleton];omega),List.append_assoc]
     rfl
 rw [Ef,List.drop_zero,EA (by omega),key l 0 [] (by simpa using hl),List.nil_append]
 rfl
theorem Lr (src e:Nd) (hs:DS src) (he:DS e) (ps:RF src) (pe:RF e):C3 src e=some true:=by
 have hf:FQ src e=some (mb (((C5 src:Nat):Int)≤400∧((C5 e:Nat):Int)≤400)):=by
   rw [FQ,dJ src 400 hs (by decide),dJ e 400 he (by decide)]
   simp only [Option.bind_some,C7]
   by_cases h1:((C5 src:Nat):Int)≤400
   · rw [Ah h1];exact congrArg some (En ⟨fun h=>⟨h1,h⟩,fun h=>h.2⟩)
   · rw [Ad h1];exact MY fun h=>h1 h.1
 rw [C3,hf]
 show Option.bind (some true) _=_
 simp only [Option.bind_some,C7]
 by_cases h:((C5 src:Nat):Int)≤400∧((C5 e:Nat):Int)≤400
 rotate_left
 · rw [Ad h]
 rw [Ah h,Tt (by omega) ps,Tt (by omega) pe,Uk hs he]
 simp only [Option.bind_some]
 rw [Uk (Xd hs) (Xd he),Uy,T3 hs,T3 (Xd hs),UP]
 simp only [Option.bind_some,cond_true,D3,C7]
 rw [Ah trivial,VY _ (O3 _ _),VY _ (Og _)]
 simp only [Option.bind_some]
 rw [Tb _ _ (by have:=O3 src e;rw [List.length_map];omega),Tb _ _ (by have:=Og src;rw [List.length_map];omega)]
 simp only [Option.bind_some,C7]
 rw [Ah trivial,← tO]
end Mo
end Go.Proofs.YtkfplcngmiljaaaGreatDoor
