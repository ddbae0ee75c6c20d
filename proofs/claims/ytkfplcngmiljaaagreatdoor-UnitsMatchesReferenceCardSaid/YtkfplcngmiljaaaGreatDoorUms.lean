/- Part of a proof: see the last text. -/
import Derived.Test.YtkfplcngmiljaaaGreatDoorUmr
import Derived.Test.YtkfplcngmiljaaaGreatDoorCards
import Derived.Test.YtkfplcngmiljaaaGreatDoorTie
import Derived.Lib.LaidTab
import Derived.Lib.LaidIn
import Derived.Shelf.Vars
set_option linter.unusedVariables false
set_option linter.unusedSimpArgs false
namespace Go.Proofs.YtkfplcngmiljaaaGreatDoor
open AI Go Go.RowKit LexS
theorem chunks {α:Type} {V:α→List Value} {k:Nat}:∀ {l:List α} {cs:List Value},cs.length=l.length*k→(∀ y,(V y).length=k)→(∀ (i:Nat) y,l[i]?=some y→(cs.drop (i*k)).take k=V y)→cs=l.flatMap V
 | [],cs,h,_,_=>by
   simp only [List.length_nil,Nat.zero_mul] at h
   rw [List.eq_nil_of_length_eq_zero h];rfl
 | a::l,cs,h,hV,hc=>by
   have h0:=hc 0 a rfl
   rw [Nat.zero_mul,List.drop_zero] at h0
   have ih:=chunks (V:=V) (k:=k) (l:=l) (cs:=cs.drop k) (by rw [List.length_drop,h,List.length_cons,Nat.succ_mul];omega) hV fun i y hy=>by
     rw [List.drop_drop]
     have:=hc (i+1) y (by simpa using hy)
     rwa [Nat.succ_mul,Nat.add_comm] at this
   rw [List.flatMap_cons,← h0,← ih,List.take_append_drop]
theorem JO {α H:Type} {enc:TypeId×Value→H} {P:Program} {w:World} {base:Nat} {sp:Nat→Bool} {held:Bool} {fuel:Nat} {t e:TypeId} {n k:Nat} {cs:List Value} {l:List α} {p:List MemPlace} (D:α→DataW H) (V:α→List Value) (hV:∀ y,(V y).length=k)
   (hread:∀ f c y q,DataW.trod enc P w base sp held f e c=some (D y,q)→c=V y)
   (ht:P.underlying t=some (.array n e)) (hce:P.cellsOf e=k) (hct:P.cellsOf t=n*k) (h:DataW.trod enc P w base sp held fuel t cs=some (.agg (l.map D),p)):cs=l.flatMap V:=by
 obtain ⟨xs,m,_,hx,hl,hxl,hat⟩:=DataW.trod_array ht h
 have hd:l.map D=xs.map (·.1):=by
   have:=congrArg Prod.fst hx
   simpa using this
 have hll:l.length=n:=by
   have:=congrArg List.length hd
   simp at this
   omega
 rw [hct] at hl
 rw [hce] at hat
 refine chunks (by rw [hl,hll]) hV fun i y hy=>?_
 have hi:i < n:=by have:=(List.getElem?_eq_some_iff.1 hy).1;omega
 have h2:=hat i hi
 have hxi:xs[i]?=some xs[i]:=List.getElem?_eq_getElem (by omega)
 rw [hxi] at h2
 have h3:(l.map D)[i]?=(xs.map (·.1))[i]?:=by rw [hd]
 rw [List.getElem?_map,List.getElem?_map,hy,hxi] at h3
 simp only [Option.map_some,Option.some.injEq] at h3
 refine hread m _ y xs[i].2 ?_
 rw [h2,h3]
theorem PJ {H:Type} {enc:TypeId×Value→H} {w:World} {base:Nat} {sp:Nat→Bool} {held:Bool} (f:Nat) (c:List Value) (y:List UInt8) (q:List MemPlace) (hh:DataW.trod enc Tryz.prog w base sp held f 9 c=some (.lit (.string y),q)):c=[.string ⟨y.toArray⟩]:=by
 obtain ⟨z,hc,hz,_⟩:=DataW.trod_string Tryz.underlying9 hh
 simp only [Prod.mk.injEq,DataW.lit.injEq,Lit.string.injEq] at hz
 rw [hc,hz.1]
theorem KU {W:World} {n:String} {g:Nat} {cs:Array Value} (hg:Tryz.prog.globalNamed n=some g) (h:W.var? Tryz.prog n=some cs):∃ t fr,W.heap[g]?=some (.cells cs t fr):=by
 unfold World.var? at h
 rw [hg] at h
 simp only [Option.bind_some] at h
 split at h
 · rename_i c t fr hh
   injection h with h
   subst h
   exact ⟨t,fr,hh⟩
 · cases h
theorem gB:Tryz.prog.globalNamed "wageoffice/calendar.before"=some 6:=by kernel_rfl
theorem gC:Tryz.prog.globalNamed "wageoffice/lexer.classes"=some 2:=by kernel_rfl
theorem gS:Tryz.prog.globalNamed "wageoffice/lexer.symbols"=some 0:=by kernel_rfl
theorem gO:Tryz.prog.globalNamed "wageoffice/parser.operators"=some 3:=by kernel_rfl
theorem gR:Tryz.prog.globalNamed "wageoffice/parser.roles"=some 1:=by kernel_rfl
theorem gBT:(Tryz.prog.globals[(6:Nat)]?).map (·.type)=some 195:=by kernel_rfl
theorem gCT:(Tryz.prog.globals[(2:Nat)]?).map (·.type)=some 149:=by kernel_rfl
theorem gST:(Tryz.prog.globals[(0:Nat)]?).map (·.type)=some 142:=by kernel_rfl
theorem gOT:(Tryz.prog.globals[(3:Nat)]?).map (·.type)=some 160:=by kernel_rfl
theorem gRT:(Tryz.prog.globals[(1:Nat)]?).map (·.type)=some 143:=by kernel_rfl
theorem zI:Tryz.prog.cellsOf 3=1:=by kernel_rfl
theorem zU:Tryz.prog.cellsOf 5=1:=by kernel_rfl
theorem zS:Tryz.prog.cellsOf 9=1:=by kernel_rfl
theorem zB:Tryz.prog.cellsOf 195=13*1:=by kernel_rfl
theorem zC:Tryz.prog.cellsOf 149=128*1:=by kernel_rfl
theorem zY:Tryz.prog.cellsOf 142=17*1:=by kernel_rfl
theorem z6:Tryz.prog.cellsOf 159=6*1:=by kernel_rfl
theorem zO:Tryz.prog.cellsOf 160=6*6:=by kernel_rfl
theorem zR:Tryz.prog.cellsOf 143=5*1:=by kernel_rfl
def tP:List Int:=[0,31,59,90,120,151,181,212,243,273,304,334,365]
def qN:List (List UInt8):=[[],[101,97,114,110],[100,101,100,117,99,116],[102,108,111,111,114],[105,110,102,111]]
def opsL:List (List (List UInt8)):=[[[111,114],[],[],[],[],[]],[[97,110,100],[],[],[],[],[]],[[],[],[],[],[],[]],[[61,61],[33,61],[60],[60,61],[62],[62,61]],[[43],[45],[],[],[],[]],[[42],[47],[97,116],[],[],[]]]
abbrev SE (y:List UInt8):DataW Unit:=.lit (.string y)
theorem uZ:(Rows.laid_wageoffice_calendar_before:DataW Unit)=.agg (tP.map fun z=>.lit (.int .i64 z)):=by rfl
theorem wE:(Rows.laid_wageoffice_lexer_classes:DataW Unit)=.agg ((List.range 128).map fun i=>.lit (.int .u8 (Nf i:Nat))):=by rfl
theorem vV:(Rows.laid_wageoffice_lexer_symbols:DataW Unit)=.agg (D2.map SE):=by rfl
theorem wW:(Rows.laid_wageoffice_parser_operators:DataW Unit)=.agg (opsL.map fun l=>.agg (l.map SE)):=by rfl
theorem u4:(Rows.laid_wageoffice_parser_roles:DataW Unit)=.agg (qN.map SE):=by rfl
theorem vE:((begin Tryz.prog (fun _ _=>0) default).world.heap[(7:Nat)]?).bind Obj.row?=some (#[.int .i64 0],3):=by kernel_rfl
theorem oB {W:World} (h:W.ShapedOpen Tryz.prog):∃ m,W.cell? ⟨7,0,none⟩=some (.int .i64 m):=by
 obtain ⟨m,hm⟩:=cell_of_shapedOpen_int h (g:=7) (by decide +kernel) vE rfl (by kernel_rfl) (by kernel_rfl) Tryz.underlying3
 exact ⟨m,hm⟩
theorem OD (c:Cx) (w:World):∀ l:List (List UInt8),BN c w (l.map Af) (l.flatMap fun y=>[.string ⟨y.toArray⟩])
 | []=>.nil
 | _::l=>.cons (.sc rfl) (OD c w l)
theorem Vx (c:Cx) (w:World):∀ l:List Int,BN c w (l.map HdU.int) (l.flatMap fun y=>[.int .i64 y])
 | []=>.nil
 | _::l=>.cons (.sc rfl) (Vx c w l)
theorem YN (c:Cx) (w:World):∀ l:List Nat,BN c w (l.map fun i=>.sc (.int .u8 (Nf i:Nat))) (l.flatMap fun i=>[.int .u8 (Nf i:Nat)])
 | []=>.nil
 | _::l=>.cons (.sc rfl) (YN c w l)
theorem Ti (c:Cx) (w:World):∀ l:List (List (List UInt8)),BN c w (l.flatMap fun y=>y.map Af) (l.flatMap fun y=>y.flatMap fun z=>[.string ⟨z.toArray⟩])
 | []=>.nil
 | a::l=>(OD c w a).append (Ti c w l)
theorem Pe {W:World} {g:Nat} {l:List AV} {cs:Array Value} (h:∃ t fr,W.heap[g]?=some (.cells cs t fr)) (hr:BN (Mo.OQ W) W l cs.toList):AM (Mo.OQ W) W g 0 l:=by
 obtain ⟨t,fr,h⟩:=h
 refine AM.Lm hr fun i v hi=>Mo.kF ?_
 rw [Nat.zero_add,cell_of_row W g i cs t fr h]
 rwa [Array.getElem?_toList] at hi
theorem Vf {W:World} (h:laidMetH Tryz.prog Rows.unitsOperandsRow.laid W) (hsh:W.ShapedOpen Tryz.prog):∃ mx,St (HdU.G mx) (Mo.OQ W) W s0:=by
 have h:laidMet Tryz.prog [("math/bits.deBruijn32tab",Rows.laid_math_bits_deBruijn32tab),("math/bits.deBruijn64tab",Rows.laid_math_bits_deBruijn64tab),("internal/strconv.uint64pow10",Rows.laid_internal_strconv_uint64pow10),("unicode/utf8.acceptRanges",Rows.laid_unicode_utf8_acceptRanges),("strconv.ErrRange",Rows.laid_strconv_ErrRange),("strconv.ErrSyntax",Rows.laid_strconv_ErrSyntax),("wageoffice/calendar.before",Rows.laid_wageoffice_calendar_before),("wageoffice/lexer.classes",Rows.laid_wageoffice_lexer_classes),("wageoffice/lexer.symbols",Rows.laid_wageoffice_lexer_symbols),("wageoffice/parser.operators",Rows.laid_wageoffice_parser_operators),("wageoffice/parser.roles",Rows.laid_wageoffice_parser_roles),("unicode/utf8.first",Rows.laid_unicode_utf8_first)] W:=h
 obtain ⟨ps,⟨_,_,_,_,_,_,_,_,_,_,⟨_,_,_,_,_,_,_,_,_,_,⟨_,_,_,_,_,_,_,_,_,_,⟨_,_,_,_,_,_,_,_,_,_,⟨_,_,_,_,_,_,_,_,_,_,⟨_,_,_,_,_,_,_,_,_,_,⟨g7,t7,cs7,f7,p7,q7,hg7,ht7,hv7,hd7,⟨g8,t8,cs8,f8,p8,q8,hg8,ht8,hv8,hd8,⟨g9,t9,cs9,f9,p9,q9,hg9,ht9,hv9,hd9,⟨g10,t10,cs10,f10,p10,q10,hg10,ht10,hv10,hd10,⟨g11,t11,cs11,f11,p11,q11,hg11,ht11,hv11,hd11,_⟩,_⟩,_⟩,_⟩,_⟩,_⟩,_⟩,_⟩,_⟩,_⟩,_⟩,_⟩:=h
 obtain rfl:=Option.some.inj (gB.symm.trans hg7)
 obtain rfl:=Option.some.inj (gC.symm.trans hg8)
 obtain rfl:=Option.some.inj (gS.symm.trans hg9)
 obtain rfl:=Option.some.inj (gO.symm.trans hg10)
 obtain rfl:=Option.some.inj (gR.symm.trans hg11)
 obtain rfl:=Option.some.inj (gBT.symm.trans ht7)
 obtain rfl:=Option.some.inj (gCT.symm.trans ht8)
 obtain rfl:=Option.some.inj (gST.symm.trans ht9)
 obtain rfl:=Option.some.inj (gOT.symm.trans ht10)
 obtain rfl:=Option.some.inj (gRT.symm.trans ht11)
 rw [uZ] at hd7
 rw [wE] at hd8
 rw [vV] at hd9
 rw [wW] at hd10
 rw [u4] at hd11
 have e7:=JO (k:=1) (fun z:Int=>(DataW.lit (.int .i64 z):DataW Unit)) (fun z=>[.int .i64 z]) (fun _=>rfl)
   (fun f c y q hh=>by obtain ⟨z,hc,hz,_⟩:=DataW.trod_int Tryz.underlying3 hh;simp only [Prod.mk.injEq,DataW.lit.injEq,Lit.int.injEq,true_and] at hz;rw [hc,hz.1]) Tryz.underlying195 zI zB hd7
 have e8:=JO (k:=1) (fun i:Nat=>(DataW.lit (.int .u8 (Nf i:Nat)):DataW Unit)) (fun i=>[.int .u8 (Nf i:Nat)]) (fun _=>rfl)
   (fun f c y q hh=>by obtain ⟨z,hc,hz,_⟩:=DataW.trod_int Tryz.underlying5 hh;simp only [Prod.mk.injEq,DataW.lit.injEq,Lit.int.injEq,true_and] at hz;rw [hc,hz.1]) Tryz.underlying149 zU zC hd8
 have e9:=JO (k:=1) SE (fun y=>[.string ⟨y.toArray⟩]) (fun _=>rfl) PJ Tryz.underlying142 zS zY hd9
 have uF:=JO (k:=1) SE (fun y=>[.string ⟨y.toArray⟩]) (fun _=>rfl) PJ Tryz.underlying143 zS zR hd11
 have pC:cs10.toList=opsL.flatMap fun y=>y.flatMap fun z=>[.string ⟨z.toArray⟩]:=by
   obtain ⟨xs,m,_,hx,hl,hxl,hat⟩:=DataW.trod_array Tryz.underlying160 hd10
   have hd:(opsL.map fun l=>(DataW.agg (l.map SE):DataW Unit))=xs.map (·.1):=by
     have:=congrArg Prod.fst hx
     simpa using this
   rw [zO] at hl
   rw [z6] at hat
   have len6:∀ y∈opsL,(y.flatMap fun z=>[(Value.string ⟨z.toArray⟩:Value)]).length=6:=by decide
   have hget:∀ (i:Nat) y,opsL[i]?=some y→(cs10.toList.drop (i*6)).take 6=y.flatMap fun z=>[.string ⟨z.toArray⟩]:=by
     intro i y hy
     have hi:i < 6:=(List.getElem?_eq_some_iff.1 hy).1
     have h2:=hat i hi
     have hxi:xs[i]?=some xs[i]:=List.getElem?_eq_getElem (by omega)
     rw [hxi] at h2
     have h3:(opsL.map fun l=>(DataW.agg (l.map SE):DataW Unit))[i]?=(xs.map (·.1))[i]?:=by rw [hd]
     rw [List.getElem?_map,List.getElem?_map,hy,hxi] at h3
     simp only [Option.map_some,Option.some.injEq] at h3
     have h4:xs[i]=(.agg (y.map SE),xs[i].2):=Prod.ext h3.symm rfl
     rw [h4] at h2
     exact JO (k:=1) SE (fun y=>[.string ⟨y.toArray⟩]) (fun _=>rfl) PJ Tryz.underlying159 zS z6 h2
   have l6:∀ {l:List (List (List UInt8))} {cs:List Value},(∀ y∈l,(y.flatMap fun z=>[(Value.string ⟨z.toArray⟩:Value)]).length=6)→cs.length=l.length*6→(∀ (i:Nat) y,l[i]?=some y→(cs.drop (i*6)).take 6=y.flatMap fun z=>[.string ⟨z.toArray⟩])→cs=l.flatMap fun y=>y.flatMap fun z=>[.string ⟨z.toArray⟩]:=by
     intro l
     induction l with
     | nil=>intro cs _ h _;exact List.eq_nil_of_length_eq_zero (by simpa using h)
     | cons a l ih =>
       intro cs hq h hc
       have h0:=hc 0 a rfl
       rw [Nat.zero_mul,List.drop_zero] at h0
       have:=ih (cs:=cs.drop 6) (fun y hy=>hq y (by simp [hy])) (by rw [List.length_drop,h,List.length_cons,Nat.succ_mul];omega) fun i y hy=>by
         rw [List.drop_drop]
         have:=hc (i+1) y (by simpa using hy)
         rwa [Nat.succ_mul,Nat.add_comm] at this
       rw [List.flatMap_cons,← h0,← this,List.take_append_drop]
   exact l6 len6 (by rw [hl];rfl) hget
 obtain ⟨mx,hm⟩:=oB hsh
 have hst:=Mo.stW W
 refine ⟨mx,hst.len,hst.desc,hst.nodup,hst.low,hst.box,hst.rlen,hst.row,hst.rfree,hst.plow,hst.blow,hst.rdist,fun g cs h=>?_,hst.bsz⟩
 unfold HdU.G at h
 split at h
 · rename_i hg;cases h;rw [beq_true hg]
   exact Pe (KU gO hv10) (by rw [pC];exact Ti _ _ opsL)
 · split at h
   · rename_i hg;cases h;rw [beq_true hg]
     exact Pe (KU gR hv11) (by rw [uF];exact OD _ _ qN)
   · split at h
     · rename_i hg;cases h;rw [beq_true hg]
       exact Pe (KU gB hv7) (by rw [e7];exact Vx _ _ tP)
     · split at h
       · rename_i hg;cases h;rw [beq_true hg]
         exact Pe (KU gC hv8) (by rw [e8];exact YN _ _ _)
       · split at h
         · rename_i hg;cases h;rw [beq_true hg]
           exact Pe (KU gS hv9) (by rw [e9];exact OD _ _ _)
         · split at h
           · rename_i hg;cases h;rw [beq_true hg]
             exact .cons (Mo.kF hm) (.sc rfl) .nil
           · cases h
theorem U9 {mx:Int} {f:FuncId} {args:List AV} {vs:List Value} {W:World} (hst:St (HdU.G mx) (Mo.OQ W) W s0) (h:Pure Tryz.prog (HdU.G mx) f args (.sc (.bool true))) (ha:BN (Mo.OQ W) W args vs):Calls Tryz.prog f vs.toArray W fun e W'=>e=.returned (.bool true)∧Below W.heap.size W W':=by
 refine (h s0 (Mo.OQ W) W vs hst ha).mono ?_
 rintro e w' ⟨c',hx,_,u,rfl,hu⟩
 cases hu
 exact ⟨rfl,hx.below⟩
def jX:DataW Unit→List Value
 | .lit l=>[l.value]
 | _=>[]
def sH:DataW Unit→List Value
 | .agg l=>l.flatMap jX
 | d=>jX d
def LJ:DataW Unit→Array Value
 | .agg l=>(l.flatMap sH).toArray
 | d=>(jX d).toArray
def putCells (cs:Array Value):Obj→Obj
 | .cells _ t frozen=>.cells cs t frozen
 | o=>o
noncomputable def low:Nat:=(World.holding Tryz.prog default ⟨#[],#[],[]⟩).heap.size
abbrev qI:ByteArray:={ data:=#[118,97,108,117,101,32,111,117,116,32,111,102,32,114,97,110,103,101] }
abbrev tH:ByteArray:={ data:=#[105,110,118,97,108,105,100,32,115,121,110,116,97,120] }
noncomputable def Np (os:Os):World :=
 let w0:=World.holding Tryz.prog os ⟨#[.cells #[.string qI] 207,.cells #[.string tH] 207],#[],[]⟩
 { w0 with heap:=((((((((((((w0.heap.modify 11 (putCells (LJ Rows.laid_math_bits_deBruijn32tab))).modify
     12 (putCells (LJ Rows.laid_math_bits_deBruijn64tab))).modify
     10 (putCells (LJ Rows.laid_internal_strconv_uint64pow10))).modify
     9 (putCells (LJ Rows.laid_unicode_utf8_acceptRanges))).modify
     5 (putCells #[.iface 205 (.pointer (some ⟨low,0,none⟩))])).modify
     4 (putCells #[.iface 205 (.pointer (some ⟨low+1,0,none⟩))])).modify
     6 (putCells (LJ Rows.laid_wageoffice_calendar_before))).modify
     2 (putCells (LJ Rows.laid_wageoffice_lexer_classes))).modify
     0 (putCells (LJ Rows.laid_wageoffice_lexer_symbols))).modify
     3 (putCells (LJ Rows.laid_wageoffice_parser_operators))).modify
     1 (putCells (LJ Rows.laid_wageoffice_parser_roles))).modify
     8 (putCells (LJ Rows.laid_unicode_utf8_first))) }
theorem YW (os:Os) (args:Array Value):laidMet Tryz.prog Rows.unitsOperandsRow.laid ((Np os).forCall (fun _ _=>0) ⟨#[],args,[]⟩).memory :=
 laidMet_of_run3 8 (by kernel_rfl) (by kernel_rfl) (by kernel_rfl)
end Go.Proofs.YtkfplcngmiljaaaGreatDoor
namespace Go.Proofs.YtkfplcngmiljaaaGreatDoor
open AI
set_option maxRecDepth 100000
set_option maxHeartbeats 4000000
def k0:AV:=Af [102,97,99,116,32,104,111,117,114,115,32,58,32,109,105,110,117,116,101,115,59,32,102,97,99,116,32,114,97,116,101,32,58,32,69,85,82,59,32,102,97,99,116,32,109,97,114,114,105,101,100,32,58,32,116,114,117,116,104,59,32,108,105,110,101,32,98,97,115,105,99,32,58,32,69,85,82,32,101,97,114,110,59,32,97,114,116,105,99,108,101,32,49,32,102,111,114,32,98,97,115,105,99,32,114,97,110,107,32,49,32,102,114,111,109,32,50,48,50,52,45,48,49,45,48,49,32,107,110,111,119,110,32,50,48,50,52,45,48,49,45,48,49,32,123,32,97,109,111,117,110,116,32,69,85,82,32,49,46,48,48,59,32,125]
def k1:AV:=Af [109,105,110,117,116,101,115]
def k2:AV:=Af [109,97,114,114,105,101,100]
def k3:AV:=Af [97,114,116,105,99,108,101]
def k4:AV:=Af [50,48,50,52,45,48,49,45,48,49]
def k5:AV:=.sl .lost 37 [(.sc (.int .i64 (.ofNat 1))),(Af [102,97,99,116]),(.sc (.int .i64 (.ofNat 0))),(.sc (.int .i64 (.ofNat 1))),(Af [104,111,117,114,115]),(.sc (.int .i64 (.ofNat 5))),(.sc (.int .i64 (.ofNat 6))),(Af [58]),(.sc (.int .i64 (.ofNat 11))),(.sc (.int .i64 (.ofNat 1))),k1,(.sc (.int .i64 (.ofNat 13))),(.sc (.int .i64 (.ofNat 6))),(Af [59]),(.sc (.int .i64 (.ofNat 20))),(.sc (.int .i64 (.ofNat 1))),(Af [102,97,99,116]),(.sc (.int .i64 (.ofNat 22))),(.sc (.int .i64 (.ofNat 1))),(Af [114,97,116,101]),(.sc (.int .i64 (.ofNat 27))),(.sc (.int .i64 (.ofNat 6))),(Af [58]),(.sc (.int .i64 (.ofNat 32))),(.sc (.int .i64 (.ofNat 2))),(Af [69,85,82]),(.sc (.int .i64 (.ofNat 34))),(.sc (.int .i64 (.ofNat 6))),(Af [59]),(.sc (.int .i64 (.ofNat 37))),(.sc (.int .i64 (.ofNat 1))),(Af [102,97,99,116]),(.sc (.int .i64 (.ofNat 39))),(.sc (.int .i64 (.ofNat 1))),k2,(.sc (.int .i64 (.ofNat 44))),(.sc (.int .i64 (.ofNat 6))),(Af [58]),(.sc (.int .i64 (.ofNat 52))),(.sc (.int .i64 (.ofNat 1))),(Af [116,114,117,116,104]),(.sc (.int .i64 (.ofNat 54))),(.sc (.int .i64 (.ofNat 6))),(Af [59]),(.sc (.int .i64 (.ofNat 59))),(.sc (.int .i64 (.ofNat 1))),(Af [108,105,110,101]),(.sc (.int .i64 (.ofNat 61))),(.sc (.int .i64 (.ofNat 1))),(Af [98,97,115,105,99]),(.sc (.int .i64 (.ofNat 66))),(.sc (.int .i64 (.ofNat 6))),(Af [58]),(.sc (.int .i64 (.ofNat 72))),(.sc (.int .i64 (.ofNat 2))),(Af [69,85,82]),(.sc (.int .i64 (.ofNat 74))),(.sc (.int .i64 (.ofNat 1))),(Af [101,97,114,110]),(.sc (.int .i64 (.ofNat 78))),(.sc (.int .i64 (.ofNat 6))),(Af [59]),(.sc (.int .i64 (.ofNat 82))),(.sc (.int .i64 (.ofNat 1))),k3,(.sc (.int .i64 (.ofNat 84))),(.sc (.int .i64 (.ofNat 3))),(Af [49]),(.sc (.int .i64 (.ofNat 92))),(.sc (.int .i64 (.ofNat 1))),(Af [102,111,114]),(.sc (.int .i64 (.ofNat 94))),(.sc (.int .i64 (.ofNat 1))),(Af [98,97,115,105,99]),(.sc (.int .i64 (.ofNat 98))),(.sc (.int .i64 (.ofNat 1))),(Af [114,97,110,107]),(.sc (.int .i64 (.ofNat 104))),(.sc (.int .i64 (.ofNat 3))),(Af [49]),(.sc (.int .i64 (.ofNat 109))),(.sc (.int .i64 (.ofNat 1))),(Af [102,114,111,109]),(.sc (.int .i64 (.ofNat 111))),(.sc (.int .i64 (.ofNat 5))),k4,(.sc (.int .i64 (.ofNat 116))),(.sc (.int .i64 (.ofNat 1))),(Af [107,110,111,119,110]),(.sc (.int .i64 (.ofNat 127))),(.sc (.int .i64 (.ofNat 5))),k4,(.sc (.int .i64 (.ofNat 133))),(.sc (.int .i64 (.ofNat 6))),(Af [123]),(.sc (.int .i64 (.ofNat 144))),(.sc (.int .i64 (.ofNat 1))),(Af [97,109,111,117,110,116]),(.sc (.int .i64 (.ofNat 146))),(.sc (.int .i64 (.ofNat 2))),(Af [69,85,82]),(.sc (.int .i64 (.ofNat 153))),(.sc (.int .i64 (.ofNat 4))),(Af [49,46,48,48]),(.sc (.int .i64 (.ofNat 157))),(.sc (.int .i64 (.ofNat 6))),(Af [59]),(.sc (.int .i64 (.ofNat 161))),(.sc (.int .i64 (.ofNat 6))),(Af [125]),(.sc (.int .i64 (.ofNat 163)))]
def k6:AV:=Af [104,111,117,114,115,32,97,116,32,114,97,116,101,32,43,32,97,114,116,32,49]
def k7:AV:=.sl .lost 6 [(.sc (.int .i64 (.ofNat 1))),(Af [104,111,117,114,115]),(.sc (.int .i64 (.ofNat 0))),(.sc (.int .i64 (.ofNat 1))),(Af [97,116]),(.sc (.int .i64 (.ofNat 6))),(.sc (.int .i64 (.ofNat 1))),(Af [114,97,116,101]),(.sc (.int .i64 (.ofNat 9))),(.sc (.int .i64 (.ofNat 6))),(Af [43]),(.sc (.int .i64 (.ofNat 14))),(.sc (.int .i64 (.ofNat 1))),(Af [97,114,116]),(.sc (.int .i64 (.ofNat 16))),(.sc (.int .i64 (.ofNat 3))),(Af [49]),(.sc (.int .i64 (.ofNat 20)))]
def k8:AV:=Af [104,111,117,114,115,32,62,32,56,32,109,105,110,32,97,110,100,32,109,97,114,114,105,101,100]
def k9:AV:=.sl .lost 6 [(.sc (.int .i64 (.ofNat 1))),(Af [104,111,117,114,115]),(.sc (.int .i64 (.ofNat 0))),(.sc (.int .i64 (.ofNat 6))),(Af [62]),(.sc (.int .i64 (.ofNat 6))),(.sc (.int .i64 (.ofNat 3))),(Af [56]),(.sc (.int .i64 (.ofNat 8))),(.sc (.int .i64 (.ofNat 1))),(Af [109,105,110]),(.sc (.int .i64 (.ofNat 10))),(.sc (.int .i64 (.ofNat 1))),(Af [97,110,100]),(.sc (.int .i64 (.ofNat 14))),(.sc (.int .i64 (.ofNat 1))),k2,(.sc (.int .i64 (.ofNat 18)))]
def vP:AV:=Af [110,111,116,32,109,97,114,114,105,101,100,32,61,61,32,116,114,117,101]
def Yi:AV:=.sl .lost 4 [(.sc (.int .i64 (.ofNat 1))),(Af [110,111,116]),(.sc (.int .i64 (.ofNat 0))),(.sc (.int .i64 (.ofNat 1))),k2,(.sc (.int .i64 (.ofNat 4))),(.sc (.int .i64 (.ofNat 6))),(Af [61,61]),(.sc (.int .i64 (.ofNat 12))),(.sc (.int .i64 (.ofNat 1))),(Af [116,114,117,101]),(.sc (.int .i64 (.ofNat 15)))]
def YB:AV:=Af [114,97,116,101,32,42,32,51,32,47,32,49,48,48]
def Yq:AV:=.sl .lost 5 [(.sc (.int .i64 (.ofNat 1))),(Af [114,97,116,101]),(.sc (.int .i64 (.ofNat 0))),(.sc (.int .i64 (.ofNat 6))),(Af [42]),(.sc (.int .i64 (.ofNat 5))),(.sc (.int .i64 (.ofNat 3))),(Af [51]),(.sc (.int .i64 (.ofNat 7))),(.sc (.int .i64 (.ofNat 6))),(Af [47]),(.sc (.int .i64 (.ofNat 9))),(.sc (.int .i64 (.ofNat 3))),(Af [49,48,48]),(.sc (.int .i64 (.ofNat 11)))]
def Y3:AV:=Af [50,32,42,32,104,111,117,114,115]
def ZX:AV:=.sl .lost 3 [(.sc (.int .i64 (.ofNat 3))),(Af [50]),(.sc (.int .i64 (.ofNat 0))),(.sc (.int .i64 (.ofNat 6))),(Af [42]),(.sc (.int .i64 (.ofNat 2))),(.sc (.int .i64 (.ofNat 1))),(Af [104,111,117,114,115]),(.sc (.int .i64 (.ofNat 4)))]
def VG:AV:=Af [114,97,116,101,32,42,32,114,97,116,101]
def XX:AV:=.sl .lost 3 [(.sc (.int .i64 (.ofNat 1))),(Af [114,97,116,101]),(.sc (.int .i64 (.ofNat 0))),(.sc (.int .i64 (.ofNat 6))),(Af [42]),(.sc (.int .i64 (.ofNat 5))),(.sc (.int .i64 (.ofNat 1))),(Af [114,97,116,101]),(.sc (.int .i64 (.ofNat 7)))]
def YR:AV:=Af [104,111,117,114,115,32,43,32,49]
def vN:AV:=.sl .lost 3 [(.sc (.int .i64 (.ofNat 1))),(Af [104,111,117,114,115]),(.sc (.int .i64 (.ofNat 0))),(.sc (.int .i64 (.ofNat 6))),(Af [43]),(.sc (.int .i64 (.ofNat 6))),(.sc (.int .i64 (.ofNat 3))),(Af [49]),(.sc (.int .i64 (.ofNat 8)))]
def uY:AV:=.sl .lost 3 [(.sc (.int .i64 (.ofNat 1))),(Af [120]),(.sc (.int .i64 (.ofNat 0))),(.sc (.int .i64 (.ofNat 6))),(Af [43]),(.sc (.int .i64 (.ofNat 2))),(.sc (.int .i64 (.ofNat 3))),(Af [49]),(.sc (.int .i64 (.ofNat 4)))]
def wG:AV:=Af [116,97,98,108,101,40,104,111,117,114,115,59,32,48,32,58,32,48,32,43,32,49,47,49,48,41]
def vA:AV:=.sl .lost 12 [(.sc (.int .i64 (.ofNat 1))),(Af [116,97,98,108,101]),(.sc (.int .i64 (.ofNat 0))),(.sc (.int .i64 (.ofNat 6))),(Af [40]),(.sc (.int .i64 (.ofNat 5))),(.sc (.int .i64 (.ofNat 1))),(Af [104,111,117,114,115]),(.sc (.int .i64 (.ofNat 6))),(.sc (.int .i64 (.ofNat 6))),(Af [59]),(.sc (.int .i64 (.ofNat 11))),(.sc (.int .i64 (.ofNat 3))),(Af [48]),(.sc (.int .i64 (.ofNat 13))),(.sc (.int .i64 (.ofNat 6))),(Af [58]),(.sc (.int .i64 (.ofNat 15))),(.sc (.int .i64 (.ofNat 3))),(Af [48]),(.sc (.int .i64 (.ofNat 17))),(.sc (.int .i64 (.ofNat 6))),(Af [43]),(.sc (.int .i64 (.ofNat 19))),(.sc (.int .i64 (.ofNat 3))),(Af [49]),(.sc (.int .i64 (.ofNat 21))),(.sc (.int .i64 (.ofNat 6))),(Af [47]),(.sc (.int .i64 (.ofNat 22))),(.sc (.int .i64 (.ofNat 3))),(Af [49,48]),(.sc (.int .i64 (.ofNat 23))),(.sc (.int .i64 (.ofNat 6))),(Af [41]),(.sc (.int .i64 (.ofNat 25)))]
def wY:AV:=Af [108,101,97,115,116,40,114,97,116,101,44,32,69,85,82,32,49,46,48,48,41]
def wF:AV:=.sl .lost 7 [(.sc (.int .i64 (.ofNat 1))),(Af [108,101,97,115,116]),(.sc (.int .i64 (.ofNat 0))),(.sc (.int .i64 (.ofNat 6))),(Af [40]),(.sc (.int .i64 (.ofNat 5))),(.sc (.int .i64 (.ofNat 1))),(Af [114,97,116,101]),(.sc (.int .i64 (.ofNat 6))),(.sc (.int .i64 (.ofNat 6))),(Af [44]),(.sc (.int .i64 (.ofNat 10))),(.sc (.int .i64 (.ofNat 2))),(Af [69,85,82]),(.sc (.int .i64 (.ofNat 12))),(.sc (.int .i64 (.ofNat 4))),(Af [49,46,48,48]),(.sc (.int .i64 (.ofNat 16))),(.sc (.int .i64 (.ofNat 6))),(Af [41]),(.sc (.int .i64 (.ofNat 20)))]
def yI:AV:=Af [102,97,99,116,32,104,111,117,114,115,32,58,32,109,105,110,117,116,101,115,59,32,102,97,99,116,32,114,97,116,101,32,58,32,69,85,82,59,32,102,97,99,116,32,109,97,114,114,105,101,100,32,58,32,116,114,117,116,104,59,32,108,105,110,101,32,98,97,115,105,99,32,58,32,69,85,82,32,101,97,114,110,59,32,97,114,116,105,99,108,101,32,49,32,102,111,114,32,98,97,115,105,99,32,114,97,110,107,32,49,32,102,114,111,109,32,50,48,50,52,45,48,49,45,48,49,32,107,110,111,119,110,32,50,48,50,52,45,48,49,45,48,49,32,123,32,97,109,111,117,110,116,32,69,85,82,32,49,46,48,48,59,32,125,32,108,105,110,101,32,98,97,115,105,99,32,58,32,110,117,109,98,101,114,32,105,110,102,111,59]
def K0:AV:=.sl .lost 43 [(.sc (.int .i64 (.ofNat 1))),(Af [102,97,99,116]),(.sc (.int .i64 (.ofNat 0))),(.sc (.int .i64 (.ofNat 1))),(Af [104,111,117,114,115]),(.sc (.int .i64 (.ofNat 5))),(.sc (.int .i64 (.ofNat 6))),(Af [58]),(.sc (.int .i64 (.ofNat 11))),(.sc (.int .i64 (.ofNat 1))),k1,(.sc (.int .i64 (.ofNat 13))),(.sc (.int .i64 (.ofNat 6))),(Af [59]),(.sc (.int .i64 (.ofNat 20))),(.sc (.int .i64 (.ofNat 1))),(Af [102,97,99,116]),(.sc (.int .i64 (.ofNat 22))),(.sc (.int .i64 (.ofNat 1))),(Af [114,97,116,101]),(.sc (.int .i64 (.ofNat 27))),(.sc (.int .i64 (.ofNat 6))),(Af [58]),(.sc (.int .i64 (.ofNat 32))),(.sc (.int .i64 (.ofNat 2))),(Af [69,85,82]),(.sc (.int .i64 (.ofNat 34))),(.sc (.int .i64 (.ofNat 6))),(Af [59]),(.sc (.int .i64 (.ofNat 37))),(.sc (.int .i64 (.ofNat 1))),(Af [102,97,99,116]),(.sc (.int .i64 (.ofNat 39))),(.sc (.int .i64 (.ofNat 1))),k2,(.sc (.int .i64 (.ofNat 44))),(.sc (.int .i64 (.ofNat 6))),(Af [58]),(.sc (.int .i64 (.ofNat 52))),(.sc (.int .i64 (.ofNat 1))),(Af [116,114,117,116,104]),(.sc (.int .i64 (.ofNat 54))),(.sc (.int .i64 (.ofNat 6))),(Af [59]),(.sc (.int .i64 (.ofNat 59))),(.sc (.int .i64 (.ofNat 1))),(Af [108,105,110,101]),(.sc (.int .i64 (.ofNat 61))),(.sc (.int .i64 (.ofNat 1))),(Af [98,97,115,105,99]),(.sc (.int .i64 (.ofNat 66))),(.sc (.int .i64 (.ofNat 6))),(Af [58]),(.sc (.int .i64 (.ofNat 72))),(.sc (.int .i64 (.ofNat 2))),(Af [69,85,82]),(.sc (.int .i64 (.ofNat 74))),(.sc (.int .i64 (.ofNat 1))),(Af [101,97,114,110]),(.sc (.int .i64 (.ofNat 78))),(.sc (.int .i64 (.ofNat 6))),(Af [59]),(.sc (.int .i64 (.ofNat 82))),(.sc (.int .i64 (.ofNat 1))),k3,(.sc (.int .i64 (.ofNat 84))),(.sc (.int .i64 (.ofNat 3))),(Af [49]),(.sc (.int .i64 (.ofNat 92))),(.sc (.int .i64 (.ofNat 1))),(Af [102,111,114]),(.sc (.int .i64 (.ofNat 94))),(.sc (.int .i64 (.ofNat 1))),(Af [98,97,115,105,99]),(.sc (.int .i64 (.ofNat 98))),(.sc (.int .i64 (.ofNat 1))),(Af [114,97,110,107]),(.sc (.int .i64 (.ofNat 104))),(.sc (.int .i64 (.ofNat 3))),(Af [49]),(.sc (.int .i64 (.ofNat 109))),(.sc (.int .i64 (.ofNat 1))),(Af [102,114,111,109]),(.sc (.int .i64 (.ofNat 111))),(.sc (.int .i64 (.ofNat 5))),k4,(.sc (.int .i64 (.ofNat 116))),(.sc (.int .i64 (.ofNat 1))),(Af [107,110,111,119,110]),(.sc (.int .i64 (.ofNat 127))),(.sc (.int .i64 (.ofNat 5))),k4,(.sc (.int .i64 (.ofNat 133))),(.sc (.int .i64 (.ofNat 6))),(Af [123]),(.sc (.int .i64 (.ofNat 144))),(.sc (.int .i64 (.ofNat 1))),(Af [97,109,111,117,110,116]),(.sc (.int .i64 (.ofNat 146))),(.sc (.int .i64 (.ofNat 2))),(Af [69,85,82]),(.sc (.int .i64 (.ofNat 153))),(.sc (.int .i64 (.ofNat 4))),(Af [49,46,48,48]),(.sc (.int .i64 (.ofNat 157))),(.sc (.int .i64 (.ofNat 6))),(Af [59]),(.sc (.int .i64 (.ofNat 161))),(.sc (.int .i64 (.ofNat 6))),(Af [125]),(.sc (.int .i64 (.ofNat 163))),(.sc (.int .i64 (.ofNat 1))),(Af [108,105,110,101]),(.sc (.int .i64 (.ofNat 165))),(.sc (.int .i64 (.ofNat 1))),(Af [98,97,115,105,99]),(.sc (.int .i64 (.ofNat 170))),(.sc (.int .i64 (.ofNat 6))),(Af [58]),(.sc (.int .i64 (.ofNat 176))),(.sc (.int .i64 (.ofNat 1))),(Af [110,117,109,98,101,114]),(.sc (.int .i64 (.ofNat 178))),(.sc (.int .i64 (.ofNat 1))),(Af [105,110,102,111]),(.sc (.int .i64 (.ofNat 185))),(.sc (.int .i64 (.ofNat 6))),(Af [59]),(.sc (.int .i64 (.ofNat 189)))]
def k27:AV:=.sl .full 2 [(.sc (.int .i64 (.ofNat 12))),(Af [104,111,117,114,115]),(Af []),(.sc (.int .i64 (.ofNat 0))),(.sc (.int .i64 (.ofNat 0))),(.sc (.int .i64 (.ofNat 0))),(.sc (.int .i64 (.ofNat 0))),(.sc (.int .i64 (.ofNat 0))),(.sl .full 0 []),(.sl .full 0 []),(.sc (.int .i64 (.ofNat 0))),(.sc (.int .i64 (.ofNat 12))),(Af [114,97,116,101]),(Af []),(.sc (.int .i64 (.ofNat 0))),(.sc (.int .i64 (.ofNat 0))),(.sc (.int .i64 (.ofNat 0))),(.sc (.int .i64 (.ofNat 0))),(.sc (.int .i64 (.ofNat 0))),(.sl .full 0 []),(.sl .full 0 []),(.sc (.int .i64 (.ofNat 9)))]
def pO:AV:=.sl .full 2 [(.sc (.int .i64 (.ofNat 16))),(Af [97,116]),(Af []),(.sc (.int .i64 (.ofNat 0))),(.sc (.int .i64 (.ofNat 0))),(.sc (.int .i64 (.ofNat 0))),(.sc (.int .i64 (.ofNat 0))),(.sc (.int .i64 (.ofNat 0))),(.sl .full 0 []),k27,(.sc (.int .i64 (.ofNat 0))),(.sc (.int .i64 (.ofNat 13))),(Af []),(Af []),(.sc (.int .i64 (.ofNat 1))),(.sc (.int .i64 (.ofNat 0))),(.sc (.int .i64 (.ofNat 0))),(.sc (.int .i64 (.ofNat 0))),(.sc (.int .i64 (.ofNat 0))),(.sl .full 0 []),(.sl .full 0 []),(.sc (.int .i64 (.ofNat 16)))]
def k29:AV:=.sl .full 2 [(.sc (.int .i64 (.ofNat 11))),(Af []),k1,(.sc (.int .i64 (.ofNat 8))),(.sc (.int .i64 (.ofNat 0))),(.sc (.int .i64 (.ofNat 0))),(.sc (.int .i64 (.ofNat 0))),(.sc (.int .i64 (.ofNat 0))),(.sl .full 0 []),(.sl .full 0 []),(.sc (.int .i64 (.ofNat 8))),(.sc (.int .i64 (.ofNat 12))),(Af [104,111,117,114,115]),(Af []),(.sc (.int .i64 (.ofNat 0))),(.sc (.int .i64 (.ofNat 0))),(.sc (.int .i64 (.ofNat 0))),(.sc (.int .i64 (.ofNat 0))),(.sc (.int .i64 (.ofNat 0))),(.sl .full 0 []),(.sl .full 0 []),(.sc (.int .i64 (.ofNat 0)))]
def pU:AV:=.sl .full 2 [(.sc (.int .i64 (.ofNat 16))),(Af [60]),(Af []),(.sc (.int .i64 (.ofNat 0))),(.sc (.int .i64 (.ofNat 0))),(.sc (.int .i64 (.ofNat 0))),(.sc (.int .i64 (.ofNat 0))),(.sc (.int .i64 (.ofNat 0))),(.sl .full 0 []),k29,(.sc (.int .i64 (.ofNat 0))),(.sc (.int .i64 (.ofNat 12))),k2,(Af []),(.sc (.int .i64 (.ofNat 0))),(.sc (.int .i64 (.ofNat 0))),(.sc (.int .i64 (.ofNat 0))),(.sc (.int .i64 (.ofNat 0))),(.sc (.int .i64 (.ofNat 0))),(.sl .full 0 []),(.sl .full 0 []),(.sc (.int .i64 (.ofNat 18)))]
def k31:AV:=.sl .full 2 [(.sc (.int .i64 (.ofNat 12))),k2,(Af []),(.sc (.int .i64 (.ofNat 0))),(.sc (.int .i64 (.ofNat 0))),(.sc (.int .i64 (.ofNat 0))),(.sc (.int .i64 (.ofNat 0))),(.sc (.int .i64 (.ofNat 0))),(.sl .full 0 []),(.sl .full 0 []),(.sc (.int .i64 (.ofNat 4))),(.sc (.int .i64 (.ofNat 11))),(Af []),(Af [116,114,117,116,104]),(.sc (.int .i64 (.ofNat 1))),(.sc (.int .i64 (.ofNat 0))),(.sc (.int .i64 (.ofNat 0))),(.sc (.int .i64 (.ofNat 0))),(.sc (.int .i64 (.ofNat 0))),(.sl .full 0 []),(.sl .full 0 []),(.sc (.int .i64 (.ofNat 15)))]
def pG:AV:=.sl .full 1 [(.sc (.int .i64 (.ofNat 16))),(Af [61,61]),(Af []),(.sc (.int .i64 (.ofNat 0))),(.sc (.int .i64 (.ofNat 0))),(.sc (.int .i64 (.ofNat 0))),(.sc (.int .i64 (.ofNat 0))),(.sc (.int .i64 (.ofNat 0))),(.sl .full 0 []),k31,(.sc (.int .i64 (.ofNat 4)))]
def k33:AV:=.sl .full 2 [(.sc (.int .i64 (.ofNat 12))),(Af [114,97,116,101]),(Af []),(.sc (.int .i64 (.ofNat 0))),(.sc (.int .i64 (.ofNat 0))),(.sc (.int .i64 (.ofNat 0))),(.sc (.int .i64 (.ofNat 0))),(.sc (.int .i64 (.ofNat 0))),(.sl .full 0 []),(.sl .full 0 []),(.sc (.int .i64 (.ofNat 0))),(.sc (.int .i64 (.ofNat 11))),(Af []),(Af [110,117,109,98,101,114]),(.sc (.int .i64 (.ofNat 3))),(.sc (.int .i64 (.ofNat 0))),(.sc (.int .i64 (.ofNat 0))),(.sc (.int .i64 (.ofNat 0))),(.sc (.int .i64 (.ofNat 0))),(.sl .full 0 []),(.sl .full 0 []),(.sc (.int .i64 (.ofNat 7)))]
def pB:AV:=.sl .full 2 [(.sc (.int .i64 (.ofNat 16))),(Af [42]),(Af []),(.sc (.int .i64 (.ofNat 0))),(.sc (.int .i64 (.ofNat 0))),(.sc (.int .i64 (.ofNat 0))),(.sc (.int .i64 (.ofNat 0))),(.sc (.int .i64 (.ofNat 0))),(.sl .full 0 []),k33,(.sc (.int .i64 (.ofNat 0))),(.sc (.int .i64 (.ofNat 11))),(Af []),(Af [110,117,109,98,101,114]),(.sc (.int .i64 (.ofNat 100))),(.sc (.int .i64 (.ofNat 0))),(.sc (.int .i64 (.ofNat 0))),(.sc (.int .i64 (.ofNat 0))),(.sc (.int .i64 (.ofNat 0))),(.sl .full 0 []),(.sl .full 0 []),(.sc (.int .i64 (.ofNat 11)))]
def e0:Cb:=⟨43,[k0],none,(.A9 [k5,(.sc (.int .i64 (.ofNat 0))),(.sc (.int .i64 (.ofNat 0)))])⟩
theorem sR {mx:Int}:Av Tryz.prog (HdU.G mx) e0:=HdU.FV _ _ (by kernel_rfl)
def e1:Cb:=⟨143,[(Af [49,46,48,48]),(Af [46]),(Af []),(.sc (.int .i64 (.ofNat 1)))],none,(Af [49,48,48])⟩
theorem I3 {mx:Int}:Av Tryz.prog (HdU.G mx) e1:=HdU.O8 _ _ _ _ _ (by kernel_rfl) (by kernel_rfl) (by kernel_rfl)
def e2:Cb:=⟨43,[k6],none,(.A9 [k7,(.sc (.int .i64 (.ofNat 0))),(.sc (.int .i64 (.ofNat 0)))])⟩
theorem sK {mx:Int}:Av Tryz.prog (HdU.G mx) e2:=HdU.FV _ _ (by kernel_rfl)
def e3:Cb:=⟨43,[k8],none,(.A9 [k9,(.sc (.int .i64 (.ofNat 0))),(.sc (.int .i64 (.ofNat 0)))])⟩
theorem rR {mx:Int}:Av Tryz.prog (HdU.G mx) e3:=HdU.FV _ _ (by kernel_rfl)
def e4:Cb:=⟨43,[vP],none,(.A9 [Yi,(.sc (.int .i64 (.ofNat 0))),(.sc (.int .i64 (.ofNat 0)))])⟩
theorem sN {mx:Int}:Av Tryz.prog (HdU.G mx) e4:=HdU.FV _ _ (by kernel_rfl)
def e5:Cb:=⟨43,[YB],none,(.A9 [Yq,(.sc (.int .i64 (.ofNat 0))),(.sc (.int .i64 (.ofNat 0)))])⟩
theorem qF {mx:Int}:Av Tryz.prog (HdU.G mx) e5:=HdU.FV _ _ (by kernel_rfl)
def e6:Cb:=⟨43,[Y3],none,(.A9 [ZX,(.sc (.int .i64 (.ofNat 0))),(.sc (.int .i64 (.ofNat 0)))])⟩
theorem sT {mx:Int}:Av Tryz.prog (HdU.G mx) e6:=HdU.FV _ _ (by kernel_rfl)
def e7:Cb:=⟨43,[VG],none,(.A9 [XX,(.sc (.int .i64 (.ofNat 0))),(.sc (.int .i64 (.ofNat 0)))])⟩
theorem rJ {mx:Int}:Av Tryz.prog (HdU.G mx) e7:=HdU.FV _ _ (by kernel_rfl)
def e8:Cb:=⟨43,[YR],none,(.A9 [vN,(.sc (.int .i64 (.ofNat 0))),(.sc (.int .i64 (.ofNat 0)))])⟩
theorem sE {mx:Int}:Av Tryz.prog (HdU.G mx) e8:=HdU.FV _ _ (by kernel_rfl)
def e9:Cb:=⟨43,[(Af [120,32,43,32,49])],none,(.A9 [uY,(.sc (.int .i64 (.ofNat 0))),(.sc (.int .i64 (.ofNat 0)))])⟩
theorem sU {mx:Int}:Av Tryz.prog (HdU.G mx) e9:=HdU.FV _ _ (by kernel_rfl)
def pC:Cb:=⟨43,[(Af [97,114,116,32,50])],none,(.A9 [(.sl .lost 2 [(.sc (.int .i64 (.ofNat 1))),(Af [97,114,116]),(.sc (.int .i64 (.ofNat 0))),(.sc (.int .i64 (.ofNat 3))),(Af [50]),(.sc (.int .i64 (.ofNat 4)))]),(.sc (.int .i64 (.ofNat 0))),(.sc (.int .i64 (.ofNat 0)))])⟩
theorem nC {mx:Int}:Av Tryz.prog (HdU.G mx) pC:=HdU.FV _ _ (by kernel_rfl)
def uF:Cb:=⟨43,[wG],none,(.A9 [vA,(.sc (.int .i64 (.ofNat 0))),(.sc (.int .i64 (.ofNat 0)))])⟩
theorem mK {mx:Int}:Av Tryz.prog (HdU.G mx) uF:=HdU.FV _ _ (by kernel_rfl)
def yM:Cb:=⟨43,[wY],none,(.A9 [wF,(.sc (.int .i64 (.ofNat 0))),(.sc (.int .i64 (.ofNat 0)))])⟩
theorem jO {mx:Int}:Av Tryz.prog (HdU.G mx) yM:=HdU.FV _ _ (by kernel_rfl)
def xS:Cb:=⟨43,[yI],none,(.A9 [K0,(.sc (.int .i64 (.ofNat 0))),(.sc (.int .i64 (.ofNat 0)))])⟩
theorem oV {mx:Int}:Av Tryz.prog (HdU.G mx) xS:=HdU.FV _ _ (by kernel_rfl)
def Rd:Cb:=⟨137,[(Af [48])],none,(.A9 [(.sc (.int .i64 (.ofNat 0))),(.sc .nilIface)])⟩
theorem EF {mx:Int}:Av Tryz.prog (HdU.G mx) Rd:=HdU.Jc _ _ (by kernel_rfl) (by kernel_rfl)
def Rz:Cb:=⟨137,[(Af [49])],none,(.A9 [(.sc (.int .i64 (.ofNat 1))),(.sc .nilIface)])⟩
theorem EI {mx:Int}:Av Tryz.prog (HdU.G mx) Rz:=HdU.Jc _ _ (by kernel_rfl) (by kernel_rfl)
def QN:Cb:=⟨137,[(Af [49,48])],none,(.A9 [(.sc (.int .i64 (.ofNat 10))),(.sc .nilIface)])⟩
theorem EG {mx:Int}:Av Tryz.prog (HdU.G mx) QN:=HdU.Jc _ _ (by kernel_rfl) (by kernel_rfl)
def Ru:Cb:=⟨137,[(Af [49,48,48])],none,(.A9 [(.sc (.int .i64 (.ofNat 100))),(.sc .nilIface)])⟩
theorem EJ {mx:Int}:Av Tryz.prog (HdU.G mx) Ru:=HdU.Jc _ _ (by kernel_rfl) (by kernel_rfl)
def Rb:Cb:=⟨137,[(Af [50])],none,(.A9 [(.sc (.int .i64 (.ofNat 2))),(.sc .nilIface)])⟩
theorem EQ {mx:Int}:Av Tryz.prog (HdU.G mx) Rb:=HdU.Jc _ _ (by kernel_rfl) (by kernel_rfl)
def QV:Cb:=⟨137,[(Af [51])],none,(.A9 [(.sc (.int .i64 (.ofNat 3))),(.sc .nilIface)])⟩
theorem EV {mx:Int}:Av Tryz.prog (HdU.G mx) QV:=HdU.Jc _ _ (by kernel_rfl) (by kernel_rfl)
def Q1:Cb:=⟨137,[(Af [56])],none,(.A9 [(.sc (.int .i64 (.ofNat 8))),(.sc .nilIface)])⟩
theorem EL {mx:Int}:Av Tryz.prog (HdU.G mx) Q1:=HdU.Jc _ _ (by kernel_rfl) (by kernel_rfl)
def Ue:Cb:=⟨143,[(Af [62]),(Af [62]),(Af [60]),(.sc (.int .i64 (.ofNat 1)))],none,(Af [60])⟩
theorem Gs {mx:Int}:Av Tryz.prog (HdU.G mx) Ue:=HdU.O8 _ _ _ _ _ (by kernel_rfl) (by kernel_rfl) (by kernel_rfl)
def Uf:Cb:=⟨143,[(Af [48]),(Af [46]),(Af []),(.sc (.int .i64 (.ofNat 1)))],none,(Af [48])⟩
theorem Gt {mx:Int}:Av Tryz.prog (HdU.G mx) Uf:=HdU.O8 _ _ _ _ _ (by kernel_rfl) (by kernel_rfl) (by kernel_rfl)
def xW:Cb:=⟨75,[],(some ([k7,(.sc (.int .i64 (.ofNat 0))),(.sc (.int .i64 (.ofNat 21)))],[k7,(.sc (.int .i64 (.ofNat 6))),(.sc (.int .i64 (.ofNat 21)))])),(.agg [(.sc (.int .i64 (.ofNat 16))),(Af [43]),(Af []),(.sc (.int .i64 (.ofNat 0))),(.sc (.int .i64 (.ofNat 0))),(.sc (.int .i64 (.ofNat 0))),(.sc (.int .i64 (.ofNat 0))),(.sc (.int .i64 (.ofNat 0))),(.sl .full 0 []),pO,(.sc (.int .i64 (.ofNat 0)))])⟩
theorem jZ {mx:Int}:Av Tryz.prog (HdU.G mx) xW:=HdU.entry (l:=[e1,Rd,Rz,QN,Ru,Rb,QV,Q1,Ue,Uf]) (m:=1000000) (Ac.cons I3 (Ac.cons EF (Ac.cons EI (Ac.cons EG (Ac.cons EJ (Ac.cons EQ (Ac.cons EV (Ac.cons EL (Ac.cons Gs (Ac.cons Gt HdU.none)))))))))) (by kernel_rfl) (by kernel_rfl)
def Xx:Cb:=⟨47,[(.agg [(.sc (.int .i64 (.ofNat 16))),(Af [43]),(Af []),(.sc (.int .i64 (.ofNat 0))),(.sc (.int .i64 (.ofNat 0))),(.sc (.int .i64 (.ofNat 0))),(.sc (.int .i64 (.ofNat 0))),(.sc (.int .i64 (.ofNat 0))),(.sl .full 0 []),pO,(.sc (.int .i64 (.ofNat 0)))])],none,(.A9 [(.agg [(.sc (.int .i64 (.ofNat 16))),(Af [43]),(Af []),(.sc (.int .i64 (.ofNat 0))),(.sc (.int .i64 (.ofNat 0))),(.sc (.int .i64 (.ofNat 0))),(.sc (.int .i64 (.ofNat 0))),(.sc (.int .i64 (.ofNat 0))),(.sl .full 0 []),pO,(.sc (.int .i64 (.ofNat 0)))]),(.sl .full 0 [])])⟩
theorem I8 {mx:Int}:Av Tryz.prog (HdU.G mx) Xx:=HdU.entry (l:=[]) (m:=1000000) HdU.none (by kernel_rfl) (by kernel_rfl)
def e25:Cb:=⟨48,[k6],none,(.A9 [(.agg [(.sc (.int .i64 (.ofNat 16))),(Af [43]),(Af []),(.sc (.int .i64 (.ofNat 0))),(.sc (.int .i64 (.ofNat 0))),(.sc (.int .i64 (.ofNat 0))),(.sc (.int .i64 (.ofNat 0))),(.sc (.int .i64 (.ofNat 0))),(.sl .full 0 []),pO,(.sc (.int .i64 (.ofNat 0)))]),(.sl .full 0 [])])⟩
theorem oX {mx:Int}:Av Tryz.prog (HdU.G mx) e25:=HdU.entry (l:=[e2,xW,Xx]) (m:=1000000) (Ac.cons sK (Ac.cons jZ (Ac.cons I8 HdU.none))) (by kernel_rfl) (by kernel_rfl)
def e26:Cb:=⟨75,[],(some ([k9,(.sc (.int .i64 (.ofNat 0))),(.sc (.int .i64 (.ofNat 25)))],[k9,(.sc (.int .i64 (.ofNat 6))),(.sc (.int .i64 (.ofNat 25)))])),(.agg [(.sc (.int .i64 (.ofNat 16))),(Af [97,110,100]),(Af []),(.sc (.int .i64 (.ofNat 0))),(.sc (.int .i64 (.ofNat 0))),(.sc (.int .i64 (.ofNat 0))),(.sc (.int .i64 (.ofNat 0))),(.sc (.int .i64 (.ofNat 0))),(.sl .full 0 []),pU,(.sc (.int .i64 (.ofNat 0)))])⟩
theorem kJ {mx:Int}:Av Tryz.prog (HdU.G mx) e26:=HdU.entry (l:=[e1,Rd,Rz,QN,Ru,Rb,QV,Q1,Ue,Uf]) (m:=1000000) (Ac.cons I3 (Ac.cons EF (Ac.cons EI (Ac.cons EG (Ac.cons EJ (Ac.cons EQ (Ac.cons EV (Ac.cons EL (Ac.cons Gs (Ac.cons Gt HdU.none)))))))))) (by kernel_rfl) (by kernel_rfl)
def Y0:Cb:=⟨47,[(.agg [(.sc (.int .i64 (.ofNat 16))),(Af [97,110,100]),(Af []),(.sc (.int .i64 (.ofNat 0))),(.sc (.int .i64 (.ofNat 0))),(.sc (.int .i64 (.ofNat 0))),(.sc (.int .i64 (.ofNat 0))),(.sc (.int .i64 (.ofNat 0))),(.sl .full 0 []),pU,(.sc (.int .i64 (.ofNat 0)))])],none,(.A9 [(.agg [(.sc (.int .i64 (.ofNat 16))),(Af [97,110,100]),(Af []),(.sc (.int .i64 (.ofNat 0))),(.sc (.int .i64 (.ofNat 0))),(.sc (.int .i64 (.ofNat 0))),(.sc (.int .i64 (.ofNat 0))),(.sc (.int .i64 (.ofNat 0))),(.sl .full 0 []),pU,(.sc (.int .i64 (.ofNat 0)))]),(.sl .full 0 [])])⟩
theorem Ju {mx:Int}:Av Tryz.prog (HdU.G mx) Y0:=HdU.entry (l:=[]) (m:=1000000) HdU.none (by kernel_rfl) (by kernel_rfl)
def zV:Cb:=⟨48,[k8],none,(.A9 [(.agg [(.sc (.int .i64 (.ofNat 16))),(Af [97,110,100]),(Af []),(.sc (.int .i64 (.ofNat 0))),(.sc (.int .i64 (.ofNat 0))),(.sc (.int .i64 (.ofNat 0))),(.sc (.int .i64 (.ofNat 0))),(.sc (.int .i64 (.ofNat 0))),(.sl .full 0 []),pU,(.sc (.int .i64 (.ofNat 0)))]),(.sl .full 0 [])])⟩
theorem lS {mx:Int}:Av Tryz.prog (HdU.G mx) zV:=HdU.entry (l:=[e3,Xx,e26,Y0]) (m:=1000000) (Ac.cons rR (Ac.cons I8 (Ac.cons kJ (Ac.cons Ju HdU.none)))) (by kernel_rfl) (by kernel_rfl)
def zF:Cb:=⟨75,[],(some ([Yi,(.sc (.int .i64 (.ofNat 0))),(.sc (.int .i64 (.ofNat 19)))],[Yi,(.sc (.int .i64 (.ofNat 4))),(.sc (.int .i64 (.ofNat 19)))])),(.agg [(.sc (.int .i64 (.ofNat 15))),(Af []),(Af []),(.sc (.int .i64 (.ofNat 0))),(.sc (.int .i64 (.ofNat 0))),(.sc (.int .i64 (.ofNat 0))),(.sc (.int .i64 (.ofNat 0))),(.sc (.int .i64 (.ofNat 0))),(.sl .full 0 []),pG,(.sc (.int .i64 (.ofNat 0)))])⟩
theorem lO {mx:Int}:Av Tryz.prog (HdU.G mx) zF:=HdU.entry (l:=[e1,Rd,Rz,QN,Ru,Rb,QV,Q1,Ue,Uf]) (m:=1000000) (Ac.cons I3 (Ac.cons EF (Ac.cons EI (Ac.cons EG (Ac.cons EJ (Ac.cons EQ (Ac.cons EV (Ac.cons EL (Ac.cons Gs (Ac.cons Gt HdU.none)))))))))) (by kernel_rfl) (by kernel_rfl)
def aK:Cb:=⟨47,[(.agg [(.sc (.int .i64 (.ofNat 15))),(Af []),(Af []),(.sc (.int .i64 (.ofNat 0))),(.sc (.int .i64 (.ofNat 0))),(.sc (.int .i64 (.ofNat 0))),(.sc (.int .i64 (.ofNat 0))),(.sc (.int .i64 (.ofNat 0))),(.sl .full 0 []),pG,(.sc (.int .i64 (.ofNat 0)))])],none,(.A9 [(.agg [(.sc (.int .i64 (.ofNat 15))),(Af []),(Af []),(.sc (.int .i64 (.ofNat 0))),(.sc (.int .i64 (.ofNat 0))),(.sc (.int .i64 (.ofNat 0))),(.sc (.int .i64 (.ofNat 0))),(.sc (.int .i64 (.ofNat 0))),(.sl .full 0 []),pG,(.sc (.int .i64 (.ofNat 0)))]),(.sl .full 0 [])])⟩
theorem Kv {mx:Int}:Av Tryz.prog (HdU.G mx) aK:=HdU.entry (l:=[]) (m:=1000000) HdU.none (by kernel_rfl) (by kernel_rfl)
def zW:Cb:=⟨48,[vP],none,(.A9 [(.agg [(.sc (.int .i64 (.ofNat 15))),(Af []),(Af []),(.sc (.int .i64 (.ofNat 0))),(.sc (.int .i64 (.ofNat 0))),(.sc (.int .i64 (.ofNat 0))),(.sc (.int .i64 (.ofNat 0))),(.sc (.int .i64 (.ofNat 0))),(.sl .full 0 []),pG,(.sc (.int .i64 (.ofNat 0)))]),(.sl .full 0 [])])⟩
theorem n6 {mx:Int}:Av Tryz.prog (HdU.G mx) zW:=HdU.entry (l:=[e4,Xx,Y0,zF,aK]) (m:=1000000) (Ac.cons sN (Ac.cons I8 (Ac.cons Ju (Ac.cons lO (Ac.cons Kv HdU.none))))) (by kernel_rfl) (by kernel_rfl)
def yL:Cb:=⟨75,[],(some ([Yq,(.sc (.int .i64 (.ofNat 0))),(.sc (.int .i64 (.ofNat 14)))],[Yq,(.sc (.int .i64 (.ofNat 5))),(.sc (.int .i64 (.ofNat 14)))])),(.agg [(.sc (.int .i64 (.ofNat 16))),(Af [47]),(Af []),(.sc (.int .i64 (.ofNat 0))),(.sc (.int .i64 (.ofNat 0))),(.sc (.int .i64 (.ofNat 0))),(.sc (.int .i64 (.ofNat 0))),(.sc (.int .i64 (.ofNat 0))),(.sl .full 0 []),pB,(.sc (.int .i64 (.ofNat 0)))])⟩
theorem oO {mx:Int}:Av Tryz.prog (HdU.G mx) yL:=HdU.entry (l:=[e1,Rd,Rz,QN,Ru,Rb,QV,Q1,Ue,Uf]) (m:=1000000) (Ac.cons I3 (Ac.cons EF (Ac.cons EI (Ac.cons EG (Ac.cons EJ (Ac.cons EQ (Ac.cons EV (Ac.cons EL (Ac.cons Gs (Ac.cons Gt HdU.none)))))))))) (by kernel_rfl) (by kernel_rfl)
end Go.Proofs.YtkfplcngmiljaaaGreatDoor
namespace Go.Proofs.YtkfplcngmiljaaaGreatDoor
open AI
set_option maxRecDepth 100000
set_option maxHeartbeats 4000000
def pW:AV:=.sl .full 2 [(.sc (.int .i64 (.ofNat 11))),(Af []),(Af [110,117,109,98,101,114]),(.sc (.int .i64 (.ofNat 2))),(.sc (.int .i64 (.ofNat 0))),(.sc (.int .i64 (.ofNat 0))),(.sc (.int .i64 (.ofNat 0))),(.sc (.int .i64 (.ofNat 0))),(.sl .full 0 []),(.sl .full 0 []),(.sc (.int .i64 (.ofNat 0))),(.sc (.int .i64 (.ofNat 12))),(Af [104,111,117,114,115]),(Af []),(.sc (.int .i64 (.ofNat 0))),(.sc (.int .i64 (.ofNat 0))),(.sc (.int .i64 (.ofNat 0))),(.sc (.int .i64 (.ofNat 0))),(.sc (.int .i64 (.ofNat 0))),(.sl .full 0 []),(.sl .full 0 []),(.sc (.int .i64 (.ofNat 4)))]
def pD:AV:=.sl .full 2 [(.sc (.int .i64 (.ofNat 12))),(Af [114,97,116,101]),(Af []),(.sc (.int .i64 (.ofNat 0))),(.sc (.int .i64 (.ofNat 0))),(.sc (.int .i64 (.ofNat 0))),(.sc (.int .i64 (.ofNat 0))),(.sc (.int .i64 (.ofNat 0))),(.sl .full 0 []),(.sl .full 0 []),(.sc (.int .i64 (.ofNat 0))),(.sc (.int .i64 (.ofNat 12))),(Af [114,97,116,101]),(Af []),(.sc (.int .i64 (.ofNat 0))),(.sc (.int .i64 (.ofNat 0))),(.sc (.int .i64 (.ofNat 0))),(.sc (.int .i64 (.ofNat 0))),(.sc (.int .i64 (.ofNat 0))),(.sl .full 0 []),(.sl .full 0 []),(.sc (.int .i64 (.ofNat 7)))]
def o0:AV:=.sl .full 2 [(.sc (.int .i64 (.ofNat 12))),(Af [104,111,117,114,115]),(Af []),(.sc (.int .i64 (.ofNat 0))),(.sc (.int .i64 (.ofNat 0))),(.sc (.int .i64 (.ofNat 0))),(.sc (.int .i64 (.ofNat 0))),(.sc (.int .i64 (.ofNat 0))),(.sl .full 0 []),(.sl .full 0 []),(.sc (.int .i64 (.ofNat 0))),(.sc (.int .i64 (.ofNat 11))),(Af []),(Af [110,117,109,98,101,114]),(.sc (.int .i64 (.ofNat 1))),(.sc (.int .i64 (.ofNat 0))),(.sc (.int .i64 (.ofNat 0))),(.sc (.int .i64 (.ofNat 0))),(.sc (.int .i64 (.ofNat 0))),(.sl .full 0 []),(.sl .full 0 []),(.sc (.int .i64 (.ofNat 8)))]
def pI:AV:=.sl .full 2 [(.sc (.int .i64 (.ofNat 12))),(Af [120]),(Af []),(.sc (.int .i64 (.ofNat 0))),(.sc (.int .i64 (.ofNat 0))),(.sc (.int .i64 (.ofNat 0))),(.sc (.int .i64 (.ofNat 0))),(.sc (.int .i64 (.ofNat 0))),(.sl .full 0 []),(.sl .full 0 []),(.sc (.int .i64 (.ofNat 0))),(.sc (.int .i64 (.ofNat 11))),(Af []),(Af [110,117,109,98,101,114]),(.sc (.int .i64 (.ofNat 1))),(.sc (.int .i64 (.ofNat 0))),(.sc (.int .i64 (.ofNat 0))),(.sc (.int .i64 (.ofNat 0))),(.sc (.int .i64 (.ofNat 0))),(.sl .full 0 []),(.sl .full 0 []),(.sc (.int .i64 (.ofNat 4)))]
def pJ:AV:=.sl .full 1 [(.sc (.int .i64 (.ofNat 12))),(Af [104,111,117,114,115]),(Af []),(.sc (.int .i64 (.ofNat 0))),(.sc (.int .i64 (.ofNat 0))),(.sc (.int .i64 (.ofNat 0))),(.sc (.int .i64 (.ofNat 0))),(.sc (.int .i64 (.ofNat 0))),(.sl .full 0 []),(.sl .full 0 []),(.sc (.int .i64 (.ofNat 6)))]
def aM:Cb:=⟨47,[(.agg [(.sc (.int .i64 (.ofNat 16))),(Af [47]),(Af []),(.sc (.int .i64 (.ofNat 0))),(.sc (.int .i64 (.ofNat 0))),(.sc (.int .i64 (.ofNat 0))),(.sc (.int .i64 (.ofNat 0))),(.sc (.int .i64 (.ofNat 0))),(.sl .full 0 []),pB,(.sc (.int .i64 (.ofNat 0)))])],none,(.A9 [(.agg [(.sc (.int .i64 (.ofNat 16))),(Af [47]),(Af []),(.sc (.int .i64 (.ofNat 0))),(.sc (.int .i64 (.ofNat 0))),(.sc (.int .i64 (.ofNat 0))),(.sc (.int .i64 (.ofNat 0))),(.sc (.int .i64 (.ofNat 0))),(.sl .full 0 []),pB,(.sc (.int .i64 (.ofNat 0)))]),(.sl .full 0 [])])⟩
theorem KW {mx:Int}:Av Tryz.prog (HdU.G mx) aM:=HdU.entry (l:=[]) (m:=1000000) HdU.none (by kernel_rfl) (by kernel_rfl)
def e34:Cb:=⟨48,[YB],none,(.A9 [(.agg [(.sc (.int .i64 (.ofNat 16))),(Af [47]),(Af []),(.sc (.int .i64 (.ofNat 0))),(.sc (.int .i64 (.ofNat 0))),(.sc (.int .i64 (.ofNat 0))),(.sc (.int .i64 (.ofNat 0))),(.sc (.int .i64 (.ofNat 0))),(.sl .full 0 []),pB,(.sc (.int .i64 (.ofNat 0)))]),(.sl .full 0 [])])⟩
theorem n5 {mx:Int}:Av Tryz.prog (HdU.G mx) e34:=HdU.entry (l:=[e5,Xx,Y0,aK,yL,aM]) (m:=1000000) (Ac.cons qF (Ac.cons I8 (Ac.cons Ju (Ac.cons Kv (Ac.cons oO (Ac.cons KW HdU.none)))))) (by kernel_rfl) (by kernel_rfl)
def yX:Cb:=⟨75,[],(some ([ZX,(.sc (.int .i64 (.ofNat 0))),(.sc (.int .i64 (.ofNat 9)))],[ZX,(.sc (.int .i64 (.ofNat 3))),(.sc (.int .i64 (.ofNat 9)))])),(.agg [(.sc (.int .i64 (.ofNat 16))),(Af [42]),(Af []),(.sc (.int .i64 (.ofNat 0))),(.sc (.int .i64 (.ofNat 0))),(.sc (.int .i64 (.ofNat 0))),(.sc (.int .i64 (.ofNat 0))),(.sc (.int .i64 (.ofNat 0))),(.sl .full 0 []),pW,(.sc (.int .i64 (.ofNat 0)))])⟩
theorem jW {mx:Int}:Av Tryz.prog (HdU.G mx) yX:=HdU.entry (l:=[e1,Rd,Rz,QN,Ru,Rb,QV,Q1,Ue,Uf]) (m:=1000000) (Ac.cons I3 (Ac.cons EF (Ac.cons EI (Ac.cons EG (Ac.cons EJ (Ac.cons EQ (Ac.cons EV (Ac.cons EL (Ac.cons Gs (Ac.cons Gt HdU.none)))))))))) (by kernel_rfl) (by kernel_rfl)
def iI:Cb:=⟨47,[(.agg [(.sc (.int .i64 (.ofNat 16))),(Af [42]),(Af []),(.sc (.int .i64 (.ofNat 0))),(.sc (.int .i64 (.ofNat 0))),(.sc (.int .i64 (.ofNat 0))),(.sc (.int .i64 (.ofNat 0))),(.sc (.int .i64 (.ofNat 0))),(.sl .full 0 []),pW,(.sc (.int .i64 (.ofNat 0)))])],none,(.A9 [(.agg [(.sc (.int .i64 (.ofNat 16))),(Af [42]),(Af []),(.sc (.int .i64 (.ofNat 0))),(.sc (.int .i64 (.ofNat 0))),(.sc (.int .i64 (.ofNat 0))),(.sc (.int .i64 (.ofNat 0))),(.sc (.int .i64 (.ofNat 0))),(.sl .full 0 []),pW,(.sc (.int .i64 (.ofNat 0)))]),(.sl .full 0 [])])⟩
theorem L4 {mx:Int}:Av Tryz.prog (HdU.G mx) iI:=HdU.entry (l:=[]) (m:=1000000) HdU.none (by kernel_rfl) (by kernel_rfl)
def e37:Cb:=⟨48,[Y3],none,(.A9 [(.agg [(.sc (.int .i64 (.ofNat 16))),(Af [42]),(Af []),(.sc (.int .i64 (.ofNat 0))),(.sc (.int .i64 (.ofNat 0))),(.sc (.int .i64 (.ofNat 0))),(.sc (.int .i64 (.ofNat 0))),(.sc (.int .i64 (.ofNat 0))),(.sl .full 0 []),pW,(.sc (.int .i64 (.ofNat 0)))]),(.sl .full 0 [])])⟩
theorem nF {mx:Int}:Av Tryz.prog (HdU.G mx) e37:=HdU.entry (l:=[e6,Xx,Y0,aK,aM,yX,iI]) (m:=1000000) (Ac.cons sT (Ac.cons I8 (Ac.cons Ju (Ac.cons Kv (Ac.cons KW (Ac.cons jW (Ac.cons L4 HdU.none))))))) (by kernel_rfl) (by kernel_rfl)
def zN:Cb:=⟨75,[],(some ([XX,(.sc (.int .i64 (.ofNat 0))),(.sc (.int .i64 (.ofNat 11)))],[XX,(.sc (.int .i64 (.ofNat 3))),(.sc (.int .i64 (.ofNat 11)))])),(.agg [(.sc (.int .i64 (.ofNat 16))),(Af [42]),(Af []),(.sc (.int .i64 (.ofNat 0))),(.sc (.int .i64 (.ofNat 0))),(.sc (.int .i64 (.ofNat 0))),(.sc (.int .i64 (.ofNat 0))),(.sc (.int .i64 (.ofNat 0))),(.sl .full 0 []),pD,(.sc (.int .i64 (.ofNat 0)))])⟩
theorem kC {mx:Int}:Av Tryz.prog (HdU.G mx) zN:=HdU.entry (l:=[e1,Rd,Rz,QN,Ru,Rb,QV,Q1,Ue,Uf]) (m:=1000000) (Ac.cons I3 (Ac.cons EF (Ac.cons EI (Ac.cons EG (Ac.cons EJ (Ac.cons EQ (Ac.cons EV (Ac.cons EL (Ac.cons Gs (Ac.cons Gt HdU.none)))))))))) (by kernel_rfl) (by kernel_rfl)
def lW:Cb:=⟨47,[(.agg [(.sc (.int .i64 (.ofNat 16))),(Af [42]),(Af []),(.sc (.int .i64 (.ofNat 0))),(.sc (.int .i64 (.ofNat 0))),(.sc (.int .i64 (.ofNat 0))),(.sc (.int .i64 (.ofNat 0))),(.sc (.int .i64 (.ofNat 0))),(.sl .full 0 []),pD,(.sc (.int .i64 (.ofNat 0)))])],none,(.A9 [(.agg [(.sc (.int .i64 (.ofNat 16))),(Af [42]),(Af []),(.sc (.int .i64 (.ofNat 0))),(.sc (.int .i64 (.ofNat 0))),(.sc (.int .i64 (.ofNat 0))),(.sc (.int .i64 (.ofNat 0))),(.sc (.int .i64 (.ofNat 0))),(.sl .full 0 []),pD,(.sc (.int .i64 (.ofNat 0)))]),(.sl .full 0 [])])⟩
theorem NE {mx:Int}:Av Tryz.prog (HdU.G mx) lW:=HdU.entry (l:=[]) (m:=1000000) HdU.none (by kernel_rfl) (by kernel_rfl)
def xX:Cb:=⟨48,[VG],none,(.A9 [(.agg [(.sc (.int .i64 (.ofNat 16))),(Af [42]),(Af []),(.sc (.int .i64 (.ofNat 0))),(.sc (.int .i64 (.ofNat 0))),(.sc (.int .i64 (.ofNat 0))),(.sc (.int .i64 (.ofNat 0))),(.sc (.int .i64 (.ofNat 0))),(.sl .full 0 []),pD,(.sc (.int .i64 (.ofNat 0)))]),(.sl .full 0 [])])⟩
theorem lE {mx:Int}:Av Tryz.prog (HdU.G mx) xX:=HdU.entry (l:=[e7,Xx,Y0,aK,aM,iI,zN,lW]) (m:=1000000) (Ac.cons rJ (Ac.cons I8 (Ac.cons Ju (Ac.cons Kv (Ac.cons KW (Ac.cons L4 (Ac.cons kC (Ac.cons NE HdU.none)))))))) (by kernel_rfl) (by kernel_rfl)
def e41:Cb:=⟨75,[],(some ([vN,(.sc (.int .i64 (.ofNat 0))),(.sc (.int .i64 (.ofNat 9)))],[vN,(.sc (.int .i64 (.ofNat 3))),(.sc (.int .i64 (.ofNat 9)))])),(.agg [(.sc (.int .i64 (.ofNat 16))),(Af [43]),(Af []),(.sc (.int .i64 (.ofNat 0))),(.sc (.int .i64 (.ofNat 0))),(.sc (.int .i64 (.ofNat 0))),(.sc (.int .i64 (.ofNat 0))),(.sc (.int .i64 (.ofNat 0))),(.sl .full 0 []),o0,(.sc (.int .i64 (.ofNat 0)))])⟩
theorem lM {mx:Int}:Av Tryz.prog (HdU.G mx) e41:=HdU.entry (l:=[e1,Rd,Rz,QN,Ru,Rb,QV,Q1,Ue,Uf]) (m:=1000000) (Ac.cons I3 (Ac.cons EF (Ac.cons EI (Ac.cons EG (Ac.cons EJ (Ac.cons EQ (Ac.cons EV (Ac.cons EL (Ac.cons Gs (Ac.cons Gt HdU.none)))))))))) (by kernel_rfl) (by kernel_rfl)
def pA:Cb:=⟨47,[(.agg [(.sc (.int .i64 (.ofNat 16))),(Af [43]),(Af []),(.sc (.int .i64 (.ofNat 0))),(.sc (.int .i64 (.ofNat 0))),(.sc (.int .i64 (.ofNat 0))),(.sc (.int .i64 (.ofNat 0))),(.sc (.int .i64 (.ofNat 0))),(.sl .full 0 []),o0,(.sc (.int .i64 (.ofNat 0)))])],none,(.A9 [(.agg [(.sc (.int .i64 (.ofNat 16))),(Af [43]),(Af []),(.sc (.int .i64 (.ofNat 0))),(.sc (.int .i64 (.ofNat 0))),(.sc (.int .i64 (.ofNat 0))),(.sc (.int .i64 (.ofNat 0))),(.sc (.int .i64 (.ofNat 0))),(.sl .full 0 []),o0,(.sc (.int .i64 (.ofNat 0)))]),(.sl .full 0 [])])⟩
theorem PK {mx:Int}:Av Tryz.prog (HdU.G mx) pA:=HdU.entry (l:=[]) (m:=1000000) HdU.none (by kernel_rfl) (by kernel_rfl)
def yE:Cb:=⟨48,[YR],none,(.A9 [(.agg [(.sc (.int .i64 (.ofNat 16))),(Af [43]),(Af []),(.sc (.int .i64 (.ofNat 0))),(.sc (.int .i64 (.ofNat 0))),(.sc (.int .i64 (.ofNat 0))),(.sc (.int .i64 (.ofNat 0))),(.sc (.int .i64 (.ofNat 0))),(.sl .full 0 []),o0,(.sc (.int .i64 (.ofNat 0)))]),(.sl .full 0 [])])⟩
theorem nU {mx:Int}:Av Tryz.prog (HdU.G mx) yE:=HdU.entry (l:=[e8,Xx,Y0,aK,aM,iI,lW,e41,pA]) (m:=1000000) (Ac.cons sE (Ac.cons I8 (Ac.cons Ju (Ac.cons Kv (Ac.cons KW (Ac.cons L4 (Ac.cons NE (Ac.cons lM (Ac.cons PK HdU.none))))))))) (by kernel_rfl) (by kernel_rfl)
def xP:Cb:=⟨75,[],(some ([uY,(.sc (.int .i64 (.ofNat 0))),(.sc (.int .i64 (.ofNat 5)))],[uY,(.sc (.int .i64 (.ofNat 3))),(.sc (.int .i64 (.ofNat 5)))])),(.agg [(.sc (.int .i64 (.ofNat 16))),(Af [43]),(Af []),(.sc (.int .i64 (.ofNat 0))),(.sc (.int .i64 (.ofNat 0))),(.sc (.int .i64 (.ofNat 0))),(.sc (.int .i64 (.ofNat 0))),(.sc (.int .i64 (.ofNat 0))),(.sl .full 0 []),pI,(.sc (.int .i64 (.ofNat 0)))])⟩
theorem mQ {mx:Int}:Av Tryz.prog (HdU.G mx) xP:=HdU.entry (l:=[e1,Rd,Rz,QN,Ru,Rb,QV,Q1,Ue,Uf]) (m:=1000000) (Ac.cons I3 (Ac.cons EF (Ac.cons EI (Ac.cons EG (Ac.cons EJ (Ac.cons EQ (Ac.cons EV (Ac.cons EL (Ac.cons Gs (Ac.cons Gt HdU.none)))))))))) (by kernel_rfl) (by kernel_rfl)
def r6:Cb:=⟨47,[(.agg [(.sc (.int .i64 (.ofNat 16))),(Af [43]),(Af []),(.sc (.int .i64 (.ofNat 0))),(.sc (.int .i64 (.ofNat 0))),(.sc (.int .i64 (.ofNat 0))),(.sc (.int .i64 (.ofNat 0))),(.sc (.int .i64 (.ofNat 0))),(.sl .full 0 []),pI,(.sc (.int .i64 (.ofNat 0)))])],none,(.A9 [(.agg [(.sc (.int .i64 (.ofNat 16))),(Af [43]),(Af []),(.sc (.int .i64 (.ofNat 0))),(.sc (.int .i64 (.ofNat 0))),(.sc (.int .i64 (.ofNat 0))),(.sc (.int .i64 (.ofNat 0))),(.sc (.int .i64 (.ofNat 0))),(.sl .full 0 []),pI,(.sc (.int .i64 (.ofNat 0)))]),(.sl .full 0 [])])⟩
theorem Sk {mx:Int}:Av Tryz.prog (HdU.G mx) r6:=HdU.entry (l:=[]) (m:=1000000) HdU.none (by kernel_rfl) (by kernel_rfl)
def zK:Cb:=⟨48,[(Af [120,32,43,32,49])],none,(.A9 [(.agg [(.sc (.int .i64 (.ofNat 16))),(Af [43]),(Af []),(.sc (.int .i64 (.ofNat 0))),(.sc (.int .i64 (.ofNat 0))),(.sc (.int .i64 (.ofNat 0))),(.sc (.int .i64 (.ofNat 0))),(.sc (.int .i64 (.ofNat 0))),(.sl .full 0 []),pI,(.sc (.int .i64 (.ofNat 0)))]),(.sl .full 0 [])])⟩
theorem oL {mx:Int}:Av Tryz.prog (HdU.G mx) zK:=HdU.entry (l:=[e9,Xx,Y0,aK,aM,iI,lW,pA,xP,r6]) (m:=1000000) (Ac.cons sU (Ac.cons I8 (Ac.cons Ju (Ac.cons Kv (Ac.cons KW (Ac.cons L4 (Ac.cons NE (Ac.cons PK (Ac.cons mQ (Ac.cons Sk HdU.none)))))))))) (by kernel_rfl) (by kernel_rfl)
def e47:Cb:=⟨75,[],(some ([(.sl .lost 2 [(.sc (.int .i64 (.ofNat 1))),(Af [97,114,116]),(.sc (.int .i64 (.ofNat 0))),(.sc (.int .i64 (.ofNat 3))),(Af [50]),(.sc (.int .i64 (.ofNat 4)))]),(.sc (.int .i64 (.ofNat 0))),(.sc (.int .i64 (.ofNat 5)))],[(.sl .lost 2 [(.sc (.int .i64 (.ofNat 1))),(Af [97,114,116]),(.sc (.int .i64 (.ofNat 0))),(.sc (.int .i64 (.ofNat 3))),(Af [50]),(.sc (.int .i64 (.ofNat 4)))]),(.sc (.int .i64 (.ofNat 2))),(.sc (.int .i64 (.ofNat 5)))])),(.agg [(.sc (.int .i64 (.ofNat 13))),(Af []),(Af []),(.sc (.int .i64 (.ofNat 2))),(.sc (.int .i64 (.ofNat 0))),(.sc (.int .i64 (.ofNat 0))),(.sc (.int .i64 (.ofNat 0))),(.sc (.int .i64 (.ofNat 0))),(.sl .full 0 []),(.sl .full 0 []),(.sc (.int .i64 (.ofNat 0)))])⟩
theorem j7 {mx:Int}:Av Tryz.prog (HdU.G mx) e47:=HdU.entry (l:=[e1,Rd,Rz,QN,Ru,Rb,QV,Q1,Ue,Uf]) (m:=1000000) (Ac.cons I3 (Ac.cons EF (Ac.cons EI (Ac.cons EG (Ac.cons EJ (Ac.cons EQ (Ac.cons EV (Ac.cons EL (Ac.cons Gs (Ac.cons Gt HdU.none)))))))))) (by kernel_rfl) (by kernel_rfl)
def uM:Cb:=⟨47,[(.agg [(.sc (.int .i64 (.ofNat 13))),(Af []),(Af []),(.sc (.int .i64 (.ofNat 2))),(.sc (.int .i64 (.ofNat 0))),(.sc (.int .i64 (.ofNat 0))),(.sc (.int .i64 (.ofNat 0))),(.sc (.int .i64 (.ofNat 0))),(.sl .full 0 []),(.sl .full 0 []),(.sc (.int .i64 (.ofNat 0)))])],none,(.A9 [(.agg [(.sc (.int .i64 (.ofNat 13))),(Af []),(Af []),(.sc (.int .i64 (.ofNat 2))),(.sc (.int .i64 (.ofNat 0))),(.sc (.int .i64 (.ofNat 0))),(.sc (.int .i64 (.ofNat 0))),(.sc (.int .i64 (.ofNat 0))),(.sl .full 0 []),(.sl .full 0 []),(.sc (.int .i64 (.ofNat 0)))]),(.sl .full 0 [])])⟩
theorem Ui {mx:Int}:Av Tryz.prog (HdU.G mx) uM:=HdU.entry (l:=[]) (m:=1000000) HdU.none (by kernel_rfl) (by kernel_rfl)
def xM:Cb:=⟨48,[(Af [97,114,116,32,50])],none,(.A9 [(.agg [(.sc (.int .i64 (.ofNat 13))),(Af []),(Af []),(.sc (.int .i64 (.ofNat 2))),(.sc (.int .i64 (.ofNat 0))),(.sc (.int .i64 (.ofNat 0))),(.sc (.int .i64 (.ofNat 0))),(.sc (.int .i64 (.ofNat 0))),(.sl .full 0 []),(.sl .full 0 []),(.sc (.int .i64 (.ofNat 0)))]),(.sl .full 0 [])])⟩
theorem nP {mx:Int}:Av Tryz.prog (HdU.G mx) xM:=HdU.entry (l:=[pC,Xx,Y0,aK,aM,iI,lW,pA,r6,e47,uM]) (m:=1000000) (Ac.cons nC (Ac.cons I8 (Ac.cons Ju (Ac.cons Kv (Ac.cons KW (Ac.cons L4 (Ac.cons NE (Ac.cons PK (Ac.cons Sk (Ac.cons j7 (Ac.cons Ui HdU.none))))))))))) (by kernel_rfl) (by kernel_rfl)
def zJ:Cb:=⟨75,[],(some ([vA,(.sc (.int .i64 (.ofNat 0))),(.sc (.int .i64 (.ofNat 26)))],[vA,(.sc (.int .i64 (.ofNat 12))),(.sc (.int .i64 (.ofNat 26)))])),(.agg [(.sc (.int .i64 (.ofNat 18))),(Af []),(Af []),(.sc (.int .i64 (.ofNat 0))),(.sc (.int .i64 (.ofNat 0))),(.sc (.int .i64 (.ofNat 0))),(.sc (.int .i64 (.ofNat 0))),(.sc (.int .i64 (.ofNat 10))),(.sl .lost 1 [(.sc (.int .i64 (.ofNat 0))),(.sc (.int .i64 (.ofNat 0))),(.sc (.int .i64 (.ofNat 1)))]),pJ,(.sc (.int .i64 (.ofNat 0)))])⟩
theorem lG {mx:Int}:Av Tryz.prog (HdU.G mx) zJ:=HdU.entry (l:=[e1,Rd,Rz,QN,Ru,Rb,QV,Q1,Ue,Uf]) (m:=1000000) (Ac.cons I3 (Ac.cons EF (Ac.cons EI (Ac.cons EG (Ac.cons EJ (Ac.cons EQ (Ac.cons EV (Ac.cons EL (Ac.cons Gs (Ac.cons Gt HdU.none)))))))))) (by kernel_rfl) (by kernel_rfl)
def wU:Cb:=⟨47,[(.agg [(.sc (.int .i64 (.ofNat 18))),(Af []),(Af []),(.sc (.int .i64 (.ofNat 0))),(.sc (.int .i64 (.ofNat 0))),(.sc (.int .i64 (.ofNat 0))),(.sc (.int .i64 (.ofNat 0))),(.sc (.int .i64 (.ofNat 10))),(.sl .lost 1 [(.sc (.int .i64 (.ofNat 0))),(.sc (.int .i64 (.ofNat 0))),(.sc (.int .i64 (.ofNat 1)))]),pJ,(.sc (.int .i64 (.ofNat 0)))])],none,(.A9 [(.agg [(.sc (.int .i64 (.ofNat 18))),(Af []),(Af []),(.sc (.int .i64 (.ofNat 0))),(.sc (.int .i64 (.ofNat 0))),(.sc (.int .i64 (.ofNat 0))),(.sc (.int .i64 (.ofNat 0))),(.sc (.int .i64 (.ofNat 10))),(.sl .lost 1 [(.sc (.int .i64 (.ofNat 0))),(.sc (.int .i64 (.ofNat 0))),(.sc (.int .i64 (.ofNat 1)))]),pJ,(.sc (.int .i64 (.ofNat 0)))]),(.sl .full 0 [])])⟩
theorem Yy {mx:Int}:Av Tryz.prog (HdU.G mx) wU:=HdU.entry (l:=[]) (m:=1000000) HdU.none (by kernel_rfl) (by kernel_rfl)
def yY:Cb:=⟨48,[wG],none,(.A9 [(.agg [(.sc (.int .i64 (.ofNat 18))),(Af []),(Af []),(.sc (.int .i64 (.ofNat 0))),(.sc (.int .i64 (.ofNat 0))),(.sc (.int .i64 (.ofNat 0))),(.sc (.int .i64 (.ofNat 0))),(.sc (.int .i64 (.ofNat 10))),(.sl .lost 1 [(.sc (.int .i64 (.ofNat 0))),(.sc (.int .i64 (.ofNat 0))),(.sc (.int .i64 (.ofNat 1)))]),pJ,(.sc (.int .i64 (.ofNat 0)))]),(.sl .full 0 [])])⟩
theorem kT {mx:Int}:Av Tryz.prog (HdU.G mx) yY:=HdU.entry (l:=[uF,Xx,Y0,aK,aM,iI,lW,pA,r6,uM,zJ,wU]) (m:=1000000) (Ac.cons mK (Ac.cons I8 (Ac.cons Ju (Ac.cons Kv (Ac.cons KW (Ac.cons L4 (Ac.cons NE (Ac.cons PK (Ac.cons Sk (Ac.cons Ui (Ac.cons lG (Ac.cons Yy HdU.none)))))))))))) (by kernel_rfl) (by kernel_rfl)
end Go.Proofs.YtkfplcngmiljaaaGreatDoor
namespace Go.Proofs.YtkfplcngmiljaaaGreatDoor
open AI
set_option maxRecDepth 100000
set_option maxHeartbeats 4000000
def pR:AV:=.sl .lost 2 [(.sc (.int .i64 (.ofNat 12))),(Af [114,97,116,101]),(Af []),(.sc (.int .i64 (.ofNat 0))),(.sc (.int .i64 (.ofNat 0))),(.sc (.int .i64 (.ofNat 0))),(.sc (.int .i64 (.ofNat 0))),(.sc (.int .i64 (.ofNat 0))),(.sl .full 0 []),(.sl .full 0 []),(.sc (.int .i64 (.ofNat 6))),(.sc (.int .i64 (.ofNat 11))),(Af []),(Af [69,85,82]),(.sc (.int .i64 (.ofNat 100))),(.sc (.int .i64 (.ofNat 0))),(.sc (.int .i64 (.ofNat 0))),(.sc (.int .i64 (.ofNat 0))),(.sc (.int .i64 (.ofNat 0))),(.sl .full 0 []),(.sl .full 0 []),(.sc (.int .i64 (.ofNat 12)))]
def wD:AV:=.sl .full 1 [(.sc (.int .i64 (.ofNat 11))),(Af []),(Af [69,85,82]),(.sc (.int .i64 (.ofNat 100))),(.sc (.int .i64 (.ofNat 0))),(.sc (.int .i64 (.ofNat 0))),(.sc (.int .i64 (.ofNat 0))),(.sc (.int .i64 (.ofNat 0))),(.sl .full 0 []),(.sl .full 0 []),(.sc (.int .i64 (.ofNat 153)))]
def pE:AV:=.sl .lost 2 [(.sc (.int .i64 (.ofNat 5))),(Af []),(Af []),(.sc (.int .i64 (.ofNat 1))),(.sc (.int .i64 (.ofNat 8766))),(.sc (.int .i64 (.ofNat 36525))),(.sc (.int .i64 (.ofNat 8766))),(.sc (.int .i64 (.ofNat 0))),(.sl .full 0 []),(.sl .full 0 []),(.sc (.int .i64 (.ofNat 104))),(.sc (.int .i64 (.ofNat 8))),(Af []),(Af []),(.sc (.int .i64 (.ofNat 0))),(.sc (.int .i64 (.ofNat 0))),(.sc (.int .i64 (.ofNat 0))),(.sc (.int .i64 (.ofNat 0))),(.sc (.int .i64 (.ofNat 0))),(.sl .full 0 []),wD,(.sc (.int .i64 (.ofNat 146)))]
def Ol:AV:=.sl .lost 5 [(.sc (.int .i64 (.ofNat 2))),(Af [104,111,117,114,115]),k1,(.sc (.int .i64 (.ofNat 0))),(.sc (.int .i64 (.ofNat 0))),(.sc (.int .i64 (.ofNat 0))),(.sc (.int .i64 (.ofNat 0))),(.sc (.int .i64 (.ofNat 0))),(.sl .full 0 []),(.sl .full 0 []),(.sc (.int .i64 (.ofNat 0))),(.sc (.int .i64 (.ofNat 2))),(Af [114,97,116,101]),(Af [69,85,82]),(.sc (.int .i64 (.ofNat 0))),(.sc (.int .i64 (.ofNat 0))),(.sc (.int .i64 (.ofNat 0))),(.sc (.int .i64 (.ofNat 0))),(.sc (.int .i64 (.ofNat 0))),(.sl .full 0 []),(.sl .full 0 []),(.sc (.int .i64 (.ofNat 22))),(.sc (.int .i64 (.ofNat 2))),k2,(Af [116,114,117,116,104]),(.sc (.int .i64 (.ofNat 0))),(.sc (.int .i64 (.ofNat 0))),(.sc (.int .i64 (.ofNat 0))),(.sc (.int .i64 (.ofNat 0))),(.sc (.int .i64 (.ofNat 0))),(.sl .full 0 []),(.sl .full 0 []),(.sc (.int .i64 (.ofNat 39))),(.sc (.int .i64 (.ofNat 3))),(Af [98,97,115,105,99]),(Af [69,85,82]),(.sc (.int .i64 (.ofNat 1))),(.sc (.int .i64 (.ofNat 0))),(.sc (.int .i64 (.ofNat 0))),(.sc (.int .i64 (.ofNat 0))),(.sc (.int .i64 (.ofNat 0))),(.sl .full 0 []),(.sl .full 0 []),(.sc (.int .i64 (.ofNat 61))),(.sc (.int .i64 (.ofNat 4))),(Af [98,97,115,105,99]),(Af []),(.sc (.int .i64 (.ofNat 1))),(.sc (.int .i64 (.ofNat 0))),(.sc (.int .i64 (.ofNat 0))),(.sc (.int .i64 (.ofNat 0))),(.sc (.int .i64 (.ofNat 0))),(.sl .full 0 []),pE,(.sc (.int .i64 (.ofNat 84)))]
def e53:Cb:=⟨75,[],(some ([wF,(.sc (.int .i64 (.ofNat 0))),(.sc (.int .i64 (.ofNat 21)))],[wF,(.sc (.int .i64 (.ofNat 7))),(.sc (.int .i64 (.ofNat 21)))])),(.agg [(.sc (.int .i64 (.ofNat 17))),(Af [108,101,97,115,116]),(Af []),(.sc (.int .i64 (.ofNat 0))),(.sc (.int .i64 (.ofNat 0))),(.sc (.int .i64 (.ofNat 0))),(.sc (.int .i64 (.ofNat 0))),(.sc (.int .i64 (.ofNat 0))),(.sl .full 0 []),pR,(.sc (.int .i64 (.ofNat 0)))])⟩
theorem kG {mx:Int}:Av Tryz.prog (HdU.G mx) e53:=HdU.entry (l:=[e1,Rd,Rz,QN,Ru,Rb,QV,Q1,Ue,Uf]) (m:=1000000) (Ac.cons I3 (Ac.cons EF (Ac.cons EI (Ac.cons EG (Ac.cons EJ (Ac.cons EQ (Ac.cons EV (Ac.cons EL (Ac.cons Gs (Ac.cons Gt HdU.none)))))))))) (by kernel_rfl) (by kernel_rfl)
def zH:Cb:=⟨47,[(.agg [(.sc (.int .i64 (.ofNat 17))),(Af [108,101,97,115,116]),(Af []),(.sc (.int .i64 (.ofNat 0))),(.sc (.int .i64 (.ofNat 0))),(.sc (.int .i64 (.ofNat 0))),(.sc (.int .i64 (.ofNat 0))),(.sc (.int .i64 (.ofNat 0))),(.sl .full 0 []),pR,(.sc (.int .i64 (.ofNat 0)))])],none,(.A9 [(.agg [(.sc (.int .i64 (.ofNat 17))),(Af [108,101,97,115,116]),(Af []),(.sc (.int .i64 (.ofNat 0))),(.sc (.int .i64 (.ofNat 0))),(.sc (.int .i64 (.ofNat 0))),(.sc (.int .i64 (.ofNat 0))),(.sc (.int .i64 (.ofNat 0))),(.sl .full 0 []),pR,(.sc (.int .i64 (.ofNat 0)))]),(.sl .full 0 [])])⟩
theorem j8 {mx:Int}:Av Tryz.prog (HdU.G mx) zH:=HdU.entry (l:=[]) (m:=1000000) HdU.none (by kernel_rfl) (by kernel_rfl)
def xQ:Cb:=⟨48,[wY],none,(.A9 [(.agg [(.sc (.int .i64 (.ofNat 17))),(Af [108,101,97,115,116]),(Af []),(.sc (.int .i64 (.ofNat 0))),(.sc (.int .i64 (.ofNat 0))),(.sc (.int .i64 (.ofNat 0))),(.sc (.int .i64 (.ofNat 0))),(.sc (.int .i64 (.ofNat 0))),(.sl .full 0 []),pR,(.sc (.int .i64 (.ofNat 0)))]),(.sl .full 0 [])])⟩
theorem mO {mx:Int}:Av Tryz.prog (HdU.G mx) xQ:=HdU.entry (l:=[yM,Xx,Y0,aK,aM,iI,lW,pA,r6,uM,wU,e53,zH]) (m:=1000000) (Ac.cons jO (Ac.cons I8 (Ac.cons Ju (Ac.cons Kv (Ac.cons KW (Ac.cons L4 (Ac.cons NE (Ac.cons PK (Ac.cons Sk (Ac.cons Ui (Ac.cons Yy (Ac.cons kG (Ac.cons j8 HdU.none))))))))))))) (by kernel_rfl) (by kernel_rfl)
def pH:Cb:=⟨70,[],(some ([k5,(.sc (.int .i64 (.ofNat 0))),(.sc (.int .i64 (.ofNat 164)))],[k5,(.sc (.int .i64 (.ofNat 5))),(.sc (.int .i64 (.ofNat 164)))])),(.agg [(.sc (.int .i64 (.ofNat 2))),(Af [104,111,117,114,115]),k1,(.sc (.int .i64 (.ofNat 0))),(.sc (.int .i64 (.ofNat 0))),(.sc (.int .i64 (.ofNat 0))),(.sc (.int .i64 (.ofNat 0))),(.sc (.int .i64 (.ofNat 0))),(.sl .full 0 []),(.sl .full 0 []),(.sc (.int .i64 (.ofNat 0)))])⟩
theorem PM {mx:Int}:Av Tryz.prog (HdU.G mx) pH:=HdU.entry (l:=[]) (m:=1000000) HdU.none (by kernel_rfl) (by kernel_rfl)
def z8:Cb:=⟨45,[],(some ([k5,(.sc (.int .i64 (.ofNat 0))),(.sc (.int .i64 (.ofNat 164)))],[k5,(.sc (.int .i64 (.ofNat 5))),(.sc (.int .i64 (.ofNat 164)))])),(.agg [(.sc (.int .i64 (.ofNat 2))),(Af [104,111,117,114,115]),k1,(.sc (.int .i64 (.ofNat 0))),(.sc (.int .i64 (.ofNat 0))),(.sc (.int .i64 (.ofNat 0))),(.sc (.int .i64 (.ofNat 0))),(.sc (.int .i64 (.ofNat 0))),(.sl .full 0 []),(.sl .full 0 []),(.sc (.int .i64 (.ofNat 0)))])⟩
theorem nV {mx:Int}:Av Tryz.prog (HdU.G mx) z8:=HdU.entry (l:=[pH]) (m:=1000000) (Ac.cons PM HdU.none) (by kernel_rfl) (by kernel_rfl)
def sY:Cb:=⟨70,[],(some ([k5,(.sc (.int .i64 (.ofNat 5))),(.sc (.int .i64 (.ofNat 164)))],[k5,(.sc (.int .i64 (.ofNat 10))),(.sc (.int .i64 (.ofNat 164)))])),(.agg [(.sc (.int .i64 (.ofNat 2))),(Af [114,97,116,101]),(Af [69,85,82]),(.sc (.int .i64 (.ofNat 0))),(.sc (.int .i64 (.ofNat 0))),(.sc (.int .i64 (.ofNat 0))),(.sc (.int .i64 (.ofNat 0))),(.sc (.int .i64 (.ofNat 0))),(.sl .full 0 []),(.sl .full 0 []),(.sc (.int .i64 (.ofNat 22)))])⟩
theorem Sx {mx:Int}:Av Tryz.prog (HdU.G mx) sY:=HdU.entry (l:=[]) (m:=1000000) HdU.none (by kernel_rfl) (by kernel_rfl)
def e59:Cb:=⟨45,[],(some ([k5,(.sc (.int .i64 (.ofNat 5))),(.sc (.int .i64 (.ofNat 164)))],[k5,(.sc (.int .i64 (.ofNat 10))),(.sc (.int .i64 (.ofNat 164)))])),(.agg [(.sc (.int .i64 (.ofNat 2))),(Af [114,97,116,101]),(Af [69,85,82]),(.sc (.int .i64 (.ofNat 0))),(.sc (.int .i64 (.ofNat 0))),(.sc (.int .i64 (.ofNat 0))),(.sc (.int .i64 (.ofNat 0))),(.sc (.int .i64 (.ofNat 0))),(.sl .full 0 []),(.sl .full 0 []),(.sc (.int .i64 (.ofNat 22)))])⟩
theorem oZ {mx:Int}:Av Tryz.prog (HdU.G mx) e59:=HdU.entry (l:=[pH,sY]) (m:=1000000) (Ac.cons PM (Ac.cons Sx HdU.none)) (by kernel_rfl) (by kernel_rfl)
def uO:Cb:=⟨70,[],(some ([k5,(.sc (.int .i64 (.ofNat 10))),(.sc (.int .i64 (.ofNat 164)))],[k5,(.sc (.int .i64 (.ofNat 15))),(.sc (.int .i64 (.ofNat 164)))])),(.agg [(.sc (.int .i64 (.ofNat 2))),k2,(Af [116,114,117,116,104]),(.sc (.int .i64 (.ofNat 0))),(.sc (.int .i64 (.ofNat 0))),(.sc (.int .i64 (.ofNat 0))),(.sc (.int .i64 (.ofNat 0))),(.sc (.int .i64 (.ofNat 0))),(.sl .full 0 []),(.sl .full 0 []),(.sc (.int .i64 (.ofNat 39)))])⟩
theorem Uy {mx:Int}:Av Tryz.prog (HdU.G mx) uO:=HdU.entry (l:=[]) (m:=1000000) HdU.none (by kernel_rfl) (by kernel_rfl)
def e61:Cb:=⟨45,[],(some ([k5,(.sc (.int .i64 (.ofNat 10))),(.sc (.int .i64 (.ofNat 164)))],[k5,(.sc (.int .i64 (.ofNat 15))),(.sc (.int .i64 (.ofNat 164)))])),(.agg [(.sc (.int .i64 (.ofNat 2))),k2,(Af [116,114,117,116,104]),(.sc (.int .i64 (.ofNat 0))),(.sc (.int .i64 (.ofNat 0))),(.sc (.int .i64 (.ofNat 0))),(.sc (.int .i64 (.ofNat 0))),(.sc (.int .i64 (.ofNat 0))),(.sl .full 0 []),(.sl .full 0 []),(.sc (.int .i64 (.ofNat 39)))])⟩
theorem n3 {mx:Int}:Av Tryz.prog (HdU.G mx) e61:=HdU.entry (l:=[pH,sY,uO]) (m:=1000000) (Ac.cons PM (Ac.cons Sx (Ac.cons Uy HdU.none))) (by kernel_rfl) (by kernel_rfl)
def uV:Cb:=⟨70,[],(some ([k5,(.sc (.int .i64 (.ofNat 15))),(.sc (.int .i64 (.ofNat 164)))],[k5,(.sc (.int .i64 (.ofNat 21))),(.sc (.int .i64 (.ofNat 164)))])),(.agg [(.sc (.int .i64 (.ofNat 3))),(Af [98,97,115,105,99]),(Af [69,85,82]),(.sc (.int .i64 (.ofNat 1))),(.sc (.int .i64 (.ofNat 0))),(.sc (.int .i64 (.ofNat 0))),(.sc (.int .i64 (.ofNat 0))),(.sc (.int .i64 (.ofNat 0))),(.sl .full 0 []),(.sl .full 0 []),(.sc (.int .i64 (.ofNat 61)))])⟩
theorem Yw {mx:Int}:Av Tryz.prog (HdU.G mx) uV:=HdU.entry (l:=[]) (m:=1000000) HdU.none (by kernel_rfl) (by kernel_rfl)
def yS:Cb:=⟨45,[],(some ([k5,(.sc (.int .i64 (.ofNat 15))),(.sc (.int .i64 (.ofNat 164)))],[k5,(.sc (.int .i64 (.ofNat 21))),(.sc (.int .i64 (.ofNat 164)))])),(.agg [(.sc (.int .i64 (.ofNat 3))),(Af [98,97,115,105,99]),(Af [69,85,82]),(.sc (.int .i64 (.ofNat 1))),(.sc (.int .i64 (.ofNat 0))),(.sc (.int .i64 (.ofNat 0))),(.sc (.int .i64 (.ofNat 0))),(.sc (.int .i64 (.ofNat 0))),(.sl .full 0 []),(.sl .full 0 []),(.sc (.int .i64 (.ofNat 61)))])⟩
theorem lR {mx:Int}:Av Tryz.prog (HdU.G mx) yS:=HdU.entry (l:=[pH,sY,uO,uV]) (m:=1000000) (Ac.cons PM (Ac.cons Sx (Ac.cons Uy (Ac.cons Yw HdU.none)))) (by kernel_rfl) (by kernel_rfl)
def s7:Cb:=⟨139,[k4],none,(.A9 [(.sc (.int .i64 (.ofNat 8766))),(.sc (.int .i64 (.ofNat 0)))])⟩
theorem SJ {mx:Int}:Av Tryz.prog (HdU.G mx) s7:=HdU.entry (l:=[]) (m:=1000000) HdU.none (by kernel_rfl) (by kernel_rfl)
def yW:Cb:=⟨128,[(.sc (.int .i64 (.ofNat 0)))],(some ([k5,(.sc (.int .i64 (.ofNat 28))),(.sc (.int .i64 (.ofNat 164)))],[k5,(.sc (.int .i64 (.ofNat 29))),(.sc (.int .i64 (.ofNat 164)))])),(.sc (.int .i64 (.ofNat 8766)))⟩
theorem oF {mx:Int}:Av Tryz.prog (HdU.G mx) yW:=HdU.entry (l:=[s7]) (m:=1000000) (Ac.cons SJ HdU.none) (by kernel_rfl) (by kernel_rfl)
def yD:Cb:=⟨128,[(.sc (.int .i64 (.ofNat 0)))],(some ([k5,(.sc (.int .i64 (.ofNat 30))),(.sc (.int .i64 (.ofNat 164)))],[k5,(.sc (.int .i64 (.ofNat 31))),(.sc (.int .i64 (.ofNat 164)))])),(.sc (.int .i64 (.ofNat 8766)))⟩
theorem lQ {mx:Int}:Av Tryz.prog (HdU.G mx) yD:=HdU.entry (l:=[s7]) (m:=1000000) (Ac.cons SJ HdU.none) (by kernel_rfl) (by kernel_rfl)
def zG:Cb:=⟨110,[],(some ([k5,(.sc (.int .i64 (.ofNat 25))),(.sc (.int .i64 (.ofNat 164)))],[k5,(.sc (.int .i64 (.ofNat 31))),(.sc (.int .i64 (.ofNat 164)))])),(.agg [(.sc (.int .i64 (.ofNat 5))),(Af []),(Af []),(.sc (.int .i64 (.ofNat 1))),(.sc (.int .i64 (.ofNat 8766))),(.sc (.int .i64 (.ofNat 36525))),(.sc (.int .i64 (.ofNat 8766))),(.sc (.int .i64 (.ofNat 0))),(.sl .full 0 []),(.sl .full 0 []),(.sc (.int .i64 (.ofNat 104)))])⟩
theorem j6 {mx:Int}:Av Tryz.prog (HdU.G mx) zG:=HdU.entry (l:=[Rd,Rz,QN,Ru,Rb,QV,Q1,yW,yD]) (m:=1000000) (Ac.cons EF (Ac.cons EI (Ac.cons EG (Ac.cons EJ (Ac.cons EQ (Ac.cons EV (Ac.cons EL (Ac.cons oF (Ac.cons lQ HdU.none))))))))) (by kernel_rfl) (by kernel_rfl)
def e68:Cb:=⟨75,[],(some ([k5,(.sc (.int .i64 (.ofNat 33))),(.sc (.int .i64 (.ofNat 164)))],[k5,(.sc (.int .i64 (.ofNat 35))),(.sc (.int .i64 (.ofNat 164)))])),(.agg [(.sc (.int .i64 (.ofNat 11))),(Af []),(Af [69,85,82]),(.sc (.int .i64 (.ofNat 100))),(.sc (.int .i64 (.ofNat 0))),(.sc (.int .i64 (.ofNat 0))),(.sc (.int .i64 (.ofNat 0))),(.sc (.int .i64 (.ofNat 0))),(.sl .full 0 []),(.sl .full 0 []),(.sc (.int .i64 (.ofNat 153)))])⟩
theorem mI {mx:Int}:Av Tryz.prog (HdU.G mx) e68:=HdU.entry (l:=[e1,Rd,Rz,QN,Ru,Rb,QV,Q1,Ue,Uf]) (m:=1000000) (Ac.cons I3 (Ac.cons EF (Ac.cons EI (Ac.cons EG (Ac.cons EJ (Ac.cons EQ (Ac.cons EV (Ac.cons EL (Ac.cons Gs (Ac.cons Gt HdU.none)))))))))) (by kernel_rfl) (by kernel_rfl)
def zA:Cb:=⟨111,[(.sc (.int .i64 (.ofNat 8)))],(some ([k5,(.sc (.int .i64 (.ofNat 32))),(.sc (.int .i64 (.ofNat 164)))],[k5,(.sc (.int .i64 (.ofNat 36))),(.sc (.int .i64 (.ofNat 164)))])),(.agg [(.sc (.int .i64 (.ofNat 8))),(Af []),(Af []),(.sc (.int .i64 (.ofNat 0))),(.sc (.int .i64 (.ofNat 0))),(.sc (.int .i64 (.ofNat 0))),(.sc (.int .i64 (.ofNat 0))),(.sc (.int .i64 (.ofNat 0))),(.sl .full 0 []),wD,(.sc (.int .i64 (.ofNat 146)))])⟩
theorem kS {mx:Int}:Av Tryz.prog (HdU.G mx) zA:=HdU.entry (l:=[e1,Rd,Rz,QN,Ru,Rb,QV,Q1,Ue,Uf,e68]) (m:=1000000) (Ac.cons I3 (Ac.cons EF (Ac.cons EI (Ac.cons EG (Ac.cons EJ (Ac.cons EQ (Ac.cons EV (Ac.cons EL (Ac.cons Gs (Ac.cons Gt (Ac.cons mI HdU.none))))))))))) (by kernel_rfl) (by kernel_rfl)
def xZ:Cb:=⟨71,[],(some ([k5,(.sc (.int .i64 (.ofNat 21))),(.sc (.int .i64 (.ofNat 164)))],[k5,(.sc (.int .i64 (.ofNat 37))),(.sc (.int .i64 (.ofNat 164)))])),(.agg [(.sc (.int .i64 (.ofNat 4))),(Af [98,97,115,105,99]),(Af []),(.sc (.int .i64 (.ofNat 1))),(.sc (.int .i64 (.ofNat 0))),(.sc (.int .i64 (.ofNat 0))),(.sc (.int .i64 (.ofNat 0))),(.sc (.int .i64 (.ofNat 0))),(.sl .full 0 []),pE,(.sc (.int .i64 (.ofNat 84)))])⟩
theorem oS {mx:Int}:Av Tryz.prog (HdU.G mx) xZ:=HdU.entry (l:=[Rd,Rz,QN,Ru,Rb,QV,Q1,zG,zA]) (m:=1000000) (Ac.cons EF (Ac.cons EI (Ac.cons EG (Ac.cons EJ (Ac.cons EQ (Ac.cons EV (Ac.cons EL (Ac.cons j6 (Ac.cons kS HdU.none))))))))) (by kernel_rfl) (by kernel_rfl)
def yV:Cb:=⟨45,[],(some ([k5,(.sc (.int .i64 (.ofNat 21))),(.sc (.int .i64 (.ofNat 164)))],[k5,(.sc (.int .i64 (.ofNat 37))),(.sc (.int .i64 (.ofNat 164)))])),(.agg [(.sc (.int .i64 (.ofNat 4))),(Af [98,97,115,105,99]),(Af []),(.sc (.int .i64 (.ofNat 1))),(.sc (.int .i64 (.ofNat 0))),(.sc (.int .i64 (.ofNat 0))),(.sc (.int .i64 (.ofNat 0))),(.sc (.int .i64 (.ofNat 0))),(.sl .full 0 []),pE,(.sc (.int .i64 (.ofNat 84)))])⟩
theorem oW {mx:Int}:Av Tryz.prog (HdU.G mx) yV:=HdU.entry (l:=[pH,sY,uO,uV,xZ]) (m:=1000000) (Ac.cons PM (Ac.cons Sx (Ac.cons Uy (Ac.cons Yw (Ac.cons oS HdU.none))))) (by kernel_rfl) (by kernel_rfl)
def zX:Cb:=⟨27,[k0],none,(.A9 [(.agg [(.sc (.int .i64 (.ofNat 1))),(Af []),(Af []),(.sc (.int .i64 (.ofNat 0))),(.sc (.int .i64 (.ofNat 0))),(.sc (.int .i64 (.ofNat 0))),(.sc (.int .i64 (.ofNat 0))),(.sc (.int .i64 (.ofNat 0))),(.sl .full 0 []),Ol,(.sc (.int .i64 (.ofNat 0)))]),(.sl .full 0 [])])⟩
theorem mT {mx:Int}:Av Tryz.prog (HdU.G mx) zX:=HdU.entry (l:=[e0,z8,e59,e61,yS,yV]) (m:=1000000) (Ac.cons sR (Ac.cons nV (Ac.cons oZ (Ac.cons n3 (Ac.cons lR (Ac.cons oW HdU.none)))))) (by kernel_rfl) (by kernel_rfl)
def oH:Cb:=⟨70,[],(some ([K0,(.sc (.int .i64 (.ofNat 0))),(.sc (.int .i64 (.ofNat 190)))],[K0,(.sc (.int .i64 (.ofNat 5))),(.sc (.int .i64 (.ofNat 190)))])),(.agg [(.sc (.int .i64 (.ofNat 2))),(Af [104,111,117,114,115]),k1,(.sc (.int .i64 (.ofNat 0))),(.sc (.int .i64 (.ofNat 0))),(.sc (.int .i64 (.ofNat 0))),(.sc (.int .i64 (.ofNat 0))),(.sc (.int .i64 (.ofNat 0))),(.sl .full 0 []),(.sl .full 0 []),(.sc (.int .i64 (.ofNat 0)))])⟩
theorem NI {mx:Int}:Av Tryz.prog (HdU.G mx) oH:=HdU.entry (l:=[]) (m:=1000000) HdU.none (by kernel_rfl) (by kernel_rfl)
def xR:Cb:=⟨45,[],(some ([K0,(.sc (.int .i64 (.ofNat 0))),(.sc (.int .i64 (.ofNat 190)))],[K0,(.sc (.int .i64 (.ofNat 5))),(.sc (.int .i64 (.ofNat 190)))])),(.agg [(.sc (.int .i64 (.ofNat 2))),(Af [104,111,117,114,115]),k1,(.sc (.int .i64 (.ofNat 0))),(.sc (.int .i64 (.ofNat 0))),(.sc (.int .i64 (.ofNat 0))),(.sc (.int .i64 (.ofNat 0))),(.sc (.int .i64 (.ofNat 0))),(.sl .full 0 []),(.sl .full 0 []),(.sc (.int .i64 (.ofNat 0)))])⟩
theorem nY {mx:Int}:Av Tryz.prog (HdU.G mx) xR:=HdU.entry (l:=[oH]) (m:=1000000) (Ac.cons NI HdU.none) (by kernel_rfl) (by kernel_rfl)
def pL:Cb:=⟨70,[],(some ([K0,(.sc (.int .i64 (.ofNat 5))),(.sc (.int .i64 (.ofNat 190)))],[K0,(.sc (.int .i64 (.ofNat 10))),(.sc (.int .i64 (.ofNat 190)))])),(.agg [(.sc (.int .i64 (.ofNat 2))),(Af [114,97,116,101]),(Af [69,85,82]),(.sc (.int .i64 (.ofNat 0))),(.sc (.int .i64 (.ofNat 0))),(.sc (.int .i64 (.ofNat 0))),(.sc (.int .i64 (.ofNat 0))),(.sc (.int .i64 (.ofNat 0))),(.sl .full 0 []),(.sl .full 0 []),(.sc (.int .i64 (.ofNat 22)))])⟩
theorem PH {mx:Int}:Av Tryz.prog (HdU.G mx) pL:=HdU.entry (l:=[]) (m:=1000000) HdU.none (by kernel_rfl) (by kernel_rfl)
def yU:Cb:=⟨45,[],(some ([K0,(.sc (.int .i64 (.ofNat 5))),(.sc (.int .i64 (.ofNat 190)))],[K0,(.sc (.int .i64 (.ofNat 10))),(.sc (.int .i64 (.ofNat 190)))])),(.agg [(.sc (.int .i64 (.ofNat 2))),(Af [114,97,116,101]),(Af [69,85,82]),(.sc (.int .i64 (.ofNat 0))),(.sc (.int .i64 (.ofNat 0))),(.sc (.int .i64 (.ofNat 0))),(.sc (.int .i64 (.ofNat 0))),(.sc (.int .i64 (.ofNat 0))),(.sl .full 0 []),(.sl .full 0 []),(.sc (.int .i64 (.ofNat 22)))])⟩
theorem mV {mx:Int}:Av Tryz.prog (HdU.G mx) yU:=HdU.entry (l:=[oH,pL]) (m:=1000000) (Ac.cons NI (Ac.cons PH HdU.none)) (by kernel_rfl) (by kernel_rfl)
def qD:Cb:=⟨70,[],(some ([K0,(.sc (.int .i64 (.ofNat 10))),(.sc (.int .i64 (.ofNat 190)))],[K0,(.sc (.int .i64 (.ofNat 15))),(.sc (.int .i64 (.ofNat 190)))])),(.agg [(.sc (.int .i64 (.ofNat 2))),k2,(Af [116,114,117,116,104]),(.sc (.int .i64 (.ofNat 0))),(.sc (.int .i64 (.ofNat 0))),(.sc (.int .i64 (.ofNat 0))),(.sc (.int .i64 (.ofNat 0))),(.sc (.int .i64 (.ofNat 0))),(.sl .full 0 []),(.sl .full 0 []),(.sc (.int .i64 (.ofNat 39)))])⟩
theorem RL {mx:Int}:Av Tryz.prog (HdU.G mx) qD:=HdU.entry (l:=[]) (m:=1000000) HdU.none (by kernel_rfl) (by kernel_rfl)
end Go.Proofs.YtkfplcngmiljaaaGreatDoor
namespace Go.Proofs.YtkfplcngmiljaaaGreatDoor
open AI
set_option maxRecDepth 100000
set_option maxHeartbeats 4000000
def vK:AV:=.sl .lost 6 [(.sc (.int .i64 (.ofNat 2))),(Af [104,111,117,114,115]),k1,(.sc (.int .i64 (.ofNat 0))),(.sc (.int .i64 (.ofNat 0))),(.sc (.int .i64 (.ofNat 0))),(.sc (.int .i64 (.ofNat 0))),(.sc (.int .i64 (.ofNat 0))),(.sl .full 0 []),(.sl .full 0 []),(.sc (.int .i64 (.ofNat 0))),(.sc (.int .i64 (.ofNat 2))),(Af [114,97,116,101]),(Af [69,85,82]),(.sc (.int .i64 (.ofNat 0))),(.sc (.int .i64 (.ofNat 0))),(.sc (.int .i64 (.ofNat 0))),(.sc (.int .i64 (.ofNat 0))),(.sc (.int .i64 (.ofNat 0))),(.sl .full 0 []),(.sl .full 0 []),(.sc (.int .i64 (.ofNat 22))),(.sc (.int .i64 (.ofNat 2))),k2,(Af [116,114,117,116,104]),(.sc (.int .i64 (.ofNat 0))),(.sc (.int .i64 (.ofNat 0))),(.sc (.int .i64 (.ofNat 0))),(.sc (.int .i64 (.ofNat 0))),(.sc (.int .i64 (.ofNat 0))),(.sl .full 0 []),(.sl .full 0 []),(.sc (.int .i64 (.ofNat 39))),(.sc (.int .i64 (.ofNat 3))),(Af [98,97,115,105,99]),(Af [69,85,82]),(.sc (.int .i64 (.ofNat 1))),(.sc (.int .i64 (.ofNat 0))),(.sc (.int .i64 (.ofNat 0))),(.sc (.int .i64 (.ofNat 0))),(.sc (.int .i64 (.ofNat 0))),(.sl .full 0 []),(.sl .full 0 []),(.sc (.int .i64 (.ofNat 61))),(.sc (.int .i64 (.ofNat 4))),(Af [98,97,115,105,99]),(Af []),(.sc (.int .i64 (.ofNat 1))),(.sc (.int .i64 (.ofNat 0))),(.sc (.int .i64 (.ofNat 0))),(.sc (.int .i64 (.ofNat 0))),(.sc (.int .i64 (.ofNat 0))),(.sl .full 0 []),pE,(.sc (.int .i64 (.ofNat 84))),(.sc (.int .i64 (.ofNat 3))),(Af [98,97,115,105,99]),(Af [110,117,109,98,101,114]),(.sc (.int .i64 (.ofNat 4))),(.sc (.int .i64 (.ofNat 0))),(.sc (.int .i64 (.ofNat 0))),(.sc (.int .i64 (.ofNat 0))),(.sc (.int .i64 (.ofNat 0))),(.sl .full 0 []),(.sl .full 0 []),(.sc (.int .i64 (.ofNat 165)))]
def e78:Cb:=⟨45,[],(some ([K0,(.sc (.int .i64 (.ofNat 10))),(.sc (.int .i64 (.ofNat 190)))],[K0,(.sc (.int .i64 (.ofNat 15))),(.sc (.int .i64 (.ofNat 190)))])),(.agg [(.sc (.int .i64 (.ofNat 2))),k2,(Af [116,114,117,116,104]),(.sc (.int .i64 (.ofNat 0))),(.sc (.int .i64 (.ofNat 0))),(.sc (.int .i64 (.ofNat 0))),(.sc (.int .i64 (.ofNat 0))),(.sc (.int .i64 (.ofNat 0))),(.sl .full 0 []),(.sl .full 0 []),(.sc (.int .i64 (.ofNat 39)))])⟩
theorem n7 {mx:Int}:Av Tryz.prog (HdU.G mx) e78:=HdU.entry (l:=[oH,pL,qD]) (m:=1000000) (Ac.cons NI (Ac.cons PH (Ac.cons RL HdU.none))) (by kernel_rfl) (by kernel_rfl)
def uI:Cb:=⟨70,[],(some ([K0,(.sc (.int .i64 (.ofNat 15))),(.sc (.int .i64 (.ofNat 190)))],[K0,(.sc (.int .i64 (.ofNat 21))),(.sc (.int .i64 (.ofNat 190)))])),(.agg [(.sc (.int .i64 (.ofNat 3))),(Af [98,97,115,105,99]),(Af [69,85,82]),(.sc (.int .i64 (.ofNat 1))),(.sc (.int .i64 (.ofNat 0))),(.sc (.int .i64 (.ofNat 0))),(.sc (.int .i64 (.ofNat 0))),(.sc (.int .i64 (.ofNat 0))),(.sl .full 0 []),(.sl .full 0 []),(.sc (.int .i64 (.ofNat 61)))])⟩
theorem U1 {mx:Int}:Av Tryz.prog (HdU.G mx) uI:=HdU.entry (l:=[]) (m:=1000000) HdU.none (by kernel_rfl) (by kernel_rfl)
def yJ:Cb:=⟨45,[],(some ([K0,(.sc (.int .i64 (.ofNat 15))),(.sc (.int .i64 (.ofNat 190)))],[K0,(.sc (.int .i64 (.ofNat 21))),(.sc (.int .i64 (.ofNat 190)))])),(.agg [(.sc (.int .i64 (.ofNat 3))),(Af [98,97,115,105,99]),(Af [69,85,82]),(.sc (.int .i64 (.ofNat 1))),(.sc (.int .i64 (.ofNat 0))),(.sc (.int .i64 (.ofNat 0))),(.sc (.int .i64 (.ofNat 0))),(.sc (.int .i64 (.ofNat 0))),(.sl .full 0 []),(.sl .full 0 []),(.sc (.int .i64 (.ofNat 61)))])⟩
theorem jU {mx:Int}:Av Tryz.prog (HdU.G mx) yJ:=HdU.entry (l:=[oH,pL,qD,uI]) (m:=1000000) (Ac.cons NI (Ac.cons PH (Ac.cons RL (Ac.cons U1 HdU.none)))) (by kernel_rfl) (by kernel_rfl)
def zM:Cb:=⟨128,[(.sc (.int .i64 (.ofNat 0)))],(some ([K0,(.sc (.int .i64 (.ofNat 28))),(.sc (.int .i64 (.ofNat 190)))],[K0,(.sc (.int .i64 (.ofNat 29))),(.sc (.int .i64 (.ofNat 190)))])),(.sc (.int .i64 (.ofNat 8766)))⟩
theorem jS {mx:Int}:Av Tryz.prog (HdU.G mx) zM:=HdU.entry (l:=[s7]) (m:=1000000) (Ac.cons SJ HdU.none) (by kernel_rfl) (by kernel_rfl)
def zL:Cb:=⟨128,[(.sc (.int .i64 (.ofNat 0)))],(some ([K0,(.sc (.int .i64 (.ofNat 30))),(.sc (.int .i64 (.ofNat 190)))],[K0,(.sc (.int .i64 (.ofNat 31))),(.sc (.int .i64 (.ofNat 190)))])),(.sc (.int .i64 (.ofNat 8766)))⟩
theorem nZ {mx:Int}:Av Tryz.prog (HdU.G mx) zL:=HdU.entry (l:=[s7]) (m:=1000000) (Ac.cons SJ HdU.none) (by kernel_rfl) (by kernel_rfl)
def yO:Cb:=⟨110,[],(some ([K0,(.sc (.int .i64 (.ofNat 25))),(.sc (.int .i64 (.ofNat 190)))],[K0,(.sc (.int .i64 (.ofNat 31))),(.sc (.int .i64 (.ofNat 190)))])),(.agg [(.sc (.int .i64 (.ofNat 5))),(Af []),(Af []),(.sc (.int .i64 (.ofNat 1))),(.sc (.int .i64 (.ofNat 8766))),(.sc (.int .i64 (.ofNat 36525))),(.sc (.int .i64 (.ofNat 8766))),(.sc (.int .i64 (.ofNat 0))),(.sl .full 0 []),(.sl .full 0 []),(.sc (.int .i64 (.ofNat 104)))])⟩
theorem mW {mx:Int}:Av Tryz.prog (HdU.G mx) yO:=HdU.entry (l:=[Rd,Rz,QN,Ru,Rb,QV,Q1,zM,zL]) (m:=1000000) (Ac.cons EF (Ac.cons EI (Ac.cons EG (Ac.cons EJ (Ac.cons EQ (Ac.cons EV (Ac.cons EL (Ac.cons jS (Ac.cons nZ HdU.none))))))))) (by kernel_rfl) (by kernel_rfl)
def xY:Cb:=⟨75,[],(some ([K0,(.sc (.int .i64 (.ofNat 33))),(.sc (.int .i64 (.ofNat 190)))],[K0,(.sc (.int .i64 (.ofNat 35))),(.sc (.int .i64 (.ofNat 190)))])),(.agg [(.sc (.int .i64 (.ofNat 11))),(Af []),(Af [69,85,82]),(.sc (.int .i64 (.ofNat 100))),(.sc (.int .i64 (.ofNat 0))),(.sc (.int .i64 (.ofNat 0))),(.sc (.int .i64 (.ofNat 0))),(.sc (.int .i64 (.ofNat 0))),(.sl .full 0 []),(.sl .full 0 []),(.sc (.int .i64 (.ofNat 153)))])⟩
theorem lV {mx:Int}:Av Tryz.prog (HdU.G mx) xY:=HdU.entry (l:=[e1,Rd,Rz,QN,Ru,Rb,QV,Q1,Ue,Uf]) (m:=1000000) (Ac.cons I3 (Ac.cons EF (Ac.cons EI (Ac.cons EG (Ac.cons EJ (Ac.cons EQ (Ac.cons EV (Ac.cons EL (Ac.cons Gs (Ac.cons Gt HdU.none)))))))))) (by kernel_rfl) (by kernel_rfl)
def xT:Cb:=⟨111,[(.sc (.int .i64 (.ofNat 8)))],(some ([K0,(.sc (.int .i64 (.ofNat 32))),(.sc (.int .i64 (.ofNat 190)))],[K0,(.sc (.int .i64 (.ofNat 36))),(.sc (.int .i64 (.ofNat 190)))])),(.agg [(.sc (.int .i64 (.ofNat 8))),(Af []),(Af []),(.sc (.int .i64 (.ofNat 0))),(.sc (.int .i64 (.ofNat 0))),(.sc (.int .i64 (.ofNat 0))),(.sc (.int .i64 (.ofNat 0))),(.sc (.int .i64 (.ofNat 0))),(.sl .full 0 []),wD,(.sc (.int .i64 (.ofNat 146)))])⟩
theorem kE {mx:Int}:Av Tryz.prog (HdU.G mx) xT:=HdU.entry (l:=[e1,Rd,Rz,QN,Ru,Rb,QV,Q1,Ue,Uf,xY]) (m:=1000000) (Ac.cons I3 (Ac.cons EF (Ac.cons EI (Ac.cons EG (Ac.cons EJ (Ac.cons EQ (Ac.cons EV (Ac.cons EL (Ac.cons Gs (Ac.cons Gt (Ac.cons lV HdU.none))))))))))) (by kernel_rfl) (by kernel_rfl)
def wB:Cb:=⟨71,[],(some ([K0,(.sc (.int .i64 (.ofNat 21))),(.sc (.int .i64 (.ofNat 190)))],[K0,(.sc (.int .i64 (.ofNat 37))),(.sc (.int .i64 (.ofNat 190)))])),(.agg [(.sc (.int .i64 (.ofNat 4))),(Af [98,97,115,105,99]),(Af []),(.sc (.int .i64 (.ofNat 1))),(.sc (.int .i64 (.ofNat 0))),(.sc (.int .i64 (.ofNat 0))),(.sc (.int .i64 (.ofNat 0))),(.sc (.int .i64 (.ofNat 0))),(.sl .full 0 []),pE,(.sc (.int .i64 (.ofNat 84)))])⟩
theorem Zj {mx:Int}:Av Tryz.prog (HdU.G mx) wB:=HdU.entry (l:=[Rd,Rz,QN,Ru,Rb,QV,Q1,yO,xT]) (m:=1000000) (Ac.cons EF (Ac.cons EI (Ac.cons EG (Ac.cons EJ (Ac.cons EQ (Ac.cons EV (Ac.cons EL (Ac.cons mW (Ac.cons kE HdU.none))))))))) (by kernel_rfl) (by kernel_rfl)
def yA:Cb:=⟨45,[],(some ([K0,(.sc (.int .i64 (.ofNat 21))),(.sc (.int .i64 (.ofNat 190)))],[K0,(.sc (.int .i64 (.ofNat 37))),(.sc (.int .i64 (.ofNat 190)))])),(.agg [(.sc (.int .i64 (.ofNat 4))),(Af [98,97,115,105,99]),(Af []),(.sc (.int .i64 (.ofNat 1))),(.sc (.int .i64 (.ofNat 0))),(.sc (.int .i64 (.ofNat 0))),(.sc (.int .i64 (.ofNat 0))),(.sc (.int .i64 (.ofNat 0))),(.sl .full 0 []),pE,(.sc (.int .i64 (.ofNat 84)))])⟩
theorem n8 {mx:Int}:Av Tryz.prog (HdU.G mx) yA:=HdU.entry (l:=[oH,pL,qD,uI,wB]) (m:=1000000) (Ac.cons NI (Ac.cons PH (Ac.cons RL (Ac.cons U1 (Ac.cons Zj HdU.none))))) (by kernel_rfl) (by kernel_rfl)
def yH:Cb:=⟨70,[],(some ([K0,(.sc (.int .i64 (.ofNat 37))),(.sc (.int .i64 (.ofNat 190)))],[K0,(.sc (.int .i64 (.ofNat 43))),(.sc (.int .i64 (.ofNat 190)))])),(.agg [(.sc (.int .i64 (.ofNat 3))),(Af [98,97,115,105,99]),(Af [110,117,109,98,101,114]),(.sc (.int .i64 (.ofNat 4))),(.sc (.int .i64 (.ofNat 0))),(.sc (.int .i64 (.ofNat 0))),(.sc (.int .i64 (.ofNat 0))),(.sc (.int .i64 (.ofNat 0))),(.sl .full 0 []),(.sl .full 0 []),(.sc (.int .i64 (.ofNat 165)))])⟩
theorem nS {mx:Int}:Av Tryz.prog (HdU.G mx) yH:=HdU.entry (l:=[]) (m:=1000000) HdU.none (by kernel_rfl) (by kernel_rfl)
def yN:Cb:=⟨45,[],(some ([K0,(.sc (.int .i64 (.ofNat 37))),(.sc (.int .i64 (.ofNat 190)))],[K0,(.sc (.int .i64 (.ofNat 43))),(.sc (.int .i64 (.ofNat 190)))])),(.agg [(.sc (.int .i64 (.ofNat 3))),(Af [98,97,115,105,99]),(Af [110,117,109,98,101,114]),(.sc (.int .i64 (.ofNat 4))),(.sc (.int .i64 (.ofNat 0))),(.sc (.int .i64 (.ofNat 0))),(.sc (.int .i64 (.ofNat 0))),(.sc (.int .i64 (.ofNat 0))),(.sl .full 0 []),(.sl .full 0 []),(.sc (.int .i64 (.ofNat 165)))])⟩
theorem oE {mx:Int}:Av Tryz.prog (HdU.G mx) yN:=HdU.entry (l:=[oH,pL,qD,uI,wB,yH]) (m:=1000000) (Ac.cons NI (Ac.cons PH (Ac.cons RL (Ac.cons U1 (Ac.cons Zj (Ac.cons nS HdU.none)))))) (by kernel_rfl) (by kernel_rfl)
def yC:Cb:=⟨27,[yI],none,(.A9 [(.agg [(.sc (.int .i64 (.ofNat 1))),(Af []),(Af []),(.sc (.int .i64 (.ofNat 0))),(.sc (.int .i64 (.ofNat 0))),(.sc (.int .i64 (.ofNat 0))),(.sc (.int .i64 (.ofNat 0))),(.sc (.int .i64 (.ofNat 0))),(.sl .full 0 []),vK,(.sc (.int .i64 (.ofNat 0)))]),(.sl .full 0 [])])⟩
theorem lJ {mx:Int}:Av Tryz.prog (HdU.G mx) yC:=HdU.entry (l:=[xS,xR,yU,e78,yJ,yA,yN]) (m:=1000000) (Ac.cons oV (Ac.cons nY (Ac.cons mV (Ac.cons n7 (Ac.cons jU (Ac.cons n8 (Ac.cons oE HdU.none))))))) (by kernel_rfl) (by kernel_rfl)
def W8:Cb:=⟨29,[(.agg [(.sc (.int .i64 (.ofNat 1))),(Af []),(Af []),(.sc (.int .i64 (.ofNat 0))),(.sc (.int .i64 (.ofNat 0))),(.sc (.int .i64 (.ofNat 0))),(.sc (.int .i64 (.ofNat 0))),(.sc (.int .i64 (.ofNat 0))),(.sl .full 0 []),Ol,(.sc (.int .i64 (.ofNat 0)))])],none,(.sc (.bool true))⟩
theorem Ik {mx:Int}:Av Tryz.prog (HdU.G mx) W8:=HdU.entry (l:=[]) (m:=1000000) HdU.none (by kernel_rfl) (by kernel_rfl)
def e92:Cb:=⟨16,[(.agg [(.sc (.int .i64 (.ofNat 1))),(Af []),(Af []),(.sc (.int .i64 (.ofNat 0))),(.sc (.int .i64 (.ofNat 0))),(.sc (.int .i64 (.ofNat 0))),(.sc (.int .i64 (.ofNat 0))),(.sc (.int .i64 (.ofNat 0))),(.sl .full 0 []),Ol,(.sc (.int .i64 (.ofNat 0)))])],none,(.sl .full 0 [])⟩
theorem mR {mx:Int}:Av Tryz.prog (HdU.G mx) e92:=HdU.entry (l:=[W8]) (m:=1000000) (Ac.cons Ik HdU.none) (by kernel_rfl) (by kernel_rfl)
def yZ:Cb:=⟨29,[(.agg [(.sc (.int .i64 (.ofNat 16))),(Af [43]),(Af []),(.sc (.int .i64 (.ofNat 0))),(.sc (.int .i64 (.ofNat 0))),(.sc (.int .i64 (.ofNat 0))),(.sc (.int .i64 (.ofNat 0))),(.sc (.int .i64 (.ofNat 0))),(.sl .full 0 []),pO,(.sc (.int .i64 (.ofNat 0)))])],none,(.sc (.bool true))⟩
theorem oK {mx:Int}:Av Tryz.prog (HdU.G mx) yZ:=HdU.entry (l:=[]) (m:=1000000) HdU.none (by kernel_rfl) (by kernel_rfl)
def zZ:Cb:=⟨13,[(.agg [(.sc (.int .i64 (.ofNat 1))),(Af []),(Af []),(.sc (.int .i64 (.ofNat 0))),(.sc (.int .i64 (.ofNat 0))),(.sc (.int .i64 (.ofNat 0))),(.sc (.int .i64 (.ofNat 0))),(.sc (.int .i64 (.ofNat 0))),(.sl .full 0 []),Ol,(.sc (.int .i64 (.ofNat 0)))]),(.agg [(.sc (.int .i64 (.ofNat 16))),(Af [43]),(Af []),(.sc (.int .i64 (.ofNat 0))),(.sc (.int .i64 (.ofNat 0))),(.sc (.int .i64 (.ofNat 0))),(.sc (.int .i64 (.ofNat 0))),(.sc (.int .i64 (.ofNat 0))),(.sl .full 0 []),pO,(.sc (.int .i64 (.ofNat 0)))])],none,(.A9 [(Af [69,85,82]),(.sl .full 0 [])])⟩
theorem nW {mx:Int}:Av Tryz.prog (HdU.G mx) zZ:=HdU.entry (l:=[W8,yZ]) (m:=1000000) (Ac.cons Ik (Ac.cons oK HdU.none)) (by kernel_rfl) (by kernel_rfl)
def xV:Cb:=⟨28,[(.agg [(.sc (.int .i64 (.ofNat 1))),(Af []),(Af []),(.sc (.int .i64 (.ofNat 0))),(.sc (.int .i64 (.ofNat 0))),(.sc (.int .i64 (.ofNat 0))),(.sc (.int .i64 (.ofNat 0))),(.sc (.int .i64 (.ofNat 0))),(.sl .full 0 []),Ol,(.sc (.int .i64 (.ofNat 0)))]),k6,(Af [69,85,82]),(.sc (.int .i64 (.ofNat 0)))],none,(.sc (.bool true))⟩
theorem mN {mx:Int}:Av Tryz.prog (HdU.G mx) xV:=HdU.entry (l:=[e25,zZ]) (m:=1000000) (Ac.cons oX (Ac.cons nW HdU.none)) (by kernel_rfl) (by kernel_rfl)
def yT:Cb:=⟨29,[(.agg [(.sc (.int .i64 (.ofNat 16))),(Af [97,110,100]),(Af []),(.sc (.int .i64 (.ofNat 0))),(.sc (.int .i64 (.ofNat 0))),(.sc (.int .i64 (.ofNat 0))),(.sc (.int .i64 (.ofNat 0))),(.sc (.int .i64 (.ofNat 0))),(.sl .full 0 []),pU,(.sc (.int .i64 (.ofNat 0)))])],none,(.sc (.bool true))⟩
theorem kK {mx:Int}:Av Tryz.prog (HdU.G mx) yT:=HdU.entry (l:=[]) (m:=1000000) HdU.none (by kernel_rfl) (by kernel_rfl)
def e97:Cb:=⟨13,[(.agg [(.sc (.int .i64 (.ofNat 1))),(Af []),(Af []),(.sc (.int .i64 (.ofNat 0))),(.sc (.int .i64 (.ofNat 0))),(.sc (.int .i64 (.ofNat 0))),(.sc (.int .i64 (.ofNat 0))),(.sc (.int .i64 (.ofNat 0))),(.sl .full 0 []),Ol,(.sc (.int .i64 (.ofNat 0)))]),(.agg [(.sc (.int .i64 (.ofNat 16))),(Af [97,110,100]),(Af []),(.sc (.int .i64 (.ofNat 0))),(.sc (.int .i64 (.ofNat 0))),(.sc (.int .i64 (.ofNat 0))),(.sc (.int .i64 (.ofNat 0))),(.sc (.int .i64 (.ofNat 0))),(.sl .full 0 []),pU,(.sc (.int .i64 (.ofNat 0)))])],none,(.A9 [(Af [116,114,117,116,104]),(.sl .full 0 [])])⟩
theorem kN {mx:Int}:Av Tryz.prog (HdU.G mx) e97:=HdU.entry (l:=[W8,yT]) (m:=1000000) (Ac.cons Ik (Ac.cons kK HdU.none)) (by kernel_rfl) (by kernel_rfl)
end Go.Proofs.YtkfplcngmiljaaaGreatDoor
namespace Go.Proofs.YtkfplcngmiljaaaGreatDoor
open AI
set_option maxRecDepth 100000
set_option maxHeartbeats 4000000
def yB:Cb:=⟨28,[(.agg [(.sc (.int .i64 (.ofNat 1))),(Af []),(Af []),(.sc (.int .i64 (.ofNat 0))),(.sc (.int .i64 (.ofNat 0))),(.sc (.int .i64 (.ofNat 0))),(.sc (.int .i64 (.ofNat 0))),(.sc (.int .i64 (.ofNat 0))),(.sl .full 0 []),Ol,(.sc (.int .i64 (.ofNat 0)))]),k8,(Af [116,114,117,116,104]),(.sc (.int .i64 (.ofNat 0)))],none,(.sc (.bool true))⟩
theorem oC {mx:Int}:Av Tryz.prog (HdU.G mx) yB:=HdU.entry (l:=[zV,e97]) (m:=1000000) (Ac.cons lS (Ac.cons kN HdU.none)) (by kernel_rfl) (by kernel_rfl)
def e99:Cb:=⟨29,[(.agg [(.sc (.int .i64 (.ofNat 15))),(Af []),(Af []),(.sc (.int .i64 (.ofNat 0))),(.sc (.int .i64 (.ofNat 0))),(.sc (.int .i64 (.ofNat 0))),(.sc (.int .i64 (.ofNat 0))),(.sc (.int .i64 (.ofNat 0))),(.sl .full 0 []),pG,(.sc (.int .i64 (.ofNat 0)))])],none,(.sc (.bool true))⟩
theorem lI {mx:Int}:Av Tryz.prog (HdU.G mx) e99:=HdU.entry (l:=[]) (m:=1000000) HdU.none (by kernel_rfl) (by kernel_rfl)
def qU:Cb:=⟨13,[(.agg [(.sc (.int .i64 (.ofNat 1))),(Af []),(Af []),(.sc (.int .i64 (.ofNat 0))),(.sc (.int .i64 (.ofNat 0))),(.sc (.int .i64 (.ofNat 0))),(.sc (.int .i64 (.ofNat 0))),(.sc (.int .i64 (.ofNat 0))),(.sl .full 0 []),Ol,(.sc (.int .i64 (.ofNat 0)))]),(.agg [(.sc (.int .i64 (.ofNat 15))),(Af []),(Af []),(.sc (.int .i64 (.ofNat 0))),(.sc (.int .i64 (.ofNat 0))),(.sc (.int .i64 (.ofNat 0))),(.sc (.int .i64 (.ofNat 0))),(.sc (.int .i64 (.ofNat 0))),(.sl .full 0 []),pG,(.sc (.int .i64 (.ofNat 0)))])],none,(.A9 [(Af [116,114,117,116,104]),(.sl .full 0 [])])⟩
theorem bT {mx:Int}:Av Tryz.prog (HdU.G mx) qU:=HdU.entry (l:=[W8,e99]) (m:=1000000) (Ac.cons Ik (Ac.cons lI HdU.none)) (by kernel_rfl) (by kernel_rfl)
def rD:Cb:=⟨28,[(.agg [(.sc (.int .i64 (.ofNat 1))),(Af []),(Af []),(.sc (.int .i64 (.ofNat 0))),(.sc (.int .i64 (.ofNat 0))),(.sc (.int .i64 (.ofNat 0))),(.sc (.int .i64 (.ofNat 0))),(.sc (.int .i64 (.ofNat 0))),(.sl .full 0 []),Ol,(.sc (.int .i64 (.ofNat 0)))]),vP,(Af [116,114,117,116,104]),(.sc (.int .i64 (.ofNat 0)))],none,(.sc (.bool true))⟩
theorem dK {mx:Int}:Av Tryz.prog (HdU.G mx) rD:=HdU.entry (l:=[zW,qU]) (m:=1000000) (Ac.cons n6 (Ac.cons bT HdU.none)) (by kernel_rfl) (by kernel_rfl)
def qZ:Cb:=⟨29,[(.agg [(.sc (.int .i64 (.ofNat 16))),(Af [47]),(Af []),(.sc (.int .i64 (.ofNat 0))),(.sc (.int .i64 (.ofNat 0))),(.sc (.int .i64 (.ofNat 0))),(.sc (.int .i64 (.ofNat 0))),(.sc (.int .i64 (.ofNat 0))),(.sl .full 0 []),pB,(.sc (.int .i64 (.ofNat 0)))])],none,(.sc (.bool true))⟩
theorem bO {mx:Int}:Av Tryz.prog (HdU.G mx) qZ:=HdU.entry (l:=[]) (m:=1000000) HdU.none (by kernel_rfl) (by kernel_rfl)
def p5:Cb:=⟨13,[(.agg [(.sc (.int .i64 (.ofNat 1))),(Af []),(Af []),(.sc (.int .i64 (.ofNat 0))),(.sc (.int .i64 (.ofNat 0))),(.sc (.int .i64 (.ofNat 0))),(.sc (.int .i64 (.ofNat 0))),(.sc (.int .i64 (.ofNat 0))),(.sl .full 0 []),Ol,(.sc (.int .i64 (.ofNat 0)))]),(.agg [(.sc (.int .i64 (.ofNat 16))),(Af [47]),(Af []),(.sc (.int .i64 (.ofNat 0))),(.sc (.int .i64 (.ofNat 0))),(.sc (.int .i64 (.ofNat 0))),(.sc (.int .i64 (.ofNat 0))),(.sc (.int .i64 (.ofNat 0))),(.sl .full 0 []),pB,(.sc (.int .i64 (.ofNat 0)))])],none,(.A9 [(Af [69,85,82]),(.sl .full 0 [])])⟩
theorem eW {mx:Int}:Av Tryz.prog (HdU.G mx) p5:=HdU.entry (l:=[W8,qZ]) (m:=1000000) (Ac.cons Ik (Ac.cons bO HdU.none)) (by kernel_rfl) (by kernel_rfl)
def rZ:Cb:=⟨28,[(.agg [(.sc (.int .i64 (.ofNat 1))),(Af []),(Af []),(.sc (.int .i64 (.ofNat 0))),(.sc (.int .i64 (.ofNat 0))),(.sc (.int .i64 (.ofNat 0))),(.sc (.int .i64 (.ofNat 0))),(.sc (.int .i64 (.ofNat 0))),(.sl .full 0 []),Ol,(.sc (.int .i64 (.ofNat 0)))]),YB,(Af [69,85,82]),(.sc (.int .i64 (.ofNat 0)))],none,(.sc (.bool true))⟩
theorem aN {mx:Int}:Av Tryz.prog (HdU.G mx) rZ:=HdU.entry (l:=[e34,p5]) (m:=1000000) (Ac.cons n5 (Ac.cons eW HdU.none)) (by kernel_rfl) (by kernel_rfl)
def tK:Cb:=⟨29,[(.agg [(.sc (.int .i64 (.ofNat 16))),(Af [42]),(Af []),(.sc (.int .i64 (.ofNat 0))),(.sc (.int .i64 (.ofNat 0))),(.sc (.int .i64 (.ofNat 0))),(.sc (.int .i64 (.ofNat 0))),(.sc (.int .i64 (.ofNat 0))),(.sl .full 0 []),pW,(.sc (.int .i64 (.ofNat 0)))])],none,(.sc (.bool true))⟩
theorem bI {mx:Int}:Av Tryz.prog (HdU.G mx) tK:=HdU.entry (l:=[]) (m:=1000000) HdU.none (by kernel_rfl) (by kernel_rfl)
def rB:Cb:=⟨13,[(.agg [(.sc (.int .i64 (.ofNat 1))),(Af []),(Af []),(.sc (.int .i64 (.ofNat 0))),(.sc (.int .i64 (.ofNat 0))),(.sc (.int .i64 (.ofNat 0))),(.sc (.int .i64 (.ofNat 0))),(.sc (.int .i64 (.ofNat 0))),(.sl .full 0 []),Ol,(.sc (.int .i64 (.ofNat 0)))]),(.agg [(.sc (.int .i64 (.ofNat 16))),(Af [42]),(Af []),(.sc (.int .i64 (.ofNat 0))),(.sc (.int .i64 (.ofNat 0))),(.sc (.int .i64 (.ofNat 0))),(.sc (.int .i64 (.ofNat 0))),(.sc (.int .i64 (.ofNat 0))),(.sl .full 0 []),pW,(.sc (.int .i64 (.ofNat 0)))])],none,(.A9 [k1,(.sl .full 0 [])])⟩
theorem bL {mx:Int}:Av Tryz.prog (HdU.G mx) rB:=HdU.entry (l:=[W8,tK]) (m:=1000000) (Ac.cons Ik (Ac.cons bI HdU.none)) (by kernel_rfl) (by kernel_rfl)
def tR:Cb:=⟨28,[(.agg [(.sc (.int .i64 (.ofNat 1))),(Af []),(Af []),(.sc (.int .i64 (.ofNat 0))),(.sc (.int .i64 (.ofNat 0))),(.sc (.int .i64 (.ofNat 0))),(.sc (.int .i64 (.ofNat 0))),(.sc (.int .i64 (.ofNat 0))),(.sl .full 0 []),Ol,(.sc (.int .i64 (.ofNat 0)))]),Y3,k1,(.sc (.int .i64 (.ofNat 0)))],none,(.sc (.bool true))⟩
theorem eU {mx:Int}:Av Tryz.prog (HdU.G mx) tR:=HdU.entry (l:=[e37,rB]) (m:=1000000) (Ac.cons nF (Ac.cons bL HdU.none)) (by kernel_rfl) (by kernel_rfl)
def qS:Cb:=⟨29,[(.agg [(.sc (.int .i64 (.ofNat 16))),(Af [42]),(Af []),(.sc (.int .i64 (.ofNat 0))),(.sc (.int .i64 (.ofNat 0))),(.sc (.int .i64 (.ofNat 0))),(.sc (.int .i64 (.ofNat 0))),(.sc (.int .i64 (.ofNat 0))),(.sl .full 0 []),pD,(.sc (.int .i64 (.ofNat 0)))])],none,(.sc (.bool true))⟩
theorem bE {mx:Int}:Av Tryz.prog (HdU.G mx) qS:=HdU.entry (l:=[]) (m:=1000000) HdU.none (by kernel_rfl) (by kernel_rfl)
def sD:Cb:=⟨13,[(.agg [(.sc (.int .i64 (.ofNat 1))),(Af []),(Af []),(.sc (.int .i64 (.ofNat 0))),(.sc (.int .i64 (.ofNat 0))),(.sc (.int .i64 (.ofNat 0))),(.sc (.int .i64 (.ofNat 0))),(.sc (.int .i64 (.ofNat 0))),(.sl .full 0 []),Ol,(.sc (.int .i64 (.ofNat 0)))]),(.agg [(.sc (.int .i64 (.ofNat 16))),(Af [42]),(Af []),(.sc (.int .i64 (.ofNat 0))),(.sc (.int .i64 (.ofNat 0))),(.sc (.int .i64 (.ofNat 0))),(.sc (.int .i64 (.ofNat 0))),(.sc (.int .i64 (.ofNat 0))),(.sl .full 0 []),pD,(.sc (.int .i64 (.ofNat 0)))])],none,(.A9 [(Af []),(.sl .lost 1 [(.sc (.int .i64 (.ofNat 11))),(.sc (.int .i64 (.ofNat 0)))])])⟩
theorem eQ {mx:Int}:Av Tryz.prog (HdU.G mx) sD:=HdU.entry (l:=[W8,qS]) (m:=1000000) (Ac.cons Ik (Ac.cons bE HdU.none)) (by kernel_rfl) (by kernel_rfl)
def qA:Cb:=⟨28,[(.agg [(.sc (.int .i64 (.ofNat 1))),(Af []),(Af []),(.sc (.int .i64 (.ofNat 0))),(.sc (.int .i64 (.ofNat 0))),(.sc (.int .i64 (.ofNat 0))),(.sc (.int .i64 (.ofNat 0))),(.sc (.int .i64 (.ofNat 0))),(.sl .full 0 []),Ol,(.sc (.int .i64 (.ofNat 0)))]),VG,(Af []),(.sc (.int .i64 (.ofNat 11)))],none,(.sc (.bool true))⟩
theorem gI {mx:Int}:Av Tryz.prog (HdU.G mx) qA:=HdU.entry (l:=[xX,sD]) (m:=1000000) (Ac.cons lE (Ac.cons eQ HdU.none)) (by kernel_rfl) (by kernel_rfl)
def tW:Cb:=⟨29,[(.agg [(.sc (.int .i64 (.ofNat 16))),(Af [43]),(Af []),(.sc (.int .i64 (.ofNat 0))),(.sc (.int .i64 (.ofNat 0))),(.sc (.int .i64 (.ofNat 0))),(.sc (.int .i64 (.ofNat 0))),(.sc (.int .i64 (.ofNat 0))),(.sl .full 0 []),o0,(.sc (.int .i64 (.ofNat 0)))])],none,(.sc (.bool true))⟩
theorem eY {mx:Int}:Av Tryz.prog (HdU.G mx) tW:=HdU.entry (l:=[]) (m:=1000000) HdU.none (by kernel_rfl) (by kernel_rfl)
def r5:Cb:=⟨13,[(.agg [(.sc (.int .i64 (.ofNat 1))),(Af []),(Af []),(.sc (.int .i64 (.ofNat 0))),(.sc (.int .i64 (.ofNat 0))),(.sc (.int .i64 (.ofNat 0))),(.sc (.int .i64 (.ofNat 0))),(.sc (.int .i64 (.ofNat 0))),(.sl .full 0 []),Ol,(.sc (.int .i64 (.ofNat 0)))]),(.agg [(.sc (.int .i64 (.ofNat 16))),(Af [43]),(Af []),(.sc (.int .i64 (.ofNat 0))),(.sc (.int .i64 (.ofNat 0))),(.sc (.int .i64 (.ofNat 0))),(.sc (.int .i64 (.ofNat 0))),(.sc (.int .i64 (.ofNat 0))),(.sl .full 0 []),o0,(.sc (.int .i64 (.ofNat 0)))])],none,(.A9 [(Af []),(.sl .lost 1 [(.sc (.int .i64 (.ofNat 11))),(.sc (.int .i64 (.ofNat 0)))])])⟩
theorem dR {mx:Int}:Av Tryz.prog (HdU.G mx) r5:=HdU.entry (l:=[W8,tW]) (m:=1000000) (Ac.cons Ik (Ac.cons eY HdU.none)) (by kernel_rfl) (by kernel_rfl)
def qV:Cb:=⟨28,[(.agg [(.sc (.int .i64 (.ofNat 1))),(Af []),(Af []),(.sc (.int .i64 (.ofNat 0))),(.sc (.int .i64 (.ofNat 0))),(.sc (.int .i64 (.ofNat 0))),(.sc (.int .i64 (.ofNat 0))),(.sc (.int .i64 (.ofNat 0))),(.sl .full 0 []),Ol,(.sc (.int .i64 (.ofNat 0)))]),YR,(Af []),(.sc (.int .i64 (.ofNat 11)))],none,(.sc (.bool true))⟩
theorem cL {mx:Int}:Av Tryz.prog (HdU.G mx) qV:=HdU.entry (l:=[yE,r5]) (m:=1000000) (Ac.cons nU (Ac.cons dR HdU.none)) (by kernel_rfl) (by kernel_rfl)
def rE:Cb:=⟨29,[(.agg [(.sc (.int .i64 (.ofNat 16))),(Af [43]),(Af []),(.sc (.int .i64 (.ofNat 0))),(.sc (.int .i64 (.ofNat 0))),(.sc (.int .i64 (.ofNat 0))),(.sc (.int .i64 (.ofNat 0))),(.sc (.int .i64 (.ofNat 0))),(.sl .full 0 []),pI,(.sc (.int .i64 (.ofNat 0)))])],none,(.sc (.bool true))⟩
theorem eZ {mx:Int}:Av Tryz.prog (HdU.G mx) rE:=HdU.entry (l:=[]) (m:=1000000) HdU.none (by kernel_rfl) (by kernel_rfl)
def p6:Cb:=⟨13,[(.agg [(.sc (.int .i64 (.ofNat 1))),(Af []),(Af []),(.sc (.int .i64 (.ofNat 0))),(.sc (.int .i64 (.ofNat 0))),(.sc (.int .i64 (.ofNat 0))),(.sc (.int .i64 (.ofNat 0))),(.sc (.int .i64 (.ofNat 0))),(.sl .full 0 []),Ol,(.sc (.int .i64 (.ofNat 0)))]),(.agg [(.sc (.int .i64 (.ofNat 16))),(Af [43]),(Af []),(.sc (.int .i64 (.ofNat 0))),(.sc (.int .i64 (.ofNat 0))),(.sc (.int .i64 (.ofNat 0))),(.sc (.int .i64 (.ofNat 0))),(.sc (.int .i64 (.ofNat 0))),(.sl .full 0 []),pI,(.sc (.int .i64 (.ofNat 0)))])],none,(.A9 [(Af []),(.sl .lost 1 [(.sc (.int .i64 (.ofNat 91))),(.sc (.int .i64 (.ofNat 0)))])])⟩
theorem aP {mx:Int}:Av Tryz.prog (HdU.G mx) p6:=HdU.entry (l:=[W8,rE]) (m:=1000000) (Ac.cons Ik (Ac.cons eZ HdU.none)) (by kernel_rfl) (by kernel_rfl)
end Go.Proofs.YtkfplcngmiljaaaGreatDoor
namespace Go.Proofs.YtkfplcngmiljaaaGreatDoor
open AI
set_option maxRecDepth 100000
set_option maxHeartbeats 4000000
def rI:Cb:=⟨28,[(.agg [(.sc (.int .i64 (.ofNat 1))),(Af []),(Af []),(.sc (.int .i64 (.ofNat 0))),(.sc (.int .i64 (.ofNat 0))),(.sc (.int .i64 (.ofNat 0))),(.sc (.int .i64 (.ofNat 0))),(.sc (.int .i64 (.ofNat 0))),(.sl .full 0 []),Ol,(.sc (.int .i64 (.ofNat 0)))]),(Af [120,32,43,32,49]),(Af []),(.sc (.int .i64 (.ofNat 91)))],none,(.sc (.bool true))⟩
theorem gP {mx:Int}:Av Tryz.prog (HdU.G mx) rI:=HdU.entry (l:=[zK,p6]) (m:=1000000) (Ac.cons oL (Ac.cons aP HdU.none)) (by kernel_rfl) (by kernel_rfl)
def tG:Cb:=⟨29,[(.agg [(.sc (.int .i64 (.ofNat 13))),(Af []),(Af []),(.sc (.int .i64 (.ofNat 2))),(.sc (.int .i64 (.ofNat 0))),(.sc (.int .i64 (.ofNat 0))),(.sc (.int .i64 (.ofNat 0))),(.sc (.int .i64 (.ofNat 0))),(.sl .full 0 []),(.sl .full 0 []),(.sc (.int .i64 (.ofNat 0)))])],none,(.sc (.bool true))⟩
theorem cX {mx:Int}:Av Tryz.prog (HdU.G mx) tG:=HdU.entry (l:=[]) (m:=1000000) HdU.none (by kernel_rfl) (by kernel_rfl)
def rT:Cb:=⟨13,[(.agg [(.sc (.int .i64 (.ofNat 1))),(Af []),(Af []),(.sc (.int .i64 (.ofNat 0))),(.sc (.int .i64 (.ofNat 0))),(.sc (.int .i64 (.ofNat 0))),(.sc (.int .i64 (.ofNat 0))),(.sc (.int .i64 (.ofNat 0))),(.sl .full 0 []),Ol,(.sc (.int .i64 (.ofNat 0)))]),(.agg [(.sc (.int .i64 (.ofNat 13))),(Af []),(Af []),(.sc (.int .i64 (.ofNat 2))),(.sc (.int .i64 (.ofNat 0))),(.sc (.int .i64 (.ofNat 0))),(.sc (.int .i64 (.ofNat 0))),(.sc (.int .i64 (.ofNat 0))),(.sl .full 0 []),(.sl .full 0 []),(.sc (.int .i64 (.ofNat 0)))])],none,(.A9 [(Af []),(.sl .lost 1 [(.sc (.int .i64 (.ofNat 91))),(.sc (.int .i64 (.ofNat 0)))])])⟩
theorem dD {mx:Int}:Av Tryz.prog (HdU.G mx) rT:=HdU.entry (l:=[W8,tG]) (m:=1000000) (Ac.cons Ik (Ac.cons cX HdU.none)) (by kernel_rfl) (by kernel_rfl)
def tO:Cb:=⟨28,[(.agg [(.sc (.int .i64 (.ofNat 1))),(Af []),(Af []),(.sc (.int .i64 (.ofNat 0))),(.sc (.int .i64 (.ofNat 0))),(.sc (.int .i64 (.ofNat 0))),(.sc (.int .i64 (.ofNat 0))),(.sc (.int .i64 (.ofNat 0))),(.sl .full 0 []),Ol,(.sc (.int .i64 (.ofNat 0)))]),(Af [97,114,116,32,50]),(Af []),(.sc (.int .i64 (.ofNat 91)))],none,(.sc (.bool true))⟩
theorem fX {mx:Int}:Av Tryz.prog (HdU.G mx) tO:=HdU.entry (l:=[xM,rT]) (m:=1000000) (Ac.cons nP (Ac.cons dD HdU.none)) (by kernel_rfl) (by kernel_rfl)
def qM:Cb:=⟨29,[(.agg [(.sc (.int .i64 (.ofNat 18))),(Af []),(Af []),(.sc (.int .i64 (.ofNat 0))),(.sc (.int .i64 (.ofNat 0))),(.sc (.int .i64 (.ofNat 0))),(.sc (.int .i64 (.ofNat 0))),(.sc (.int .i64 (.ofNat 10))),(.sl .lost 1 [(.sc (.int .i64 (.ofNat 0))),(.sc (.int .i64 (.ofNat 0))),(.sc (.int .i64 (.ofNat 1)))]),pJ,(.sc (.int .i64 (.ofNat 0)))])],none,(.sc (.bool true))⟩
theorem cV {mx:Int}:Av Tryz.prog (HdU.G mx) qM:=HdU.entry (l:=[]) (m:=1000000) HdU.none (by kernel_rfl) (by kernel_rfl)
def tT:Cb:=⟨13,[(.agg [(.sc (.int .i64 (.ofNat 1))),(Af []),(Af []),(.sc (.int .i64 (.ofNat 0))),(.sc (.int .i64 (.ofNat 0))),(.sc (.int .i64 (.ofNat 0))),(.sc (.int .i64 (.ofNat 0))),(.sc (.int .i64 (.ofNat 0))),(.sl .full 0 []),Ol,(.sc (.int .i64 (.ofNat 0)))]),(.agg [(.sc (.int .i64 (.ofNat 18))),(Af []),(Af []),(.sc (.int .i64 (.ofNat 0))),(.sc (.int .i64 (.ofNat 0))),(.sc (.int .i64 (.ofNat 0))),(.sc (.int .i64 (.ofNat 0))),(.sc (.int .i64 (.ofNat 10))),(.sl .lost 1 [(.sc (.int .i64 (.ofNat 0))),(.sc (.int .i64 (.ofNat 0))),(.sc (.int .i64 (.ofNat 1)))]),pJ,(.sc (.int .i64 (.ofNat 0)))])],none,(.A9 [(Af []),(.sl .lost 1 [(.sc (.int .i64 (.ofNat 11))),(.sc (.int .i64 (.ofNat 0)))])])⟩
theorem eT {mx:Int}:Av Tryz.prog (HdU.G mx) tT:=HdU.entry (l:=[W8,qM]) (m:=1000000) (Ac.cons Ik (Ac.cons cV HdU.none)) (by kernel_rfl) (by kernel_rfl)
def sS:Cb:=⟨28,[(.agg [(.sc (.int .i64 (.ofNat 1))),(Af []),(Af []),(.sc (.int .i64 (.ofNat 0))),(.sc (.int .i64 (.ofNat 0))),(.sc (.int .i64 (.ofNat 0))),(.sc (.int .i64 (.ofNat 0))),(.sc (.int .i64 (.ofNat 0))),(.sl .full 0 []),Ol,(.sc (.int .i64 (.ofNat 0)))]),wG,(Af []),(.sc (.int .i64 (.ofNat 11)))],none,(.sc (.bool true))⟩
theorem dU {mx:Int}:Av Tryz.prog (HdU.G mx) sS:=HdU.entry (l:=[yY,tT]) (m:=1000000) (Ac.cons kT (Ac.cons eT HdU.none)) (by kernel_rfl) (by kernel_rfl)
def rC:Cb:=⟨29,[(.agg [(.sc (.int .i64 (.ofNat 17))),(Af [108,101,97,115,116]),(Af []),(.sc (.int .i64 (.ofNat 0))),(.sc (.int .i64 (.ofNat 0))),(.sc (.int .i64 (.ofNat 0))),(.sc (.int .i64 (.ofNat 0))),(.sc (.int .i64 (.ofNat 0))),(.sl .full 0 []),pR,(.sc (.int .i64 (.ofNat 0)))])],none,(.sc (.bool true))⟩
theorem eD {mx:Int}:Av Tryz.prog (HdU.G mx) rC:=HdU.entry (l:=[]) (m:=1000000) HdU.none (by kernel_rfl) (by kernel_rfl)
def qC:Cb:=⟨13,[(.agg [(.sc (.int .i64 (.ofNat 1))),(Af []),(Af []),(.sc (.int .i64 (.ofNat 0))),(.sc (.int .i64 (.ofNat 0))),(.sc (.int .i64 (.ofNat 0))),(.sc (.int .i64 (.ofNat 0))),(.sc (.int .i64 (.ofNat 0))),(.sl .full 0 []),Ol,(.sc (.int .i64 (.ofNat 0)))]),(.agg [(.sc (.int .i64 (.ofNat 17))),(Af [108,101,97,115,116]),(Af []),(.sc (.int .i64 (.ofNat 0))),(.sc (.int .i64 (.ofNat 0))),(.sc (.int .i64 (.ofNat 0))),(.sc (.int .i64 (.ofNat 0))),(.sc (.int .i64 (.ofNat 0))),(.sl .full 0 []),pR,(.sc (.int .i64 (.ofNat 0)))])],none,(.A9 [(Af [69,85,82]),(.sl .full 0 [])])⟩
theorem dP {mx:Int}:Av Tryz.prog (HdU.G mx) qC:=HdU.entry (l:=[W8,rC]) (m:=1000000) (Ac.cons Ik (Ac.cons eD HdU.none)) (by kernel_rfl) (by kernel_rfl)
def qL:Cb:=⟨28,[(.agg [(.sc (.int .i64 (.ofNat 1))),(Af []),(Af []),(.sc (.int .i64 (.ofNat 0))),(.sc (.int .i64 (.ofNat 0))),(.sc (.int .i64 (.ofNat 0))),(.sc (.int .i64 (.ofNat 0))),(.sc (.int .i64 (.ofNat 0))),(.sl .full 0 []),Ol,(.sc (.int .i64 (.ofNat 0)))]),wY,(Af [69,85,82]),(.sc (.int .i64 (.ofNat 0)))],none,(.sc (.bool true))⟩
theorem gH {mx:Int}:Av Tryz.prog (HdU.G mx) qL:=HdU.entry (l:=[xQ,qC]) (m:=1000000) (Ac.cons mO (Ac.cons dP HdU.none)) (by kernel_rfl) (by kernel_rfl)
def qW:Cb:=⟨29,[(.agg [(.sc (.int .i64 (.ofNat 1))),(Af []),(Af []),(.sc (.int .i64 (.ofNat 0))),(.sc (.int .i64 (.ofNat 0))),(.sc (.int .i64 (.ofNat 0))),(.sc (.int .i64 (.ofNat 0))),(.sc (.int .i64 (.ofNat 0))),(.sl .full 0 []),vK,(.sc (.int .i64 (.ofNat 0)))])],none,(.sc (.bool true))⟩
theorem dI {mx:Int}:Av Tryz.prog (HdU.G mx) qW:=HdU.entry (l:=[]) (m:=1000000) HdU.none (by kernel_rfl) (by kernel_rfl)
def rM:Cb:=⟨16,[(.agg [(.sc (.int .i64 (.ofNat 1))),(Af []),(Af []),(.sc (.int .i64 (.ofNat 0))),(.sc (.int .i64 (.ofNat 0))),(.sc (.int .i64 (.ofNat 0))),(.sc (.int .i64 (.ofNat 0))),(.sc (.int .i64 (.ofNat 0))),(.sl .full 0 []),vK,(.sc (.int .i64 (.ofNat 0)))])],none,(.sl .lost 1 [(.sc (.int .i64 (.ofNat 5))),(.sc (.int .i64 (.ofNat 165)))])⟩
theorem dB {mx:Int}:Av Tryz.prog (HdU.G mx) rM:=HdU.entry (l:=[qW]) (m:=1000000) (Ac.cons dI HdU.none) (by kernel_rfl) (by kernel_rfl)
def sI:Cb:=⟨11,[],none,(.sc (.bool true))⟩
theorem fT {mx:Int}:Av Tryz.prog (HdU.G mx) sI:=HdU.entry (l:=[zX,yC,e92,xV,yB,rD,rZ,tR,qA,qV,rI,tO,sS,qL,rM]) (m:=1000000) (Ac.cons mT (Ac.cons lJ (Ac.cons mR (Ac.cons mN (Ac.cons oC (Ac.cons dK (Ac.cons aN (Ac.cons eU (Ac.cons gI (Ac.cons cL (Ac.cons gP (Ac.cons fX (Ac.cons dU (Ac.cons gH (Ac.cons dB HdU.none))))))))))))))) (by kernel_rfl) (by kernel_rfl)
theorem gN (mx:Int) (s:AS):Sound Tryz.prog (HdU.G mx) (.call 11 [] s (.ret (.sc (.bool true))) s):=(fT:Av Tryz.prog (HdU.G mx) sI) s
end Go.Proofs.YtkfplcngmiljaaaGreatDoor
namespace Go.Proofs.YtkfplcngmiljaaaGreatDoor
open AI Go
namespace Mo
set_option maxRecDepth 100000
set_option maxHeartbeats 4000000
abbrev GU (mx:Int):AN:=HdU.G mx
theorem up {mx:Int} {f:FuncId} {args:List AV} {v:AV} (h:Pure P G f args v):Pure P (GU mx) f args v:=by
 intro s cx w vs hs ha
 have hs0:St G cx w s:=⟨hs.len,hs.desc,hs.nodup,hs.low,hs.box,hs.rlen,hs.row,hs.rfree,hs.plow,hs.blow,hs.rdist,(fun _ _ h=>nomatch h),hs.bsz⟩
 refine (h s cx w vs hs0 ha).mono ?_
 rintro e w' ⟨c',hx,st,hr⟩
 exact ⟨c',hx,⟨st.len,st.desc,st.nodup,st.low,st.box,st.rlen,st.row,st.rfree,st.plow,st.blow,st.rdist,(fun g cs h=>(hs.glob g cs h).mono hx),st.bsz⟩,hr⟩
noncomputable def MM:Option Bool:=some true
theorem Qs {mx:Int} {yR:Bool} (h:MM=some yR):Pure P (GU mx) 11 [] (.sc (.bool yR)):=by
 cases h
 exact fun s=>gN mx s
variable {mx:Int}
noncomputable def B3:Code:=A3 Tryz.f3
theorem b3:Tryz.f3.body=some B3:=by kernel_rfl
noncomputable def Cv  (source:Nd) (e:Nd):Option Bool:=(MM).bind fun y1=>(Ig source e).bind fun y2=>cond y2 ((Gb source e).bind fun (y3a,y3b)=>(Gp source e).bind fun (y4a,y4b)=>cond y1 (cond (BA y3a.data.toList y4a.data.toList) ((Ds y3b y4b).bind fun y5=>cond y5 ((Gm source).bind fun y6=>(Gi source).bind fun y7=>(Ds y6 y7).bind fun y8=>some y8) (some false)) (some false)) (some false)) (some y1)
theorem GK   {source:Nd} {e:Nd} {yR:Bool} (h:Cv  source e=some yR):Pure P (GU mx) 3 [.agg (Bl source),.agg (Bl e)] (.sc (.bool yR)):=by
 unfold Cv at h
 refine BB Hd.mixed HdU.Aa (AB Tryz.func3 b3 ?_) (A2 (Al.GB source) (A2 (Al.GB e) rfl)) rfl
 revert h
 refine Ah fun y1 hy1=>?_
 refine Ah fun y2 hy2=>?_
 let o1:List (PC P (GU mx)):=[Ak (Qs hy1),Ak (up (Qf hy2))]
 refine Ae (fun hv=>?_) fun hv=>?_
 subst hv
 refine Ah ?_
 rintro ⟨y3a,y3b⟩ hy3
 dsimp only
 refine Ah ?_
 rintro ⟨y4a,y4b⟩ hy4
 dsimp only
 let o2:List (PC P (GU mx)):=o1++[Ak (up (NN hy3)),Ak (up (Nj hy4))]
 refine Ae (fun hv=>?_) fun hv=>?_
 subst hv
 refine Ae (fun hb1=>?_) fun hb1=>?_
 refine Ah fun y5 hy5=>?_
 refine Ae (fun hv=>?_) fun hv=>?_
 subst hv
 refine Ah fun y6 hy6=>?_
 refine Ah fun y7 hy7=>?_
 refine Ah fun y8 hy8=>?_
 intro h
 have hE:=Option.some.inj h
 subst hE
 exact rS (Ab 300 (o2++[pb hb1,Ak (up (Fp hy5)),Ak (up (NM hy6)),Ak (up (NG hy7)),Ak (up (Fp hy8))])) (by kernel_rfl)
 subst hv
 rintro ⟨⟩
 exact rS (Ab 300 (o2++[pb hb1,Ak (up (Fp hy5))])) (by kernel_rfl)
 rintro ⟨⟩
 exact rS (Ab 300 (o2++[pb hb1])) (by kernel_rfl)
 subst hv
 rintro ⟨⟩
 exact rS (Ab 300 o2) (by kernel_rfl)
 subst hv
 intro h
 have hE:=Option.some.inj h
 subst hE
 exact rS (Ab 300 o1) (by kernel_rfl)
noncomputable def B5:Code:=A3 Tryz.f5
theorem b5:Tryz.f5.body=some B5:=by kernel_rfl
noncomputable def B6:Code:=A3 Tryz.f6
theorem b6:Tryz.f6.body=some B6:=by kernel_rfl
end Mo
end Go.Proofs.YtkfplcngmiljaaaGreatDoor
namespace Go.Proofs.YtkfplcngmiljaaaGreatDoor
open AI Go
namespace Mo
set_option maxRecDepth 100000
set_option maxHeartbeats 4000000
theorem Vk {src a:Nd} {i:Nat} {ds:List Dg} (hl:src.kids.length≤9223372036854775807) (ha:src.kids[i]?=some a) (hk:a.kind=2∨a.kind=3) (hu:a.unit≠eS) (hd:ds.length≤20):BF ⟨src,ds⟩ ((i:Nat):Int) ((Bg a.kind (src.kids.take i):Nat):Int)=some ((),cap ds (IA (src.kids.take i) a)):=by
 have hi:=(List.getElem?_eq_some_iff.1 ha).1
 rw [BF]
 have hg:LC src.kids ((i:Nat):Int)=some a:=by unfold LC;rw [if_pos (by omega)];exact ha
 rw [hg]
 simp only [Option.bind_some]
 rw [VV]
 refine nT (fun z=>∃ k:Nat,z=((k:Nat):Int)∧k≤i∧∀ (j:Nat) b,j < k→src.kids[j]?=some b→¬ (b.kind=a.kind∧b.name=a.name)) (fun z=>i - z.toNat) ⟨0,rfl,Nat.zero_le _,fun j b h=>by omega⟩ ?_
 rintro z ⟨k,rfl,hki,hno⟩
 rw [CF]
 simp only [tZ,RP,QL]
 by_cases hlt:((k:Nat):Int) < ((i:Nat):Int)
 · rw [Ag hlt]
   have hk':k < src.kids.length:=by omega
   have hb:src.kids[k]?=some src.kids[k]:=List.getElem?_eq_getElem hk'
   have hg:LC src.kids ((k:Nat):Int)=some src.kids[k]:=by unfold LC;rw [if_pos (by omega)];exact hb
   rw [hg]
   generalize src.kids[k]=b at hb hg
   simp only [Option.bind_some]
   have next:∀ {Qx:Unit→Prop} {Qr:(Unit×List Dg)→Prop},¬ (b.kind=a.kind∧b.name=a.name)→Sp (some (Lp.nx (BH ((k:Nat):Int) 1)):Option (Lp Int Unit (Unit×List Dg))) (RQ (fun x'=>(∃ k:Nat,x'=((k:Nat):Int)∧k≤i∧∀ (j:Nat) b,j < k→src.kids[j]?=some b→¬ (b.kind=a.kind∧b.name=a.name))∧i - x'.toNat < i - (((k:Nat):Int)).toNat) Qx Qr):=by
     intro Qx Qr hn
     rw [CI (by omega)]
     refine ⟨_,rfl,⟨k+1,by omega,by omega,fun j b' hj hb'=>?_⟩,by omega⟩
     rcases Nat.lt_or_ge j k with h | h
     · exact hno j b' h hb'
     · obtain rfl:j=k:=by omega
       rw [hb] at hb';cases hb';exact hn
   by_cases h1:b.kind=a.kind
   · rw [Ag h1]
     by_cases h2:b.name=a.name
     · rw [Ag h2,H7 src hd]
       refine ⟨_,rfl,_,rfl,?_⟩
       unfold IA
       have hm:b∈src.kids.take i:=by
         refine List.mem_of_getElem? (i:=k) ?_
         rw [List.getElem?_take,if_pos (by omega)]
         exact hb
       rw [Ag hk,Ag ⟨b,hm,h1,h2⟩]
     · rw [Ad h2];exact next fun k=>h2 k.2
   · rw [Ad h1];exact next fun k=>h1 k.1
 · rw [Ad hlt]
   obtain rfl:k=i:=by omega
   refine ⟨_,rfl,?_⟩
   have hex:¬ ∃ b∈src.kids.take k,b.kind=a.kind∧b.name=a.name:=by
     rintro ⟨b,hb,h⟩
     obtain ⟨j,hj⟩:=List.getElem?_of_mem hb
     rw [List.getElem?_take] at hj
     split at hj
     · rename_i hjk;exact hno j b hjk hj h
     · cases hj
   show Sp (cond (KL 32 ((Bg a.kind (src.kids.take k):Nat):Int)) _ _) _
   unfold IA
   rw [sW,Ag hk,Ad hex]
   by_cases h3:32≤Bg a.kind (src.kids.take k)
   · rw [Ag (by omega),Ag h3,H7 src hd]
     exact ⟨_,rfl,rfl⟩
   rw [Ad (by omega),Ad h3]
   rw [H7 src hd,UT]
   simp only [Option.bind_some,Bo]
   have h0:cap ds []=ds:=Dr hd
   by_cases k3:a.kind=3
   · rw [Ag k3]
     by_cases h4:a.unit=AO
     · rw [Ag h4,Ag ⟨k3,.inl h4⟩];exact ⟨_,rfl,rfl⟩
     rw [Ad h4]
     by_cases h5:a.n=4
     · rw [Ag h5,Ad (fun q=>q.2.elim h4 fun r=>r.1 h5),h0];exact ⟨_,rfl,rfl⟩
     rw [Ad h5]
     by_cases h6:a.unit≠AO∧a.unit≠Bj∧a.unit≠B2
     · rw [Ag h6,Ad (fun q=>q.2.elim h4 fun r=>r.2 ((OE hu).2 h6)),h0];exact ⟨_,rfl,rfl⟩
     · rw [Ad h6,Ag ⟨k3,.inr ⟨h5,fun q=>h6 ((OE hu).1 q)⟩⟩];exact ⟨_,rfl,rfl⟩
   · rw [Ad k3,Ad (fun q=>k3 q.1),h0];exact ⟨_,rfl,rfl⟩
theorem eH (k:Int) (b:List Nd) (a:Nd):Bg k (b++[a])=Bg k b+Bg k [a]:=MO k b [a]
theorem TE {src:Nd} (hl:src.kids.length < 9223372036854775807) (hi:∀ a∈src.kids,Gg a):∀ {l b:List Nd} {ds:List Dg},src.kids=b++l→ds.length≤20 →
   AL (fun i y x=>Ew src i y x.1 x.2.1 x.2.2) (fun x=>x.2.2) l b.length (((Bg 2 b:Nat):Int),((Bg 3 b:Nat):Int),ds)=(some (.inl (cap ds (Ga b l))):Option (List Dg⊕List Dg))
 | [],b,ds,_,hd=>by rw [AL,Ga,Dr hd]
 | a::l,b,ds,he,hd=>by
   have hlen:src.kids.length=b.length+(l.length+1):=by rw [he];simp
   have hat:src.kids[b.length]?=some a:=by rw [he];simp
   have htk:src.kids.take b.length=b:=by rw [he];simp
   have hc2:=Kl 2 b
   have hc3:=Kl 3 b
   have ih:=fun ds (h:ds.length≤20)=>TE hl hi (l:=l) (b:=b++[a]) (ds:=ds) (by rw [he];simp) h
   rw [AL,Ew,Ga]
   simp only [RP]
   simp only [List.length_append,List.length_singleton,eH] at ih
   rcases SB (hi a (by rw [he];simp)) with k | k | k
   · obtain ⟨_,q2,_⟩:=(z7 k).1 (hi a (by rw [he];simp))
     have:=Vk (ds:=ds) (by omega) hat (.inl k) (RT q2) hd
     rw [k,htk] at this
     rw [Ag k,this]
     simp only [Option.bind_some]
     rw [CI (by omega)]
     show AL _ _ l (b.length+1) _=_
     have h2:Bg 2 [a]=1:=by simp [Bg,k]
     have h3:Bg 3 [a]=0:=by simp [Bg,k]
     rw [h2,h3] at ih
     have:=ih (cap ds (IA b a)) (C5 _ _)
     rw [DF] at this
     exact this
   · obtain ⟨_,q2,_⟩:=(zP k).1 (hi a (by rw [he];simp))
     have:=Vk (ds:=ds) (by omega) hat (.inr k) (RT q2) hd
     rw [k,htk] at this
     rw [Ad (by omega),Ag k,this]
     simp only [Option.bind_some]
     rw [CI (by omega)]
     show AL _ _ l (b.length+1) _=_
     have h2:Bg 2 [a]=0:=by simp [Bg,k]
     have h3:Bg 3 [a]=1:=by simp [Bg,k]
     rw [h2,h3] at ih
     have:=ih (cap ds (IA b a)) (C5 _ _)
     rw [DF] at this
     exact this
   · rw [Ad (by omega),Ad (by omega)]
     show AL _ _ l (b.length+1) _=_
     have h2:Bg 2 [a]=0:=by simp [Bg,k]
     have h3:Bg 3 [a]=0:=by simp [Bg,k]
     rw [h2,h3] at ih
     have hz:IA b a=[]:=by unfold IA;rw [Ad (by omega)]
     rw [hz,List.nil_append]
     exact ih ds hd
theorem gE {src a:Nd} {c:Nat} {ds:List Dg} (hl:src.kids.length≤9223372036854775807) (hd:ds.length≤20):Dj ⟨src,ds⟩ a ((c:Nat):Int)=some ((),cap ds (GX src c a)):=by
 obtain ⟨nd,h1,h2⟩:=OS hl 3 a.name
 obtain ⟨md,h3,h4⟩:=US hl a.n
 rw [Dj,h1,h3]
 simp only [Option.bind_some,H7 src hd,sW,Bo,QL,h4]
 unfold GX
 by_cases h5:60≤c
 · rw [Ag (by omega),Ag h5]
 rw [Ad (by omega),Ad h5]
 by_cases h6:fU 3 src.kids a.name=none
 · rw [Ad (fun k=>k h6),Ag h6]
 rw [Ag h6,Ad h6]
 by_cases h7:(fA src.kids a.n).getD eS=a.name
 · rw [Ag h7,Ad (fun k=>k h7),Dr hd]
 · rw [Ad h7,Ag h7]
theorem Wb {src k:Nd} {w:ByteArray} {ds:List Dg} (hl:src.kids.length≤9223372036854775807) (he:KH k) (hs:Ef k≤2000) (hd:ds.length≤20):CN ⟨src,ds⟩ k w=some ((),cap ds (TC src w k)):=by
 rw [CN,V0 hl he hs hd]
 simp only [Option.bind_some,QL,H7 src (C5 ds (Im src k).2),DF]
 unfold TC
 have h0:cap ds ((Im src k).2++[])=cap ds (Im src k).2:=by rw [List.append_nil]
 by_cases h1:(Im src k).1=eS
 · rw [Ag h1,Ad (fun q=>q.1 h1),h0]
 rw [Ad h1]
 by_cases h2:w=eS
 · rw [Ag h2,Ad (fun q=>q.2.1 h2),h0]
 rw [Ad h2]
 by_cases h3:(Im src k).1=w
 · rw [Ag h3,Ad (fun q=>q.2.2 h3),h0]
 · rw [Ad h3,Ag ⟨h1,h2,h3⟩]
theorem Ln {src a:Nd} {c:Cq} (hc:c.src=src) (hl:src.kids.length≤9223372036854775807):∀ {l:List Nd} {i:Nat} {ds:List Dg},ds.length≤20→AL (fun i y x=>CK c a i y x) (fun x=>x) l i ds=(some (.inl (cap ds (l.flatMap (Ff src a)))):Option (List Dg⊕(Unit×List Dg)))
 | [],i,ds,h=>by rw [AL,List.flatMap_nil,Dr h]
 | k::l,i,ds,h=>by
   obtain ⟨md,h3,h4⟩:=US hl k.n
   rw [AL,CK,hc,h3,H7 src h,H7 src h]
   simp only [Option.bind_some,RP,Bo]
   rw [List.flatMap_cons,← DF]
   unfold Ff
   by_cases h5:k.n=a.n
   · rw [Ag h5,Ag h5];exact Ln hc hl (C5 _ _)
   rw [Ad h5,Ad h5]
   by_cases h6:fA src.kids k.n=none
   · rw [Ad (fun q=>q h6),Ag h6];exact Ln hc hl (C5 _ _)
   · rw [Ag h6,Ad h6,Dr h];exact Ln hc hl h
theorem Xq {src a x:Nd} (hl:src.kids.length≤9223372036854775807) (hc:Bz x) (hs:Ef x≤2000) (h68:x.kind=6∨x.kind=7∨x.kind=8) {ds:List Dg} (hd:ds.length≤20):CV ⟨src,ds⟩ a x=some ((),cap ds (Hx src a x)):=by
 have hsz:=Dz x
 have hkl:=J7 x.kids
 rw [CV]
 simp only [RP]
 unfold Hx
 rcases h68 with k | k | k
 · obtain ⟨h1,h2⟩:=hc.2.2 (by omega)
   match hx:x.kids,h1 with
   | [y],_ =>
     rw [hx] at h2 hsz
     have hy:=FK (l:=[y]) (k:=y) (by simp)
     rw [Ag k,Ad (by omega),Ag k]
     simp only [List.getElem?_cons_zero,Option.bind_some,Wb hl (h2 y (by simp)) (by omega) hd,List.flatMap_cons,List.flatMap_nil,List.append_nil]
 · rw [Ad (by omega),Ad (by omega),Ag k,Ag k,DJ (by omega),List.drop_zero,Ln rfl hl hd]
   rfl
 · obtain ⟨h1,h2⟩:=hc.2.2 (by omega)
   obtain ⟨nd,h3,h4⟩:=OS hl 3 a.name
   match hx:x.kids,h1 with
   | [y],_ =>
     rw [hx] at h2 hsz
     have hy:=FK (l:=[y]) (k:=y) (by simp)
     rw [Ad (by omega),Ag k,Ad (by omega),Ad (by omega),h3]
     simp only [List.getElem?_cons_zero,Option.bind_some,Wb hl (h2 y (by simp)) (by omega) hd,h4,List.flatMap_cons,List.flatMap_nil,List.append_nil]
     rfl
theorem PI {src a:Nd} (hl:src.kids.length≤9223372036854775807):∀ {l:List Nd} {i:Nat} {ds:List Dg},(∀ x∈l,Bz x∧Ef x≤2000∧(x.kind=6∨x.kind=7∨x.kind=8))→ds.length≤20→AL (fun i y x=>FI src a i y x) (fun x=>x) l i ds=(some (.inl (cap ds (l.flatMap (Hx src a)))):Option (List Dg⊕List Dg))
 | [],i,ds,_,h=>by rw [AL,List.flatMap_nil,Dr h]
 | x::l,i,ds,hx,h=>by
   obtain ⟨h1,h2,h3⟩:=hx x (by simp)
   rw [AL,FI,Xq hl h1 h2 h3 h,List.flatMap_cons,← DF]
   exact PI hl (fun y hy=>hx y (by simp [hy])) (C5 _ _)
theorem RS {src:Nd} (hl:src.kids.length≤9223372036854775807):∀ {l:List Nd} {i c:Nat} {ds:List Dg},(∀ a∈l,Gg a∧Ef a≤2000)→c+l.length < 9223372036854775807→ds.length≤20 →
   AL (fun i y x=>DU src i y x.1 x.2) (fun x=>x.2) l i (((c:Nat):Int),ds)=(some (.inl (cap ds (LN src c l))):Option (List Dg⊕List Dg))
 | [],i,c,ds,_,_,h=>by rw [AL,LN,Dr h]
 | a::l,i,c,ds,ha,hc,h=>by
   simp only [List.length_cons] at hc
   obtain ⟨h1,h2⟩:=ha a (by simp)
   rw [AL,DU,LN,RP]
   unfold nN
   by_cases k:a.kind=4
   · rw [Ag k,Ag k,gE hl h]
     simp only [Option.bind_some]
     obtain ⟨_,_,_,h0,cs,e,q1,_,_,q4,q5⟩:=(vQ k).1 h1
     have hsz:=Dz a
     have hkl:=J7 a.kids
     rw [DJ (by omega)]
     have hcl:=PI hl (a:=a) (l:=a.kids.drop 1) (i:=1) (ds:=cap ds (GX src c a)) (fun x hx=>by
       have hm:x∈cs:=by rw [e] at hx;exact hx
       have hm2:x∈a.kids:=by rw [e];exact List.mem_cons_of_mem _ hm
       have:=FK hm2
       have hk:=q1 x hm
       exact ⟨q5 x hm,by omega,by omega⟩) (C5 _ _)
     rw [hcl,DF]
     have h4:Bg 4 [a]=1:=by simp [Bg,k]
     show AL _ _ l (i+1) (BH ((c:Nat):Int) 1,_)=_
     rw [CI (by omega),h4]
     have:=RS hl (l:=l) (i:=i+1) (c:=c+1) (ds:=cap ds (GX src c a++a.kids.tail.flatMap (Hx src a))) (fun y hy=>ha y (by simp [hy])) (by omega) (C5 _ _)
     rw [DF] at this
     rw [List.drop_one]
     exact this
   · rw [Ad k,Ad k,List.nil_append]
     have h4:Bg 4 [a]=0:=by simp [Bg,k]
     rw [h4]
     exact RS hl (l:=l) (i:=i+1) (c:=c) (ds:=ds) (fun y hy=>ha y (by simp [hy])) (by omega) h
theorem bJ {src:Nd} (hs:DC src):Gi src=some (Nu src):=by
 rw [Gi,QR hs]
 simp only [Option.bind_some,Bo]
 unfold Nu
 by_cases v1:src.kind=1∧N7 src
 rotate_left
 · rw [Ad v1,Ad v1]
 rw [Ag v1,Ag v1]
 obtain ⟨_,hit,hsz0,_⟩:=Y7 v1.2 v1.1
 have hsz:=Dz src
 have hkl:=J7 src.kids
 have h1:=TE (src:=src) (by omega) hit (l:=src.kids) (b:=[]) (ds:=[]) rfl (by simp)
 rw [DJ (by omega),List.drop_zero]
 have h1':AL (fun i y x=>Ew src i y x.1 x.2.1 x.2.2) (fun x=>x.2.2) src.kids 0 (0,0,[])=(some (.inl (cap [] (Ga [] src.kids))):Option (List Dg⊕List Dg)):=h1
 rw [h1']
 show (It src.kids.length (AL (fun i y x=>DU src i y x.1 x.2) (fun x=>x.2) (src.kids.drop 0) 0 (0,cap [] (Ga [] src.kids)))).bind _=_
 have h2:=RS (src:=src) (by omega) (l:=src.kids) (i:=0) (c:=0) (ds:=cap [] (Ga [] src.kids)) (fun a ha=>⟨hit a ha,by have:=FK ha;omega⟩) (by omega) (C5 _ _)
 rw [DJ (by omega),List.drop_zero]
 have h2':AL (fun i y x=>DU src i y x.1 x.2) (fun x=>x.2) src.kids 0 (0,cap [] (Ga [] src.kids))=(some (.inl (cap (cap [] (Ga [] src.kids)) (LN src 0 src.kids))):Option (List Dg⊕List Dg)):=h2
 rw [h2',DF]
 rfl
theorem T1 (src e:Nd):(NJ src e).2.length≤9223372036854775807:=by
 rw [QI]
 by_cases hc:(src.kind=1∧e.kind≠1)∧N7 src∧N7 e
 · rw [Ag hc];exact Nat.le_trans (C5 _ _) (by decide)
 · rw [Ad hc];simp
theorem SZ (src:Nd):(Nu src).length≤9223372036854775807:=by
 unfold Nu
 by_cases hc:src.kind=1∧N7 src
 · rw [Ag hc];exact Nat.le_trans (C5 _ _) (by decide)
 · rw [Ad hc];simp
theorem Ta (a b:List Dg) (ha:a.length≤9223372036854775807):Ds a b=some (mb (a=b)):=by
 rw [Ds,Bu,Bo]
 by_cases h:((a.length:Nat):Int)=((b.length:Nat):Int)
 · rw [Ag h,Io (v:=false) (P:=fun i y=>b[i]?=some y) ha (fun i y hy=>by
     have hi:i < a.length:=(List.getElem?_eq_some_iff.1 hy).1
     have hb:b[i]?=some b[i]:=List.getElem?_eq_getElem (by omega)
     simp only [ET]
     rw [hb]
     simp only [Option.bind_some]
     have hs:NB y b[i]=mb (b[i]?=some y):=by
       rw [Bool.eq_iff_iff,Bk,hb]
       unfold NB
       simp only [Bool.and_eq_true,J2,beq_iff_eq,Option.some.injEq]
       generalize b[i]=z
       cases y;cases z
       simp only [Dg.mk.injEq]
       grind
     rw [hs,Bo,SD,hb]),GF]
   refine Ke ⟨fun h2=>?_,fun h2 i y hy=>by rw [← h2];exact hy⟩
   apply List.ext_getElem?
   intro i
   by_cases hi:i < a.length
   · rw [List.getElem?_eq_getElem hi,h2 i _ (List.getElem?_eq_getElem hi)]
   · rw [List.getElem?_eq_none (by omega),List.getElem?_eq_none (by omega)]
 · rw [Ad h];exact H9 fun h2=>h (by rw [h2])
theorem Ji (src e:Nd) (hs:DC src) (he:DC e):Cv src e=some true:=by
 obtain ⟨b,hb⟩:=qK hs he
 rw [Cv,hb,fV hs he,fW hs he,dX hs,bJ hs]
 show cond b _ _=_
 cases b with
 | false=>rfl
 | true =>
 rw [cond_true]
 simp only [Option.bind_some,B8,Bo]
 rw [Ta _ _ (T1 _ _),Ta _ _ (SZ _)]
 simp only [Option.bind_some,Bo]
 show cond true _ _=_
 rw [cond_true,Ag trivial,Ag trivial,← iF]
end Mo
end Go.Proofs.YtkfplcngmiljaaaGreatDoor
