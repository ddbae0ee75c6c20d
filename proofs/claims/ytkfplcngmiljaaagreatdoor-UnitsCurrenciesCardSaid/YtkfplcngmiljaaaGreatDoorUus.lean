/- Part of a proof: see the last text. -/
import Derived.Test.YtkfplcngmiljaaaGreatDoorUur
import Derived.Test.YtkfplcngmiljaaaGreatDoorCards
import Derived.Test.YtkfplcngmiljaaaGreatDoorTie
import Derived.Lib.LaidTab
import Derived.Lib.LaidIn
import Derived.Shelf.Vars
set_option linter.unusedVariables false
set_option linter.unusedSimpArgs false
namespace Go.Proofs.YtkfplcngmiljaaaGreatDoor
open AI Go Go.RowKit LexS
theorem chunks {α:Type} {V:α→List Value} {k:Nat}:∀ {l:List α} {cs:List Value},cs.length=l.length*k→(∀ y,(V y).length=k)→(∀ (i:Nat) y,l[i]?=some y→(cs.drop (i*k)).take k=V y)→cs=l.flatMap V
 | [],cs,h,_,_=>by
   simp only [List.length_nil,Nat.zero_mul] at h
   rw [List.eq_nil_of_length_eq_zero h];rfl
 | a::l,cs,h,hV,hc=>by
   have h0:=hc 0 a rfl
   rw [Nat.zero_mul,List.drop_zero] at h0
   have ih:=chunks (V:=V) (k:=k) (l:=l) (cs:=cs.drop k) (by rw [List.length_drop,h,List.length_cons,Nat.succ_mul];omega) hV fun i y hy=>by
     rw [List.drop_drop]
     have:=hc (i+1) y (by simpa using hy)
     rwa [Nat.succ_mul,Nat.add_comm] at this
   rw [List.flatMap_cons,← h0,← ih,List.take_append_drop]
theorem I7 {α H:Type} {enc:TypeId×Value→H} {P:Program} {w:World} {base:Nat} {sp:Nat→Bool} {held:Bool} {fuel:Nat} {t e:TypeId} {n k:Nat} {cs:List Value} {l:List α} {p:List MemPlace} (D:α→DataW H) (V:α→List Value) (hV:∀ y,(V y).length=k)
   (hread:∀ f c y q,DataW.trod enc P w base sp held f e c=some (D y,q)→c=V y)
   (ht:P.underlying t=some (.array n e)) (hce:P.cellsOf e=k) (hct:P.cellsOf t=n*k) (h:DataW.trod enc P w base sp held fuel t cs=some (.agg (l.map D),p)):cs=l.flatMap V:=by
 obtain ⟨xs,m,_,hx,hl,hxl,hat⟩:=DataW.trod_array ht h
 have hd:l.map D=xs.map (·.1):=by
   have:=congrArg Prod.fst hx
   simpa using this
 have hll:l.length=n:=by
   have:=congrArg List.length hd
   simp at this
   omega
 rw [hct] at hl
 rw [hce] at hat
 refine chunks (by rw [hl,hll]) hV fun i y hy=>?_
 have hi:i < n:=by have:=(List.getElem?_eq_some_iff.1 hy).1;omega
 have h2:=hat i hi
 have hxi:xs[i]?=some xs[i]:=List.getElem?_eq_getElem (by omega)
 rw [hxi] at h2
 have h3:(l.map D)[i]?=(xs.map (·.1))[i]?:=by rw [hd]
 rw [List.getElem?_map,List.getElem?_map,hy,hxi] at h3
 simp only [Option.map_some,Option.some.injEq] at h3
 refine hread m _ y xs[i].2 ?_
 rw [h2,h3]
theorem Oo {H:Type} {enc:TypeId×Value→H} {w:World} {base:Nat} {sp:Nat→Bool} {held:Bool} (f:Nat) (c:List Value) (y:List UInt8) (q:List MemPlace) (hh:DataW.trod enc Tryz.prog w base sp held f 9 c=some (.lit (.string y),q)):c=[.string ⟨y.toArray⟩]:=by
 obtain ⟨z,hc,hz,_⟩:=DataW.trod_string Tryz.underlying9 hh
 simp only [Prod.mk.injEq,DataW.lit.injEq,Lit.string.injEq] at hz
 rw [hc,hz.1]
theorem Ka {W:World} {n:String} {g:Nat} {cs:Array Value} (hg:Tryz.prog.globalNamed n=some g) (h:W.var? Tryz.prog n=some cs):∃ t fr,W.heap[g]?=some (.cells cs t fr):=by
 unfold World.var? at h
 rw [hg] at h
 simp only [Option.bind_some] at h
 split at h
 · rename_i c t fr hh
   injection h with h
   subst h
   exact ⟨t,fr,hh⟩
 · cases h
theorem gB:Tryz.prog.globalNamed "wageoffice/calendar.before"=some 6:=by kernel_rfl
theorem gC:Tryz.prog.globalNamed "wageoffice/lexer.classes"=some 2:=by kernel_rfl
theorem gS:Tryz.prog.globalNamed "wageoffice/lexer.symbols"=some 0:=by kernel_rfl
theorem gO:Tryz.prog.globalNamed "wageoffice/parser.operators"=some 3:=by kernel_rfl
theorem gR:Tryz.prog.globalNamed "wageoffice/parser.roles"=some 1:=by kernel_rfl
theorem gBT:(Tryz.prog.globals[(6:Nat)]?).map (·.type)=some 195:=by kernel_rfl
theorem gCT:(Tryz.prog.globals[(2:Nat)]?).map (·.type)=some 149:=by kernel_rfl
theorem gST:(Tryz.prog.globals[(0:Nat)]?).map (·.type)=some 142:=by kernel_rfl
theorem gOT:(Tryz.prog.globals[(3:Nat)]?).map (·.type)=some 160:=by kernel_rfl
theorem gRT:(Tryz.prog.globals[(1:Nat)]?).map (·.type)=some 143:=by kernel_rfl
theorem zI:Tryz.prog.cellsOf 3=1:=by kernel_rfl
theorem zU:Tryz.prog.cellsOf 5=1:=by kernel_rfl
theorem zS:Tryz.prog.cellsOf 9=1:=by kernel_rfl
theorem zB:Tryz.prog.cellsOf 195=13*1:=by kernel_rfl
theorem zC:Tryz.prog.cellsOf 149=128*1:=by kernel_rfl
theorem zY:Tryz.prog.cellsOf 142=17*1:=by kernel_rfl
theorem z6:Tryz.prog.cellsOf 159=6*1:=by kernel_rfl
theorem zO:Tryz.prog.cellsOf 160=6*6:=by kernel_rfl
theorem zR:Tryz.prog.cellsOf 143=5*1:=by kernel_rfl
def rP:List Int:=[0,31,59,90,120,151,181,212,243,273,304,334,365]
def sO:List (List UInt8):=[[],[101,97,114,110],[100,101,100,117,99,116],[102,108,111,111,114],[105,110,102,111]]
def opsL:List (List (List UInt8)):=[[[111,114],[],[],[],[],[]],[[97,110,100],[],[],[],[],[]],[[],[],[],[],[],[]],[[61,61],[33,61],[60],[60,61],[62],[62,61]],[[43],[45],[],[],[],[]],[[42],[47],[97,116],[],[],[]]]
abbrev Q9 (y:List UInt8):DataW Unit:=.lit (.string y)
theorem vN:(Rows.laid_wageoffice_calendar_before:DataW Unit)=.agg (rP.map fun z=>.lit (.int .i64 z)):=by rfl
theorem vM:(Rows.laid_wageoffice_lexer_classes:DataW Unit)=.agg ((List.range 128).map fun i=>.lit (.int .u8 (ME i:Nat))):=by rfl
theorem uH:(Rows.laid_wageoffice_lexer_symbols:DataW Unit)=.agg (DJ.map Q9):=by rfl
theorem uF:(Rows.laid_wageoffice_parser_operators:DataW Unit)=.agg (opsL.map fun l=>.agg (l.map Q9)):=by rfl
theorem vG:(Rows.laid_wageoffice_parser_roles:DataW Unit)=.agg (sO.map Q9):=by rfl
theorem vT:((begin Tryz.prog (fun _ _=>0) default).world.heap[(7:Nat)]?).bind Obj.row?=some (#[.int .i64 0],3):=by kernel_rfl
theorem mA {W:World} (h:W.ShapedOpen Tryz.prog):∃ m,W.cell? ⟨7,0,none⟩=some (.int .i64 m):=by
 obtain ⟨m,hm⟩:=cell_of_shapedOpen_int h (g:=7) (by decide +kernel) vT rfl (by kernel_rfl) (by kernel_rfl) Tryz.underlying3
 exact ⟨m,hm⟩
theorem N0 (c:Cx) (w:World):∀ l:List (List UInt8),BD c w (l.map Ad) (l.flatMap fun y=>[.string ⟨y.toArray⟩])
 | []=>.nil
 | _::l=>.cons (.sc rfl) (N0 c w l)
theorem Vq (c:Cx) (w:World):∀ l:List Int,BD c w (l.map HdU.int) (l.flatMap fun y=>[.int .i64 y])
 | []=>.nil
 | _::l=>.cons (.sc rfl) (Vq c w l)
theorem Xp (c:Cx) (w:World):∀ l:List Nat,BD c w (l.map fun i=>.sc (.int .u8 (ME i:Nat))) (l.flatMap fun i=>[.int .u8 (ME i:Nat)])
 | []=>.nil
 | _::l=>.cons (.sc rfl) (Xp c w l)
theorem SJ (c:Cx) (w:World):∀ l:List (List (List UInt8)),BD c w (l.flatMap fun y=>y.map Ad) (l.flatMap fun y=>y.flatMap fun z=>[.string ⟨z.toArray⟩])
 | []=>.nil
 | a::l=>(N0 c w a).append (SJ c w l)
theorem O0 {W:World} {g:Nat} {l:List AV} {cs:Array Value} (h:∃ t fr,W.heap[g]?=some (.cells cs t fr)) (hr:BD (Mo.NX W) W l cs.toList):AH (Mo.NX W) W g 0 l:=by
 obtain ⟨t,fr,h⟩:=h
 refine AH.KJ hr fun i v hi=>Mo.nY ?_
 rw [Nat.zero_add,cell_of_row W g i cs t fr h]
 rwa [Array.getElem?_toList] at hi
theorem Ul {W:World} (h:laidMetH Tryz.prog Rows.unitsOperandsRow.laid W) (hsh:W.ShapedOpen Tryz.prog):∃ mx,St (HdU.G mx) (Mo.NX W) W s0:=by
 have h:laidMet Tryz.prog [("math/bits.deBruijn32tab",Rows.laid_math_bits_deBruijn32tab),("math/bits.deBruijn64tab",Rows.laid_math_bits_deBruijn64tab),("internal/strconv.uint64pow10",Rows.laid_internal_strconv_uint64pow10),("unicode/utf8.acceptRanges",Rows.laid_unicode_utf8_acceptRanges),("strconv.ErrRange",Rows.laid_strconv_ErrRange),("strconv.ErrSyntax",Rows.laid_strconv_ErrSyntax),("wageoffice/calendar.before",Rows.laid_wageoffice_calendar_before),("wageoffice/lexer.classes",Rows.laid_wageoffice_lexer_classes),("wageoffice/lexer.symbols",Rows.laid_wageoffice_lexer_symbols),("wageoffice/parser.operators",Rows.laid_wageoffice_parser_operators),("wageoffice/parser.roles",Rows.laid_wageoffice_parser_roles),("unicode/utf8.first",Rows.laid_unicode_utf8_first)] W:=h
 obtain ⟨ps,⟨_,_,_,_,_,_,_,_,_,_,⟨_,_,_,_,_,_,_,_,_,_,⟨_,_,_,_,_,_,_,_,_,_,⟨_,_,_,_,_,_,_,_,_,_,⟨_,_,_,_,_,_,_,_,_,_,⟨_,_,_,_,_,_,_,_,_,_,⟨g7,t7,cs7,f7,p7,q7,hg7,ht7,hv7,hd7,⟨g8,t8,cs8,f8,p8,q8,hg8,ht8,hv8,hd8,⟨g9,t9,cs9,f9,p9,q9,hg9,ht9,hv9,hd9,⟨g10,t10,cs10,f10,p10,q10,hg10,ht10,hv10,hd10,⟨g11,t11,cs11,f11,p11,q11,hg11,ht11,hv11,hd11,_⟩,_⟩,_⟩,_⟩,_⟩,_⟩,_⟩,_⟩,_⟩,_⟩,_⟩,_⟩:=h
 obtain rfl:=Option.some.inj (gB.symm.trans hg7)
 obtain rfl:=Option.some.inj (gC.symm.trans hg8)
 obtain rfl:=Option.some.inj (gS.symm.trans hg9)
 obtain rfl:=Option.some.inj (gO.symm.trans hg10)
 obtain rfl:=Option.some.inj (gR.symm.trans hg11)
 obtain rfl:=Option.some.inj (gBT.symm.trans ht7)
 obtain rfl:=Option.some.inj (gCT.symm.trans ht8)
 obtain rfl:=Option.some.inj (gST.symm.trans ht9)
 obtain rfl:=Option.some.inj (gOT.symm.trans ht10)
 obtain rfl:=Option.some.inj (gRT.symm.trans ht11)
 rw [vN] at hd7
 rw [vM] at hd8
 rw [uH] at hd9
 rw [uF] at hd10
 rw [vG] at hd11
 have e7:=I7 (k:=1) (fun z:Int=>(DataW.lit (.int .i64 z):DataW Unit)) (fun z=>[.int .i64 z]) (fun _=>rfl)
   (fun f c y q hh=>by obtain ⟨z,hc,hz,_⟩:=DataW.trod_int Tryz.underlying3 hh;simp only [Prod.mk.injEq,DataW.lit.injEq,Lit.int.injEq,true_and] at hz;rw [hc,hz.1]) Tryz.underlying195 zI zB hd7
 have e8:=I7 (k:=1) (fun i:Nat=>(DataW.lit (.int .u8 (ME i:Nat)):DataW Unit)) (fun i=>[.int .u8 (ME i:Nat)]) (fun _=>rfl)
   (fun f c y q hh=>by obtain ⟨z,hc,hz,_⟩:=DataW.trod_int Tryz.underlying5 hh;simp only [Prod.mk.injEq,DataW.lit.injEq,Lit.int.injEq,true_and] at hz;rw [hc,hz.1]) Tryz.underlying149 zU zC hd8
 have e9:=I7 (k:=1) Q9 (fun y=>[.string ⟨y.toArray⟩]) (fun _=>rfl) Oo Tryz.underlying142 zS zY hd9
 have tI:=I7 (k:=1) Q9 (fun y=>[.string ⟨y.toArray⟩]) (fun _=>rfl) Oo Tryz.underlying143 zS zR hd11
 have oH:cs10.toList=opsL.flatMap fun y=>y.flatMap fun z=>[.string ⟨z.toArray⟩]:=by
   obtain ⟨xs,m,_,hx,hl,hxl,hat⟩:=DataW.trod_array Tryz.underlying160 hd10
   have hd:(opsL.map fun l=>(DataW.agg (l.map Q9):DataW Unit))=xs.map (·.1):=by
     have:=congrArg Prod.fst hx
     simpa using this
   rw [zO] at hl
   rw [z6] at hat
   have len6:∀ y∈opsL,(y.flatMap fun z=>[(Value.string ⟨z.toArray⟩:Value)]).length=6:=by decide
   have hget:∀ (i:Nat) y,opsL[i]?=some y→(cs10.toList.drop (i*6)).take 6=y.flatMap fun z=>[.string ⟨z.toArray⟩]:=by
     intro i y hy
     have hi:i < 6:=(List.getElem?_eq_some_iff.1 hy).1
     have h2:=hat i hi
     have hxi:xs[i]?=some xs[i]:=List.getElem?_eq_getElem (by omega)
     rw [hxi] at h2
     have h3:(opsL.map fun l=>(DataW.agg (l.map Q9):DataW Unit))[i]?=(xs.map (·.1))[i]?:=by rw [hd]
     rw [List.getElem?_map,List.getElem?_map,hy,hxi] at h3
     simp only [Option.map_some,Option.some.injEq] at h3
     have h4:xs[i]=(.agg (y.map Q9),xs[i].2):=Prod.ext h3.symm rfl
     rw [h4] at h2
     exact I7 (k:=1) Q9 (fun y=>[.string ⟨y.toArray⟩]) (fun _=>rfl) Oo Tryz.underlying159 zS z6 h2
   have l6:∀ {l:List (List (List UInt8))} {cs:List Value},(∀ y∈l,(y.flatMap fun z=>[(Value.string ⟨z.toArray⟩:Value)]).length=6)→cs.length=l.length*6→(∀ (i:Nat) y,l[i]?=some y→(cs.drop (i*6)).take 6=y.flatMap fun z=>[.string ⟨z.toArray⟩])→cs=l.flatMap fun y=>y.flatMap fun z=>[.string ⟨z.toArray⟩]:=by
     intro l
     induction l with
     | nil=>intro cs _ h _;exact List.eq_nil_of_length_eq_zero (by simpa using h)
     | cons a l ih =>
       intro cs hq h hc
       have h0:=hc 0 a rfl
       rw [Nat.zero_mul,List.drop_zero] at h0
       have:=ih (cs:=cs.drop 6) (fun y hy=>hq y (by simp [hy])) (by rw [List.length_drop,h,List.length_cons,Nat.succ_mul];omega) fun i y hy=>by
         rw [List.drop_drop]
         have:=hc (i+1) y (by simpa using hy)
         rwa [Nat.succ_mul,Nat.add_comm] at this
       rw [List.flatMap_cons,← h0,← this,List.take_append_drop]
   exact l6 len6 (by rw [hl];rfl) hget
 obtain ⟨mx,hm⟩:=mA hsh
 have hst:=Mo.stW W
 refine ⟨mx,hst.len,hst.desc,hst.nodup,hst.low,hst.box,hst.rlen,hst.row,hst.rfree,hst.plow,hst.blow,hst.rdist,fun g cs h=>?_,hst.bsz⟩
 unfold HdU.G at h
 split at h
 · rename_i hg;cases h;rw [beq_true hg]
   exact O0 (Ka gO hv10) (by rw [oH];exact SJ _ _ opsL)
 · split at h
   · rename_i hg;cases h;rw [beq_true hg]
     exact O0 (Ka gR hv11) (by rw [tI];exact N0 _ _ sO)
   · split at h
     · rename_i hg;cases h;rw [beq_true hg]
       exact O0 (Ka gB hv7) (by rw [e7];exact Vq _ _ rP)
     · split at h
       · rename_i hg;cases h;rw [beq_true hg]
         exact O0 (Ka gC hv8) (by rw [e8];exact Xp _ _ _)
       · split at h
         · rename_i hg;cases h;rw [beq_true hg]
           exact O0 (Ka gS hv9) (by rw [e9];exact N0 _ _ _)
         · split at h
           · rename_i hg;cases h;rw [beq_true hg]
             exact .cons (Mo.nY hm) (.sc rfl) .nil
           · cases h
theorem Uz {mx:Int} {f:FuncId} {args:List AV} {vs:List Value} {W:World} (hst:St (HdU.G mx) (Mo.NX W) W s0) (h:Pure Tryz.prog (HdU.G mx) f args (.sc (.bool true))) (ha:BD (Mo.NX W) W args vs):Calls Tryz.prog f vs.toArray W fun e W'=>e=.returned (.bool true)∧Below W.heap.size W W':=by
 refine (h s0 (Mo.NX W) W vs hst ha).mono ?_
 rintro e w' ⟨c',hx,_,u,rfl,hu⟩
 cases hu
 exact ⟨rfl,hx.below⟩
def nU:DataW Unit→List Value
 | .lit l=>[l.value]
 | _=>[]
def pZ:DataW Unit→List Value
 | .agg l=>l.flatMap nU
 | d=>nU d
def K7:DataW Unit→Array Value
 | .agg l=>(l.flatMap pZ).toArray
 | d=>(nU d).toArray
def putCells (cs:Array Value):Obj→Obj
 | .cells _ t frozen=>.cells cs t frozen
 | o=>o
noncomputable def low:Nat:=(World.holding Tryz.prog default ⟨#[],#[],[]⟩).heap.size
abbrev s8:ByteArray:={ data:=#[118,97,108,117,101,32,111,117,116,32,111,102,32,114,97,110,103,101] }
abbrev sE:ByteArray:={ data:=#[105,110,118,97,108,105,100,32,115,121,110,116,97,120] }
noncomputable def MP (os:Os):World :=
 let w0:=World.holding Tryz.prog os ⟨#[.cells #[.string s8] 207,.cells #[.string sE] 207],#[],[]⟩
 { w0 with heap:=((((((((((((w0.heap.modify 11 (putCells (K7 Rows.laid_math_bits_deBruijn32tab))).modify
     12 (putCells (K7 Rows.laid_math_bits_deBruijn64tab))).modify
     10 (putCells (K7 Rows.laid_internal_strconv_uint64pow10))).modify
     9 (putCells (K7 Rows.laid_unicode_utf8_acceptRanges))).modify
     5 (putCells #[.iface 205 (.pointer (some ⟨low,0,none⟩))])).modify
     4 (putCells #[.iface 205 (.pointer (some ⟨low+1,0,none⟩))])).modify
     6 (putCells (K7 Rows.laid_wageoffice_calendar_before))).modify
     2 (putCells (K7 Rows.laid_wageoffice_lexer_classes))).modify
     0 (putCells (K7 Rows.laid_wageoffice_lexer_symbols))).modify
     3 (putCells (K7 Rows.laid_wageoffice_parser_operators))).modify
     1 (putCells (K7 Rows.laid_wageoffice_parser_roles))).modify
     8 (putCells (K7 Rows.laid_unicode_utf8_first))) }
theorem YA (os:Os) (args:Array Value):laidMet Tryz.prog Rows.unitsOperandsRow.laid ((MP os).forCall (fun _ _=>0) ⟨#[],args,[]⟩).memory :=
 laidMet_of_run3 8 (by kernel_rfl) (by kernel_rfl) (by kernel_rfl)
end Go.Proofs.YtkfplcngmiljaaaGreatDoor
namespace Go.Proofs.YtkfplcngmiljaaaGreatDoor
open AI
set_option maxRecDepth 100000
set_option maxHeartbeats 4000000
def k0:AV:=Ad [102,97,99,116,32,104,111,117,114,115,32,58,32,109,105,110,117,116,101,115,59,32,102,97,99,116,32,114,97,116,101,32,58,32,69,85,82,59,32,102,97,99,116,32,109,97,114,114,105,101,100,32,58,32,116,114,117,116,104,59,32,108,105,110,101,32,98,97,115,105,99,32,58,32,69,85,82,32,101,97,114,110,59,32,97,114,116,105,99,108,101,32,49,32,102,111,114,32,98,97,115,105,99,32,114,97,110,107,32,49,32,102,114,111,109,32,50,48,50,52,45,48,49,45,48,49,32,107,110,111,119,110,32,50,48,50,52,45,48,49,45,48,49,32,123,32,97,109,111,117,110,116,32,69,85,82,32,49,46,48,48,59,32,125]
def k1:AV:=Ad [109,105,110,117,116,101,115]
def k2:AV:=Ad [109,97,114,114,105,101,100]
def k3:AV:=Ad [97,114,116,105,99,108,101]
def k4:AV:=Ad [50,48,50,52,45,48,49,45,48,49]
def k5:AV:=.sl .lost 37 [(.sc (.int .i64 (.ofNat 1))),(Ad [102,97,99,116]),(.sc (.int .i64 (.ofNat 0))),(.sc (.int .i64 (.ofNat 1))),(Ad [104,111,117,114,115]),(.sc (.int .i64 (.ofNat 5))),(.sc (.int .i64 (.ofNat 6))),(Ad [58]),(.sc (.int .i64 (.ofNat 11))),(.sc (.int .i64 (.ofNat 1))),k1,(.sc (.int .i64 (.ofNat 13))),(.sc (.int .i64 (.ofNat 6))),(Ad [59]),(.sc (.int .i64 (.ofNat 20))),(.sc (.int .i64 (.ofNat 1))),(Ad [102,97,99,116]),(.sc (.int .i64 (.ofNat 22))),(.sc (.int .i64 (.ofNat 1))),(Ad [114,97,116,101]),(.sc (.int .i64 (.ofNat 27))),(.sc (.int .i64 (.ofNat 6))),(Ad [58]),(.sc (.int .i64 (.ofNat 32))),(.sc (.int .i64 (.ofNat 2))),(Ad [69,85,82]),(.sc (.int .i64 (.ofNat 34))),(.sc (.int .i64 (.ofNat 6))),(Ad [59]),(.sc (.int .i64 (.ofNat 37))),(.sc (.int .i64 (.ofNat 1))),(Ad [102,97,99,116]),(.sc (.int .i64 (.ofNat 39))),(.sc (.int .i64 (.ofNat 1))),k2,(.sc (.int .i64 (.ofNat 44))),(.sc (.int .i64 (.ofNat 6))),(Ad [58]),(.sc (.int .i64 (.ofNat 52))),(.sc (.int .i64 (.ofNat 1))),(Ad [116,114,117,116,104]),(.sc (.int .i64 (.ofNat 54))),(.sc (.int .i64 (.ofNat 6))),(Ad [59]),(.sc (.int .i64 (.ofNat 59))),(.sc (.int .i64 (.ofNat 1))),(Ad [108,105,110,101]),(.sc (.int .i64 (.ofNat 61))),(.sc (.int .i64 (.ofNat 1))),(Ad [98,97,115,105,99]),(.sc (.int .i64 (.ofNat 66))),(.sc (.int .i64 (.ofNat 6))),(Ad [58]),(.sc (.int .i64 (.ofNat 72))),(.sc (.int .i64 (.ofNat 2))),(Ad [69,85,82]),(.sc (.int .i64 (.ofNat 74))),(.sc (.int .i64 (.ofNat 1))),(Ad [101,97,114,110]),(.sc (.int .i64 (.ofNat 78))),(.sc (.int .i64 (.ofNat 6))),(Ad [59]),(.sc (.int .i64 (.ofNat 82))),(.sc (.int .i64 (.ofNat 1))),k3,(.sc (.int .i64 (.ofNat 84))),(.sc (.int .i64 (.ofNat 3))),(Ad [49]),(.sc (.int .i64 (.ofNat 92))),(.sc (.int .i64 (.ofNat 1))),(Ad [102,111,114]),(.sc (.int .i64 (.ofNat 94))),(.sc (.int .i64 (.ofNat 1))),(Ad [98,97,115,105,99]),(.sc (.int .i64 (.ofNat 98))),(.sc (.int .i64 (.ofNat 1))),(Ad [114,97,110,107]),(.sc (.int .i64 (.ofNat 104))),(.sc (.int .i64 (.ofNat 3))),(Ad [49]),(.sc (.int .i64 (.ofNat 109))),(.sc (.int .i64 (.ofNat 1))),(Ad [102,114,111,109]),(.sc (.int .i64 (.ofNat 111))),(.sc (.int .i64 (.ofNat 5))),k4,(.sc (.int .i64 (.ofNat 116))),(.sc (.int .i64 (.ofNat 1))),(Ad [107,110,111,119,110]),(.sc (.int .i64 (.ofNat 127))),(.sc (.int .i64 (.ofNat 5))),k4,(.sc (.int .i64 (.ofNat 133))),(.sc (.int .i64 (.ofNat 6))),(Ad [123]),(.sc (.int .i64 (.ofNat 144))),(.sc (.int .i64 (.ofNat 1))),(Ad [97,109,111,117,110,116]),(.sc (.int .i64 (.ofNat 146))),(.sc (.int .i64 (.ofNat 2))),(Ad [69,85,82]),(.sc (.int .i64 (.ofNat 153))),(.sc (.int .i64 (.ofNat 4))),(Ad [49,46,48,48]),(.sc (.int .i64 (.ofNat 157))),(.sc (.int .i64 (.ofNat 6))),(Ad [59]),(.sc (.int .i64 (.ofNat 161))),(.sc (.int .i64 (.ofNat 6))),(Ad [125]),(.sc (.int .i64 (.ofNat 163)))]
def k6:AV:=Ad [104,111,117,114,115,32,97,116,32,114,97,116,101,32,43,32,97,114,116,32,49]
def k7:AV:=.sl .lost 6 [(.sc (.int .i64 (.ofNat 1))),(Ad [104,111,117,114,115]),(.sc (.int .i64 (.ofNat 0))),(.sc (.int .i64 (.ofNat 1))),(Ad [97,116]),(.sc (.int .i64 (.ofNat 6))),(.sc (.int .i64 (.ofNat 1))),(Ad [114,97,116,101]),(.sc (.int .i64 (.ofNat 9))),(.sc (.int .i64 (.ofNat 6))),(Ad [43]),(.sc (.int .i64 (.ofNat 14))),(.sc (.int .i64 (.ofNat 1))),(Ad [97,114,116]),(.sc (.int .i64 (.ofNat 16))),(.sc (.int .i64 (.ofNat 3))),(Ad [49]),(.sc (.int .i64 (.ofNat 20)))]
def k8:AV:=Ad [104,111,117,114,115,32,62,32,56,32,109,105,110,32,97,110,100,32,109,97,114,114,105,101,100]
def k9:AV:=.sl .lost 6 [(.sc (.int .i64 (.ofNat 1))),(Ad [104,111,117,114,115]),(.sc (.int .i64 (.ofNat 0))),(.sc (.int .i64 (.ofNat 6))),(Ad [62]),(.sc (.int .i64 (.ofNat 6))),(.sc (.int .i64 (.ofNat 3))),(Ad [56]),(.sc (.int .i64 (.ofNat 8))),(.sc (.int .i64 (.ofNat 1))),(Ad [109,105,110]),(.sc (.int .i64 (.ofNat 10))),(.sc (.int .i64 (.ofNat 1))),(Ad [97,110,100]),(.sc (.int .i64 (.ofNat 14))),(.sc (.int .i64 (.ofNat 1))),k2,(.sc (.int .i64 (.ofNat 18)))]
def vH:AV:=Ad [110,111,116,32,109,97,114,114,105,101,100,32,61,61,32,116,114,117,101]
def W8:AV:=.sl .lost 4 [(.sc (.int .i64 (.ofNat 1))),(Ad [110,111,116]),(.sc (.int .i64 (.ofNat 0))),(.sc (.int .i64 (.ofNat 1))),k2,(.sc (.int .i64 (.ofNat 4))),(.sc (.int .i64 (.ofNat 6))),(Ad [61,61]),(.sc (.int .i64 (.ofNat 12))),(.sc (.int .i64 (.ofNat 1))),(Ad [116,114,117,101]),(.sc (.int .i64 (.ofNat 15)))]
def Vd:AV:=Ad [114,97,116,101,32,42,32,51,32,47,32,49,48,48]
def Zu:AV:=.sl .lost 5 [(.sc (.int .i64 (.ofNat 1))),(Ad [114,97,116,101]),(.sc (.int .i64 (.ofNat 0))),(.sc (.int .i64 (.ofNat 6))),(Ad [42]),(.sc (.int .i64 (.ofNat 5))),(.sc (.int .i64 (.ofNat 3))),(Ad [51]),(.sc (.int .i64 (.ofNat 7))),(.sc (.int .i64 (.ofNat 6))),(Ad [47]),(.sc (.int .i64 (.ofNat 9))),(.sc (.int .i64 (.ofNat 3))),(Ad [49,48,48]),(.sc (.int .i64 (.ofNat 11)))]
def XZ:AV:=Ad [50,32,42,32,104,111,117,114,115]
def Xr:AV:=.sl .lost 3 [(.sc (.int .i64 (.ofNat 3))),(Ad [50]),(.sc (.int .i64 (.ofNat 0))),(.sc (.int .i64 (.ofNat 6))),(Ad [42]),(.sc (.int .i64 (.ofNat 2))),(.sc (.int .i64 (.ofNat 1))),(Ad [104,111,117,114,115]),(.sc (.int .i64 (.ofNat 4)))]
def Vc:AV:=Ad [114,97,116,101,32,42,32,114,97,116,101]
def X6:AV:=.sl .lost 3 [(.sc (.int .i64 (.ofNat 1))),(Ad [114,97,116,101]),(.sc (.int .i64 (.ofNat 0))),(.sc (.int .i64 (.ofNat 6))),(Ad [42]),(.sc (.int .i64 (.ofNat 5))),(.sc (.int .i64 (.ofNat 1))),(Ad [114,97,116,101]),(.sc (.int .i64 (.ofNat 7)))]
def Zg:AV:=Ad [104,111,117,114,115,32,43,32,49]
def uY:AV:=.sl .lost 3 [(.sc (.int .i64 (.ofNat 1))),(Ad [104,111,117,114,115]),(.sc (.int .i64 (.ofNat 0))),(.sc (.int .i64 (.ofNat 6))),(Ad [43]),(.sc (.int .i64 (.ofNat 6))),(.sc (.int .i64 (.ofNat 3))),(Ad [49]),(.sc (.int .i64 (.ofNat 8)))]
def uW:AV:=.sl .lost 3 [(.sc (.int .i64 (.ofNat 1))),(Ad [120]),(.sc (.int .i64 (.ofNat 0))),(.sc (.int .i64 (.ofNat 6))),(Ad [43]),(.sc (.int .i64 (.ofNat 2))),(.sc (.int .i64 (.ofNat 3))),(Ad [49]),(.sc (.int .i64 (.ofNat 4)))]
def uJ:AV:=Ad [116,97,98,108,101,40,104,111,117,114,115,59,32,48,32,58,32,48,32,43,32,49,47,49,48,41]
def uU:AV:=.sl .lost 12 [(.sc (.int .i64 (.ofNat 1))),(Ad [116,97,98,108,101]),(.sc (.int .i64 (.ofNat 0))),(.sc (.int .i64 (.ofNat 6))),(Ad [40]),(.sc (.int .i64 (.ofNat 5))),(.sc (.int .i64 (.ofNat 1))),(Ad [104,111,117,114,115]),(.sc (.int .i64 (.ofNat 6))),(.sc (.int .i64 (.ofNat 6))),(Ad [59]),(.sc (.int .i64 (.ofNat 11))),(.sc (.int .i64 (.ofNat 3))),(Ad [48]),(.sc (.int .i64 (.ofNat 13))),(.sc (.int .i64 (.ofNat 6))),(Ad [58]),(.sc (.int .i64 (.ofNat 15))),(.sc (.int .i64 (.ofNat 3))),(Ad [48]),(.sc (.int .i64 (.ofNat 17))),(.sc (.int .i64 (.ofNat 6))),(Ad [43]),(.sc (.int .i64 (.ofNat 19))),(.sc (.int .i64 (.ofNat 3))),(Ad [49]),(.sc (.int .i64 (.ofNat 21))),(.sc (.int .i64 (.ofNat 6))),(Ad [47]),(.sc (.int .i64 (.ofNat 22))),(.sc (.int .i64 (.ofNat 3))),(Ad [49,48]),(.sc (.int .i64 (.ofNat 23))),(.sc (.int .i64 (.ofNat 6))),(Ad [41]),(.sc (.int .i64 (.ofNat 25)))]
def vF:AV:=Ad [108,101,97,115,116,40,114,97,116,101,44,32,69,85,82,32,49,46,48,48,41]
def uN:AV:=.sl .lost 7 [(.sc (.int .i64 (.ofNat 1))),(Ad [108,101,97,115,116]),(.sc (.int .i64 (.ofNat 0))),(.sc (.int .i64 (.ofNat 6))),(Ad [40]),(.sc (.int .i64 (.ofNat 5))),(.sc (.int .i64 (.ofNat 1))),(Ad [114,97,116,101]),(.sc (.int .i64 (.ofNat 6))),(.sc (.int .i64 (.ofNat 6))),(Ad [44]),(.sc (.int .i64 (.ofNat 10))),(.sc (.int .i64 (.ofNat 2))),(Ad [69,85,82]),(.sc (.int .i64 (.ofNat 12))),(.sc (.int .i64 (.ofNat 4))),(Ad [49,46,48,48]),(.sc (.int .i64 (.ofNat 16))),(.sc (.int .i64 (.ofNat 6))),(Ad [41]),(.sc (.int .i64 (.ofNat 20)))]
def zJ:AV:=Ad [102,97,99,116,32,104,111,117,114,115,32,58,32,109,105,110,117,116,101,115,59,32,102,97,99,116,32,114,97,116,101,32,58,32,69,85,82,59,32,102,97,99,116,32,109,97,114,114,105,101,100,32,58,32,116,114,117,116,104,59,32,108,105,110,101,32,98,97,115,105,99,32,58,32,69,85,82,32,101,97,114,110,59,32,97,114,116,105,99,108,101,32,49,32,102,111,114,32,98,97,115,105,99,32,114,97,110,107,32,49,32,102,114,111,109,32,50,48,50,52,45,48,49,45,48,49,32,107,110,111,119,110,32,50,48,50,52,45,48,49,45,48,49,32,123,32,97,109,111,117,110,116,32,69,85,82,32,49,46,48,48,59,32,125,32,108,105,110,101,32,98,97,115,105,99,32,58,32,110,117,109,98,101,114,32,105,110,102,111,59]
def Kp:AV:=.sl .lost 43 [(.sc (.int .i64 (.ofNat 1))),(Ad [102,97,99,116]),(.sc (.int .i64 (.ofNat 0))),(.sc (.int .i64 (.ofNat 1))),(Ad [104,111,117,114,115]),(.sc (.int .i64 (.ofNat 5))),(.sc (.int .i64 (.ofNat 6))),(Ad [58]),(.sc (.int .i64 (.ofNat 11))),(.sc (.int .i64 (.ofNat 1))),k1,(.sc (.int .i64 (.ofNat 13))),(.sc (.int .i64 (.ofNat 6))),(Ad [59]),(.sc (.int .i64 (.ofNat 20))),(.sc (.int .i64 (.ofNat 1))),(Ad [102,97,99,116]),(.sc (.int .i64 (.ofNat 22))),(.sc (.int .i64 (.ofNat 1))),(Ad [114,97,116,101]),(.sc (.int .i64 (.ofNat 27))),(.sc (.int .i64 (.ofNat 6))),(Ad [58]),(.sc (.int .i64 (.ofNat 32))),(.sc (.int .i64 (.ofNat 2))),(Ad [69,85,82]),(.sc (.int .i64 (.ofNat 34))),(.sc (.int .i64 (.ofNat 6))),(Ad [59]),(.sc (.int .i64 (.ofNat 37))),(.sc (.int .i64 (.ofNat 1))),(Ad [102,97,99,116]),(.sc (.int .i64 (.ofNat 39))),(.sc (.int .i64 (.ofNat 1))),k2,(.sc (.int .i64 (.ofNat 44))),(.sc (.int .i64 (.ofNat 6))),(Ad [58]),(.sc (.int .i64 (.ofNat 52))),(.sc (.int .i64 (.ofNat 1))),(Ad [116,114,117,116,104]),(.sc (.int .i64 (.ofNat 54))),(.sc (.int .i64 (.ofNat 6))),(Ad [59]),(.sc (.int .i64 (.ofNat 59))),(.sc (.int .i64 (.ofNat 1))),(Ad [108,105,110,101]),(.sc (.int .i64 (.ofNat 61))),(.sc (.int .i64 (.ofNat 1))),(Ad [98,97,115,105,99]),(.sc (.int .i64 (.ofNat 66))),(.sc (.int .i64 (.ofNat 6))),(Ad [58]),(.sc (.int .i64 (.ofNat 72))),(.sc (.int .i64 (.ofNat 2))),(Ad [69,85,82]),(.sc (.int .i64 (.ofNat 74))),(.sc (.int .i64 (.ofNat 1))),(Ad [101,97,114,110]),(.sc (.int .i64 (.ofNat 78))),(.sc (.int .i64 (.ofNat 6))),(Ad [59]),(.sc (.int .i64 (.ofNat 82))),(.sc (.int .i64 (.ofNat 1))),k3,(.sc (.int .i64 (.ofNat 84))),(.sc (.int .i64 (.ofNat 3))),(Ad [49]),(.sc (.int .i64 (.ofNat 92))),(.sc (.int .i64 (.ofNat 1))),(Ad [102,111,114]),(.sc (.int .i64 (.ofNat 94))),(.sc (.int .i64 (.ofNat 1))),(Ad [98,97,115,105,99]),(.sc (.int .i64 (.ofNat 98))),(.sc (.int .i64 (.ofNat 1))),(Ad [114,97,110,107]),(.sc (.int .i64 (.ofNat 104))),(.sc (.int .i64 (.ofNat 3))),(Ad [49]),(.sc (.int .i64 (.ofNat 109))),(.sc (.int .i64 (.ofNat 1))),(Ad [102,114,111,109]),(.sc (.int .i64 (.ofNat 111))),(.sc (.int .i64 (.ofNat 5))),k4,(.sc (.int .i64 (.ofNat 116))),(.sc (.int .i64 (.ofNat 1))),(Ad [107,110,111,119,110]),(.sc (.int .i64 (.ofNat 127))),(.sc (.int .i64 (.ofNat 5))),k4,(.sc (.int .i64 (.ofNat 133))),(.sc (.int .i64 (.ofNat 6))),(Ad [123]),(.sc (.int .i64 (.ofNat 144))),(.sc (.int .i64 (.ofNat 1))),(Ad [97,109,111,117,110,116]),(.sc (.int .i64 (.ofNat 146))),(.sc (.int .i64 (.ofNat 2))),(Ad [69,85,82]),(.sc (.int .i64 (.ofNat 153))),(.sc (.int .i64 (.ofNat 4))),(Ad [49,46,48,48]),(.sc (.int .i64 (.ofNat 157))),(.sc (.int .i64 (.ofNat 6))),(Ad [59]),(.sc (.int .i64 (.ofNat 161))),(.sc (.int .i64 (.ofNat 6))),(Ad [125]),(.sc (.int .i64 (.ofNat 163))),(.sc (.int .i64 (.ofNat 1))),(Ad [108,105,110,101]),(.sc (.int .i64 (.ofNat 165))),(.sc (.int .i64 (.ofNat 1))),(Ad [98,97,115,105,99]),(.sc (.int .i64 (.ofNat 170))),(.sc (.int .i64 (.ofNat 6))),(Ad [58]),(.sc (.int .i64 (.ofNat 176))),(.sc (.int .i64 (.ofNat 1))),(Ad [110,117,109,98,101,114]),(.sc (.int .i64 (.ofNat 178))),(.sc (.int .i64 (.ofNat 1))),(Ad [105,110,102,111]),(.sc (.int .i64 (.ofNat 185))),(.sc (.int .i64 (.ofNat 6))),(Ad [59]),(.sc (.int .i64 (.ofNat 189)))]
def zN:AV:=.sl .full 2 [(.sc (.int .i64 (.ofNat 12))),(Ad [104,111,117,114,115]),(Ad []),(.sc (.int .i64 (.ofNat 0))),(.sc (.int .i64 (.ofNat 0))),(.sc (.int .i64 (.ofNat 0))),(.sc (.int .i64 (.ofNat 0))),(.sc (.int .i64 (.ofNat 0))),(.sl .full 0 []),(.sl .full 0 []),(.sc (.int .i64 (.ofNat 0))),(.sc (.int .i64 (.ofNat 12))),(Ad [114,97,116,101]),(Ad []),(.sc (.int .i64 (.ofNat 0))),(.sc (.int .i64 (.ofNat 0))),(.sc (.int .i64 (.ofNat 0))),(.sc (.int .i64 (.ofNat 0))),(.sc (.int .i64 (.ofNat 0))),(.sl .full 0 []),(.sl .full 0 []),(.sc (.int .i64 (.ofNat 9)))]
def oG:AV:=.sl .full 2 [(.sc (.int .i64 (.ofNat 16))),(Ad [97,116]),(Ad []),(.sc (.int .i64 (.ofNat 0))),(.sc (.int .i64 (.ofNat 0))),(.sc (.int .i64 (.ofNat 0))),(.sc (.int .i64 (.ofNat 0))),(.sc (.int .i64 (.ofNat 0))),(.sl .full 0 []),zN,(.sc (.int .i64 (.ofNat 0))),(.sc (.int .i64 (.ofNat 13))),(Ad []),(Ad []),(.sc (.int .i64 (.ofNat 1))),(.sc (.int .i64 (.ofNat 0))),(.sc (.int .i64 (.ofNat 0))),(.sc (.int .i64 (.ofNat 0))),(.sc (.int .i64 (.ofNat 0))),(.sl .full 0 []),(.sl .full 0 []),(.sc (.int .i64 (.ofNat 16)))]
def k29:AV:=.sl .full 2 [(.sc (.int .i64 (.ofNat 11))),(Ad []),k1,(.sc (.int .i64 (.ofNat 8))),(.sc (.int .i64 (.ofNat 0))),(.sc (.int .i64 (.ofNat 0))),(.sc (.int .i64 (.ofNat 0))),(.sc (.int .i64 (.ofNat 0))),(.sl .full 0 []),(.sl .full 0 []),(.sc (.int .i64 (.ofNat 8))),(.sc (.int .i64 (.ofNat 12))),(Ad [104,111,117,114,115]),(Ad []),(.sc (.int .i64 (.ofNat 0))),(.sc (.int .i64 (.ofNat 0))),(.sc (.int .i64 (.ofNat 0))),(.sc (.int .i64 (.ofNat 0))),(.sc (.int .i64 (.ofNat 0))),(.sl .full 0 []),(.sl .full 0 []),(.sc (.int .i64 (.ofNat 0)))]
def oX:AV:=.sl .full 2 [(.sc (.int .i64 (.ofNat 16))),(Ad [60]),(Ad []),(.sc (.int .i64 (.ofNat 0))),(.sc (.int .i64 (.ofNat 0))),(.sc (.int .i64 (.ofNat 0))),(.sc (.int .i64 (.ofNat 0))),(.sc (.int .i64 (.ofNat 0))),(.sl .full 0 []),k29,(.sc (.int .i64 (.ofNat 0))),(.sc (.int .i64 (.ofNat 12))),k2,(Ad []),(.sc (.int .i64 (.ofNat 0))),(.sc (.int .i64 (.ofNat 0))),(.sc (.int .i64 (.ofNat 0))),(.sc (.int .i64 (.ofNat 0))),(.sc (.int .i64 (.ofNat 0))),(.sl .full 0 []),(.sl .full 0 []),(.sc (.int .i64 (.ofNat 18)))]
def k31:AV:=.sl .full 2 [(.sc (.int .i64 (.ofNat 12))),k2,(Ad []),(.sc (.int .i64 (.ofNat 0))),(.sc (.int .i64 (.ofNat 0))),(.sc (.int .i64 (.ofNat 0))),(.sc (.int .i64 (.ofNat 0))),(.sc (.int .i64 (.ofNat 0))),(.sl .full 0 []),(.sl .full 0 []),(.sc (.int .i64 (.ofNat 4))),(.sc (.int .i64 (.ofNat 11))),(Ad []),(Ad [116,114,117,116,104]),(.sc (.int .i64 (.ofNat 1))),(.sc (.int .i64 (.ofNat 0))),(.sc (.int .i64 (.ofNat 0))),(.sc (.int .i64 (.ofNat 0))),(.sc (.int .i64 (.ofNat 0))),(.sl .full 0 []),(.sl .full 0 []),(.sc (.int .i64 (.ofNat 15)))]
def oP:AV:=.sl .full 1 [(.sc (.int .i64 (.ofNat 16))),(Ad [61,61]),(Ad []),(.sc (.int .i64 (.ofNat 0))),(.sc (.int .i64 (.ofNat 0))),(.sc (.int .i64 (.ofNat 0))),(.sc (.int .i64 (.ofNat 0))),(.sc (.int .i64 (.ofNat 0))),(.sl .full 0 []),k31,(.sc (.int .i64 (.ofNat 4)))]
def k33:AV:=.sl .full 2 [(.sc (.int .i64 (.ofNat 12))),(Ad [114,97,116,101]),(Ad []),(.sc (.int .i64 (.ofNat 0))),(.sc (.int .i64 (.ofNat 0))),(.sc (.int .i64 (.ofNat 0))),(.sc (.int .i64 (.ofNat 0))),(.sc (.int .i64 (.ofNat 0))),(.sl .full 0 []),(.sl .full 0 []),(.sc (.int .i64 (.ofNat 0))),(.sc (.int .i64 (.ofNat 11))),(Ad []),(Ad [110,117,109,98,101,114]),(.sc (.int .i64 (.ofNat 3))),(.sc (.int .i64 (.ofNat 0))),(.sc (.int .i64 (.ofNat 0))),(.sc (.int .i64 (.ofNat 0))),(.sc (.int .i64 (.ofNat 0))),(.sl .full 0 []),(.sl .full 0 []),(.sc (.int .i64 (.ofNat 7)))]
def oK:AV:=.sl .full 2 [(.sc (.int .i64 (.ofNat 16))),(Ad [42]),(Ad []),(.sc (.int .i64 (.ofNat 0))),(.sc (.int .i64 (.ofNat 0))),(.sc (.int .i64 (.ofNat 0))),(.sc (.int .i64 (.ofNat 0))),(.sc (.int .i64 (.ofNat 0))),(.sl .full 0 []),k33,(.sc (.int .i64 (.ofNat 0))),(.sc (.int .i64 (.ofNat 11))),(Ad []),(Ad [110,117,109,98,101,114]),(.sc (.int .i64 (.ofNat 100))),(.sc (.int .i64 (.ofNat 0))),(.sc (.int .i64 (.ofNat 0))),(.sc (.int .i64 (.ofNat 0))),(.sc (.int .i64 (.ofNat 0))),(.sl .full 0 []),(.sl .full 0 []),(.sc (.int .i64 (.ofNat 11)))]
def e0:BU:=⟨43,[k0],none,(.Br [k5,(.sc (.int .i64 (.ofNat 0))),(.sc (.int .i64 (.ofNat 0)))])⟩
theorem sD {mx:Int}:Aw Tryz.prog (HdU.G mx) e0:=HdU.Fb _ _ (by kernel_rfl)
def e1:BU:=⟨143,[(Ad [49,46,48,48]),(Ad [46]),(Ad []),(.sc (.int .i64 (.ofNat 1)))],none,(Ad [49,48,48])⟩
theorem Iv {mx:Int}:Aw Tryz.prog (HdU.G mx) e1:=HdU.OE _ _ _ _ _ (by kernel_rfl) (by kernel_rfl) (by kernel_rfl)
def e2:BU:=⟨43,[k6],none,(.Br [k7,(.sc (.int .i64 (.ofNat 0))),(.sc (.int .i64 (.ofNat 0)))])⟩
theorem s5 {mx:Int}:Aw Tryz.prog (HdU.G mx) e2:=HdU.Fb _ _ (by kernel_rfl)
def e3:BU:=⟨43,[k8],none,(.Br [k9,(.sc (.int .i64 (.ofNat 0))),(.sc (.int .i64 (.ofNat 0)))])⟩
theorem pL {mx:Int}:Aw Tryz.prog (HdU.G mx) e3:=HdU.Fb _ _ (by kernel_rfl)
def e4:BU:=⟨43,[vH],none,(.Br [W8,(.sc (.int .i64 (.ofNat 0))),(.sc (.int .i64 (.ofNat 0)))])⟩
theorem sW {mx:Int}:Aw Tryz.prog (HdU.G mx) e4:=HdU.Fb _ _ (by kernel_rfl)
def e5:BU:=⟨43,[Vd],none,(.Br [Zu,(.sc (.int .i64 (.ofNat 0))),(.sc (.int .i64 (.ofNat 0)))])⟩
theorem sU {mx:Int}:Aw Tryz.prog (HdU.G mx) e5:=HdU.Fb _ _ (by kernel_rfl)
def e6:BU:=⟨43,[XZ],none,(.Br [Xr,(.sc (.int .i64 (.ofNat 0))),(.sc (.int .i64 (.ofNat 0)))])⟩
theorem sM {mx:Int}:Aw Tryz.prog (HdU.G mx) e6:=HdU.Fb _ _ (by kernel_rfl)
def e7:BU:=⟨43,[Vc],none,(.Br [X6,(.sc (.int .i64 (.ofNat 0))),(.sc (.int .i64 (.ofNat 0)))])⟩
theorem r6 {mx:Int}:Aw Tryz.prog (HdU.G mx) e7:=HdU.Fb _ _ (by kernel_rfl)
def e8:BU:=⟨43,[Zg],none,(.Br [uY,(.sc (.int .i64 (.ofNat 0))),(.sc (.int .i64 (.ofNat 0)))])⟩
theorem pI {mx:Int}:Aw Tryz.prog (HdU.G mx) e8:=HdU.Fb _ _ (by kernel_rfl)
def e9:BU:=⟨43,[(Ad [120,32,43,32,49])],none,(.Br [uW,(.sc (.int .i64 (.ofNat 0))),(.sc (.int .i64 (.ofNat 0)))])⟩
theorem qN {mx:Int}:Aw Tryz.prog (HdU.G mx) e9:=HdU.Fb _ _ (by kernel_rfl)
def oH:BU:=⟨43,[(Ad [97,114,116,32,50])],none,(.Br [(.sl .lost 2 [(.sc (.int .i64 (.ofNat 1))),(Ad [97,114,116]),(.sc (.int .i64 (.ofNat 0))),(.sc (.int .i64 (.ofNat 3))),(Ad [50]),(.sc (.int .i64 (.ofNat 4)))]),(.sc (.int .i64 (.ofNat 0))),(.sc (.int .i64 (.ofNat 0)))])⟩
theorem l4 {mx:Int}:Aw Tryz.prog (HdU.G mx) oH:=HdU.Fb _ _ (by kernel_rfl)
def tI:BU:=⟨43,[uJ],none,(.Br [uU,(.sc (.int .i64 (.ofNat 0))),(.sc (.int .i64 (.ofNat 0)))])⟩
theorem n3 {mx:Int}:Aw Tryz.prog (HdU.G mx) tI:=HdU.Fb _ _ (by kernel_rfl)
def yZ:BU:=⟨43,[vF],none,(.Br [uN,(.sc (.int .i64 (.ofNat 0))),(.sc (.int .i64 (.ofNat 0)))])⟩
theorem j8 {mx:Int}:Aw Tryz.prog (HdU.G mx) yZ:=HdU.Fb _ _ (by kernel_rfl)
def wZ:BU:=⟨43,[zJ],none,(.Br [Kp,(.sc (.int .i64 (.ofNat 0))),(.sc (.int .i64 (.ofNat 0)))])⟩
theorem mU {mx:Int}:Aw Tryz.prog (HdU.G mx) wZ:=HdU.Fb _ _ (by kernel_rfl)
def QB:BU:=⟨137,[(Ad [48])],none,(.Br [(.sc (.int .i64 (.ofNat 0))),(.sc .nilIface)])⟩
theorem Ep {mx:Int}:Aw Tryz.prog (HdU.G mx) QB:=HdU.Iu _ _ (by kernel_rfl) (by kernel_rfl)
def P9:BU:=⟨137,[(Ad [49])],none,(.Br [(.sc (.int .i64 (.ofNat 1))),(.sc .nilIface)])⟩
theorem Eu {mx:Int}:Aw Tryz.prog (HdU.G mx) P9:=HdU.Iu _ _ (by kernel_rfl) (by kernel_rfl)
def QH:BU:=⟨137,[(Ad [49,48])],none,(.Br [(.sc (.int .i64 (.ofNat 10))),(.sc .nilIface)])⟩
theorem Ev {mx:Int}:Aw Tryz.prog (HdU.G mx) QH:=HdU.Iu _ _ (by kernel_rfl) (by kernel_rfl)
def QQ:BU:=⟨137,[(Ad [49,48,48])],none,(.Br [(.sc (.int .i64 (.ofNat 100))),(.sc .nilIface)])⟩
theorem Er {mx:Int}:Aw Tryz.prog (HdU.G mx) QQ:=HdU.Iu _ _ (by kernel_rfl) (by kernel_rfl)
def QL:BU:=⟨137,[(Ad [50])],none,(.Br [(.sc (.int .i64 (.ofNat 2))),(.sc .nilIface)])⟩
theorem Ew {mx:Int}:Aw Tryz.prog (HdU.G mx) QL:=HdU.Iu _ _ (by kernel_rfl) (by kernel_rfl)
def Ql:BU:=⟨137,[(Ad [51])],none,(.Br [(.sc (.int .i64 (.ofNat 3))),(.sc .nilIface)])⟩
theorem Eo {mx:Int}:Aw Tryz.prog (HdU.G mx) Ql:=HdU.Iu _ _ (by kernel_rfl) (by kernel_rfl)
def P0:BU:=⟨137,[(Ad [56])],none,(.Br [(.sc (.int .i64 (.ofNat 8))),(.sc .nilIface)])⟩
theorem Em {mx:Int}:Aw Tryz.prog (HdU.G mx) P0:=HdU.Iu _ _ (by kernel_rfl) (by kernel_rfl)
def Tq:BU:=⟨143,[(Ad [62]),(Ad [62]),(Ad [60]),(.sc (.int .i64 (.ofNat 1)))],none,(Ad [60])⟩
theorem FU {mx:Int}:Aw Tryz.prog (HdU.G mx) Tq:=HdU.OE _ _ _ _ _ (by kernel_rfl) (by kernel_rfl) (by kernel_rfl)
def Tn:BU:=⟨143,[(Ad [48]),(Ad [46]),(Ad []),(.sc (.int .i64 (.ofNat 1)))],none,(Ad [48])⟩
theorem FW {mx:Int}:Aw Tryz.prog (HdU.G mx) Tn:=HdU.OE _ _ _ _ _ (by kernel_rfl) (by kernel_rfl) (by kernel_rfl)
def xD:BU:=⟨75,[],(some ([k7,(.sc (.int .i64 (.ofNat 0))),(.sc (.int .i64 (.ofNat 21)))],[k7,(.sc (.int .i64 (.ofNat 6))),(.sc (.int .i64 (.ofNat 21)))])),(.agg [(.sc (.int .i64 (.ofNat 16))),(Ad [43]),(Ad []),(.sc (.int .i64 (.ofNat 0))),(.sc (.int .i64 (.ofNat 0))),(.sc (.int .i64 (.ofNat 0))),(.sc (.int .i64 (.ofNat 0))),(.sc (.int .i64 (.ofNat 0))),(.sl .full 0 []),oG,(.sc (.int .i64 (.ofNat 0)))])⟩
theorem j9 {mx:Int}:Aw Tryz.prog (HdU.G mx) xD:=HdU.entry (l:=[e1,QB,P9,QH,QQ,QL,Ql,P0,Tq,Tn]) (m:=1000000) (Ab.cons Iv (Ab.cons Ep (Ab.cons Eu (Ab.cons Ev (Ab.cons Er (Ab.cons Ew (Ab.cons Eo (Ab.cons Em (Ab.cons FU (Ab.cons FW HdU.none)))))))))) (by kernel_rfl) (by kernel_rfl)
def W7:BU:=⟨47,[(.agg [(.sc (.int .i64 (.ofNat 16))),(Ad [43]),(Ad []),(.sc (.int .i64 (.ofNat 0))),(.sc (.int .i64 (.ofNat 0))),(.sc (.int .i64 (.ofNat 0))),(.sc (.int .i64 (.ofNat 0))),(.sc (.int .i64 (.ofNat 0))),(.sl .full 0 []),oG,(.sc (.int .i64 (.ofNat 0)))])],none,(.Br [(.agg [(.sc (.int .i64 (.ofNat 16))),(Ad [43]),(Ad []),(.sc (.int .i64 (.ofNat 0))),(.sc (.int .i64 (.ofNat 0))),(.sc (.int .i64 (.ofNat 0))),(.sc (.int .i64 (.ofNat 0))),(.sc (.int .i64 (.ofNat 0))),(.sl .full 0 []),oG,(.sc (.int .i64 (.ofNat 0)))]),(.sl .full 0 [])])⟩
theorem Iw {mx:Int}:Aw Tryz.prog (HdU.G mx) W7:=HdU.entry (l:=[]) (m:=1000000) HdU.none (by kernel_rfl) (by kernel_rfl)
def xH:BU:=⟨48,[k6],none,(.Br [(.agg [(.sc (.int .i64 (.ofNat 16))),(Ad [43]),(Ad []),(.sc (.int .i64 (.ofNat 0))),(.sc (.int .i64 (.ofNat 0))),(.sc (.int .i64 (.ofNat 0))),(.sc (.int .i64 (.ofNat 0))),(.sc (.int .i64 (.ofNat 0))),(.sl .full 0 []),oG,(.sc (.int .i64 (.ofNat 0)))]),(.sl .full 0 [])])⟩
theorem nC {mx:Int}:Aw Tryz.prog (HdU.G mx) xH:=HdU.entry (l:=[e2,xD,W7]) (m:=1000000) (Ab.cons s5 (Ab.cons j9 (Ab.cons Iw HdU.none))) (by kernel_rfl) (by kernel_rfl)
def yY:BU:=⟨75,[],(some ([k9,(.sc (.int .i64 (.ofNat 0))),(.sc (.int .i64 (.ofNat 25)))],[k9,(.sc (.int .i64 (.ofNat 6))),(.sc (.int .i64 (.ofNat 25)))])),(.agg [(.sc (.int .i64 (.ofNat 16))),(Ad [97,110,100]),(Ad []),(.sc (.int .i64 (.ofNat 0))),(.sc (.int .i64 (.ofNat 0))),(.sc (.int .i64 (.ofNat 0))),(.sc (.int .i64 (.ofNat 0))),(.sc (.int .i64 (.ofNat 0))),(.sl .full 0 []),oX,(.sc (.int .i64 (.ofNat 0)))])⟩
theorem kB {mx:Int}:Aw Tryz.prog (HdU.G mx) yY:=HdU.entry (l:=[e1,QB,P9,QH,QQ,QL,Ql,P0,Tq,Tn]) (m:=1000000) (Ab.cons Iv (Ab.cons Ep (Ab.cons Eu (Ab.cons Ev (Ab.cons Er (Ab.cons Ew (Ab.cons Eo (Ab.cons Em (Ab.cons FU (Ab.cons FW HdU.none)))))))))) (by kernel_rfl) (by kernel_rfl)
def XN:BU:=⟨47,[(.agg [(.sc (.int .i64 (.ofNat 16))),(Ad [97,110,100]),(Ad []),(.sc (.int .i64 (.ofNat 0))),(.sc (.int .i64 (.ofNat 0))),(.sc (.int .i64 (.ofNat 0))),(.sc (.int .i64 (.ofNat 0))),(.sc (.int .i64 (.ofNat 0))),(.sl .full 0 []),oX,(.sc (.int .i64 (.ofNat 0)))])],none,(.Br [(.agg [(.sc (.int .i64 (.ofNat 16))),(Ad [97,110,100]),(Ad []),(.sc (.int .i64 (.ofNat 0))),(.sc (.int .i64 (.ofNat 0))),(.sc (.int .i64 (.ofNat 0))),(.sc (.int .i64 (.ofNat 0))),(.sc (.int .i64 (.ofNat 0))),(.sl .full 0 []),oX,(.sc (.int .i64 (.ofNat 0)))]),(.sl .full 0 [])])⟩
theorem IV {mx:Int}:Aw Tryz.prog (HdU.G mx) XN:=HdU.entry (l:=[]) (m:=1000000) HdU.none (by kernel_rfl) (by kernel_rfl)
def xP:BU:=⟨48,[k8],none,(.Br [(.agg [(.sc (.int .i64 (.ofNat 16))),(Ad [97,110,100]),(Ad []),(.sc (.int .i64 (.ofNat 0))),(.sc (.int .i64 (.ofNat 0))),(.sc (.int .i64 (.ofNat 0))),(.sc (.int .i64 (.ofNat 0))),(.sc (.int .i64 (.ofNat 0))),(.sl .full 0 []),oX,(.sc (.int .i64 (.ofNat 0)))]),(.sl .full 0 [])])⟩
theorem mW {mx:Int}:Aw Tryz.prog (HdU.G mx) xP:=HdU.entry (l:=[e3,W7,yY,XN]) (m:=1000000) (Ab.cons pL (Ab.cons Iw (Ab.cons kB (Ab.cons IV HdU.none)))) (by kernel_rfl) (by kernel_rfl)
def yH:BU:=⟨75,[],(some ([W8,(.sc (.int .i64 (.ofNat 0))),(.sc (.int .i64 (.ofNat 19)))],[W8,(.sc (.int .i64 (.ofNat 4))),(.sc (.int .i64 (.ofNat 19)))])),(.agg [(.sc (.int .i64 (.ofNat 15))),(Ad []),(Ad []),(.sc (.int .i64 (.ofNat 0))),(.sc (.int .i64 (.ofNat 0))),(.sc (.int .i64 (.ofNat 0))),(.sc (.int .i64 (.ofNat 0))),(.sc (.int .i64 (.ofNat 0))),(.sl .full 0 []),oP,(.sc (.int .i64 (.ofNat 0)))])⟩
theorem mP {mx:Int}:Aw Tryz.prog (HdU.G mx) yH:=HdU.entry (l:=[e1,QB,P9,QH,QQ,QL,Ql,P0,Tq,Tn]) (m:=1000000) (Ab.cons Iv (Ab.cons Ep (Ab.cons Eu (Ab.cons Ev (Ab.cons Er (Ab.cons Ew (Ab.cons Eo (Ab.cons Em (Ab.cons FU (Ab.cons FW HdU.none)))))))))) (by kernel_rfl) (by kernel_rfl)
def ZU:BU:=⟨47,[(.agg [(.sc (.int .i64 (.ofNat 15))),(Ad []),(Ad []),(.sc (.int .i64 (.ofNat 0))),(.sc (.int .i64 (.ofNat 0))),(.sc (.int .i64 (.ofNat 0))),(.sc (.int .i64 (.ofNat 0))),(.sc (.int .i64 (.ofNat 0))),(.sl .full 0 []),oP,(.sc (.int .i64 (.ofNat 0)))])],none,(.Br [(.agg [(.sc (.int .i64 (.ofNat 15))),(Ad []),(Ad []),(.sc (.int .i64 (.ofNat 0))),(.sc (.int .i64 (.ofNat 0))),(.sc (.int .i64 (.ofNat 0))),(.sc (.int .i64 (.ofNat 0))),(.sc (.int .i64 (.ofNat 0))),(.sl .full 0 []),oP,(.sc (.int .i64 (.ofNat 0)))]),(.sl .full 0 [])])⟩
theorem JT {mx:Int}:Aw Tryz.prog (HdU.G mx) ZU:=HdU.entry (l:=[]) (m:=1000000) HdU.none (by kernel_rfl) (by kernel_rfl)
def w8:BU:=⟨48,[vH],none,(.Br [(.agg [(.sc (.int .i64 (.ofNat 15))),(Ad []),(Ad []),(.sc (.int .i64 (.ofNat 0))),(.sc (.int .i64 (.ofNat 0))),(.sc (.int .i64 (.ofNat 0))),(.sc (.int .i64 (.ofNat 0))),(.sc (.int .i64 (.ofNat 0))),(.sl .full 0 []),oP,(.sc (.int .i64 (.ofNat 0)))]),(.sl .full 0 [])])⟩
theorem mV {mx:Int}:Aw Tryz.prog (HdU.G mx) w8:=HdU.entry (l:=[e4,W7,XN,yH,ZU]) (m:=1000000) (Ab.cons sW (Ab.cons Iw (Ab.cons IV (Ab.cons mP (Ab.cons JT HdU.none))))) (by kernel_rfl) (by kernel_rfl)
def yO:BU:=⟨75,[],(some ([Zu,(.sc (.int .i64 (.ofNat 0))),(.sc (.int .i64 (.ofNat 14)))],[Zu,(.sc (.int .i64 (.ofNat 5))),(.sc (.int .i64 (.ofNat 14)))])),(.agg [(.sc (.int .i64 (.ofNat 16))),(Ad [47]),(Ad []),(.sc (.int .i64 (.ofNat 0))),(.sc (.int .i64 (.ofNat 0))),(.sc (.int .i64 (.ofNat 0))),(.sc (.int .i64 (.ofNat 0))),(.sc (.int .i64 (.ofNat 0))),(.sl .full 0 []),oK,(.sc (.int .i64 (.ofNat 0)))])⟩
theorem nQ {mx:Int}:Aw Tryz.prog (HdU.G mx) yO:=HdU.entry (l:=[e1,QB,P9,QH,QQ,QL,Ql,P0,Tq,Tn]) (m:=1000000) (Ab.cons Iv (Ab.cons Ep (Ab.cons Eu (Ab.cons Ev (Ab.cons Er (Ab.cons Ew (Ab.cons Eo (Ab.cons Em (Ab.cons FU (Ab.cons FW HdU.none)))))))))) (by kernel_rfl) (by kernel_rfl)
end Go.Proofs.YtkfplcngmiljaaaGreatDoor
namespace Go.Proofs.YtkfplcngmiljaaaGreatDoor
open AI
set_option maxRecDepth 100000
set_option maxHeartbeats 4000000
def oM:AV:=.sl .full 2 [(.sc (.int .i64 (.ofNat 11))),(Ad []),(Ad [110,117,109,98,101,114]),(.sc (.int .i64 (.ofNat 2))),(.sc (.int .i64 (.ofNat 0))),(.sc (.int .i64 (.ofNat 0))),(.sc (.int .i64 (.ofNat 0))),(.sc (.int .i64 (.ofNat 0))),(.sl .full 0 []),(.sl .full 0 []),(.sc (.int .i64 (.ofNat 0))),(.sc (.int .i64 (.ofNat 12))),(Ad [104,111,117,114,115]),(Ad []),(.sc (.int .i64 (.ofNat 0))),(.sc (.int .i64 (.ofNat 0))),(.sc (.int .i64 (.ofNat 0))),(.sc (.int .i64 (.ofNat 0))),(.sc (.int .i64 (.ofNat 0))),(.sl .full 0 []),(.sl .full 0 []),(.sc (.int .i64 (.ofNat 4)))]
def oC:AV:=.sl .full 2 [(.sc (.int .i64 (.ofNat 12))),(Ad [114,97,116,101]),(Ad []),(.sc (.int .i64 (.ofNat 0))),(.sc (.int .i64 (.ofNat 0))),(.sc (.int .i64 (.ofNat 0))),(.sc (.int .i64 (.ofNat 0))),(.sc (.int .i64 (.ofNat 0))),(.sl .full 0 []),(.sl .full 0 []),(.sc (.int .i64 (.ofNat 0))),(.sc (.int .i64 (.ofNat 12))),(Ad [114,97,116,101]),(Ad []),(.sc (.int .i64 (.ofNat 0))),(.sc (.int .i64 (.ofNat 0))),(.sc (.int .i64 (.ofNat 0))),(.sc (.int .i64 (.ofNat 0))),(.sc (.int .i64 (.ofNat 0))),(.sl .full 0 []),(.sl .full 0 []),(.sc (.int .i64 (.ofNat 7)))]
def oR:AV:=.sl .full 2 [(.sc (.int .i64 (.ofNat 12))),(Ad [104,111,117,114,115]),(Ad []),(.sc (.int .i64 (.ofNat 0))),(.sc (.int .i64 (.ofNat 0))),(.sc (.int .i64 (.ofNat 0))),(.sc (.int .i64 (.ofNat 0))),(.sc (.int .i64 (.ofNat 0))),(.sl .full 0 []),(.sl .full 0 []),(.sc (.int .i64 (.ofNat 0))),(.sc (.int .i64 (.ofNat 11))),(Ad []),(Ad [110,117,109,98,101,114]),(.sc (.int .i64 (.ofNat 1))),(.sc (.int .i64 (.ofNat 0))),(.sc (.int .i64 (.ofNat 0))),(.sc (.int .i64 (.ofNat 0))),(.sc (.int .i64 (.ofNat 0))),(.sl .full 0 []),(.sl .full 0 []),(.sc (.int .i64 (.ofNat 8)))]
def oN:AV:=.sl .full 2 [(.sc (.int .i64 (.ofNat 12))),(Ad [120]),(Ad []),(.sc (.int .i64 (.ofNat 0))),(.sc (.int .i64 (.ofNat 0))),(.sc (.int .i64 (.ofNat 0))),(.sc (.int .i64 (.ofNat 0))),(.sc (.int .i64 (.ofNat 0))),(.sl .full 0 []),(.sl .full 0 []),(.sc (.int .i64 (.ofNat 0))),(.sc (.int .i64 (.ofNat 11))),(Ad []),(Ad [110,117,109,98,101,114]),(.sc (.int .i64 (.ofNat 1))),(.sc (.int .i64 (.ofNat 0))),(.sc (.int .i64 (.ofNat 0))),(.sc (.int .i64 (.ofNat 0))),(.sc (.int .i64 (.ofNat 0))),(.sl .full 0 []),(.sl .full 0 []),(.sc (.int .i64 (.ofNat 4)))]
def oE:AV:=.sl .full 1 [(.sc (.int .i64 (.ofNat 12))),(Ad [104,111,117,114,115]),(Ad []),(.sc (.int .i64 (.ofNat 0))),(.sc (.int .i64 (.ofNat 0))),(.sc (.int .i64 (.ofNat 0))),(.sc (.int .i64 (.ofNat 0))),(.sc (.int .i64 (.ofNat 0))),(.sl .full 0 []),(.sl .full 0 []),(.sc (.int .i64 (.ofNat 6)))]
def aB:BU:=⟨47,[(.agg [(.sc (.int .i64 (.ofNat 16))),(Ad [47]),(Ad []),(.sc (.int .i64 (.ofNat 0))),(.sc (.int .i64 (.ofNat 0))),(.sc (.int .i64 (.ofNat 0))),(.sc (.int .i64 (.ofNat 0))),(.sc (.int .i64 (.ofNat 0))),(.sl .full 0 []),oK,(.sc (.int .i64 (.ofNat 0)))])],none,(.Br [(.agg [(.sc (.int .i64 (.ofNat 16))),(Ad [47]),(Ad []),(.sc (.int .i64 (.ofNat 0))),(.sc (.int .i64 (.ofNat 0))),(.sc (.int .i64 (.ofNat 0))),(.sc (.int .i64 (.ofNat 0))),(.sc (.int .i64 (.ofNat 0))),(.sl .full 0 []),oK,(.sc (.int .i64 (.ofNat 0)))]),(.sl .full 0 [])])⟩
theorem Kf {mx:Int}:Aw Tryz.prog (HdU.G mx) aB:=HdU.entry (l:=[]) (m:=1000000) HdU.none (by kernel_rfl) (by kernel_rfl)
def yA:BU:=⟨48,[Vd],none,(.Br [(.agg [(.sc (.int .i64 (.ofNat 16))),(Ad [47]),(Ad []),(.sc (.int .i64 (.ofNat 0))),(.sc (.int .i64 (.ofNat 0))),(.sc (.int .i64 (.ofNat 0))),(.sc (.int .i64 (.ofNat 0))),(.sc (.int .i64 (.ofNat 0))),(.sl .full 0 []),oK,(.sc (.int .i64 (.ofNat 0)))]),(.sl .full 0 [])])⟩
theorem lS {mx:Int}:Aw Tryz.prog (HdU.G mx) yA:=HdU.entry (l:=[e5,W7,XN,ZU,yO,aB]) (m:=1000000) (Ab.cons sU (Ab.cons Iw (Ab.cons IV (Ab.cons JT (Ab.cons nQ (Ab.cons Kf HdU.none)))))) (by kernel_rfl) (by kernel_rfl)
def xJ:BU:=⟨75,[],(some ([Xr,(.sc (.int .i64 (.ofNat 0))),(.sc (.int .i64 (.ofNat 9)))],[Xr,(.sc (.int .i64 (.ofNat 3))),(.sc (.int .i64 (.ofNat 9)))])),(.agg [(.sc (.int .i64 (.ofNat 16))),(Ad [42]),(Ad []),(.sc (.int .i64 (.ofNat 0))),(.sc (.int .i64 (.ofNat 0))),(.sc (.int .i64 (.ofNat 0))),(.sc (.int .i64 (.ofNat 0))),(.sc (.int .i64 (.ofNat 0))),(.sl .full 0 []),oM,(.sc (.int .i64 (.ofNat 0)))])⟩
theorem mJ {mx:Int}:Aw Tryz.prog (HdU.G mx) xJ:=HdU.entry (l:=[e1,QB,P9,QH,QQ,QL,Ql,P0,Tq,Tn]) (m:=1000000) (Ab.cons Iv (Ab.cons Ep (Ab.cons Eu (Ab.cons Ev (Ab.cons Er (Ab.cons Ew (Ab.cons Eo (Ab.cons Em (Ab.cons FU (Ab.cons FW HdU.none)))))))))) (by kernel_rfl) (by kernel_rfl)
def iI:BU:=⟨47,[(.agg [(.sc (.int .i64 (.ofNat 16))),(Ad [42]),(Ad []),(.sc (.int .i64 (.ofNat 0))),(.sc (.int .i64 (.ofNat 0))),(.sc (.int .i64 (.ofNat 0))),(.sc (.int .i64 (.ofNat 0))),(.sc (.int .i64 (.ofNat 0))),(.sl .full 0 []),oM,(.sc (.int .i64 (.ofNat 0)))])],none,(.Br [(.agg [(.sc (.int .i64 (.ofNat 16))),(Ad [42]),(Ad []),(.sc (.int .i64 (.ofNat 0))),(.sc (.int .i64 (.ofNat 0))),(.sc (.int .i64 (.ofNat 0))),(.sc (.int .i64 (.ofNat 0))),(.sc (.int .i64 (.ofNat 0))),(.sl .full 0 []),oM,(.sc (.int .i64 (.ofNat 0)))]),(.sl .full 0 [])])⟩
theorem Lx {mx:Int}:Aw Tryz.prog (HdU.G mx) iI:=HdU.entry (l:=[]) (m:=1000000) HdU.none (by kernel_rfl) (by kernel_rfl)
def xB:BU:=⟨48,[XZ],none,(.Br [(.agg [(.sc (.int .i64 (.ofNat 16))),(Ad [42]),(Ad []),(.sc (.int .i64 (.ofNat 0))),(.sc (.int .i64 (.ofNat 0))),(.sc (.int .i64 (.ofNat 0))),(.sc (.int .i64 (.ofNat 0))),(.sc (.int .i64 (.ofNat 0))),(.sl .full 0 []),oM,(.sc (.int .i64 (.ofNat 0)))]),(.sl .full 0 [])])⟩
theorem iZ {mx:Int}:Aw Tryz.prog (HdU.G mx) xB:=HdU.entry (l:=[e6,W7,XN,ZU,aB,xJ,iI]) (m:=1000000) (Ab.cons sM (Ab.cons Iw (Ab.cons IV (Ab.cons JT (Ab.cons Kf (Ab.cons mJ (Ab.cons Lx HdU.none))))))) (by kernel_rfl) (by kernel_rfl)
def wV:BU:=⟨75,[],(some ([X6,(.sc (.int .i64 (.ofNat 0))),(.sc (.int .i64 (.ofNat 11)))],[X6,(.sc (.int .i64 (.ofNat 3))),(.sc (.int .i64 (.ofNat 11)))])),(.agg [(.sc (.int .i64 (.ofNat 16))),(Ad [42]),(Ad []),(.sc (.int .i64 (.ofNat 0))),(.sc (.int .i64 (.ofNat 0))),(.sc (.int .i64 (.ofNat 0))),(.sc (.int .i64 (.ofNat 0))),(.sc (.int .i64 (.ofNat 0))),(.sl .full 0 []),oC,(.sc (.int .i64 (.ofNat 0)))])⟩
theorem lO {mx:Int}:Aw Tryz.prog (HdU.G mx) wV:=HdU.entry (l:=[e1,QB,P9,QH,QQ,QL,Ql,P0,Tq,Tn]) (m:=1000000) (Ab.cons Iv (Ab.cons Ep (Ab.cons Eu (Ab.cons Ev (Ab.cons Er (Ab.cons Ew (Ab.cons Eo (Ab.cons Em (Ab.cons FU (Ab.cons FW HdU.none)))))))))) (by kernel_rfl) (by kernel_rfl)
def nB:BU:=⟨47,[(.agg [(.sc (.int .i64 (.ofNat 16))),(Ad [42]),(Ad []),(.sc (.int .i64 (.ofNat 0))),(.sc (.int .i64 (.ofNat 0))),(.sc (.int .i64 (.ofNat 0))),(.sc (.int .i64 (.ofNat 0))),(.sc (.int .i64 (.ofNat 0))),(.sl .full 0 []),oC,(.sc (.int .i64 (.ofNat 0)))])],none,(.Br [(.agg [(.sc (.int .i64 (.ofNat 16))),(Ad [42]),(Ad []),(.sc (.int .i64 (.ofNat 0))),(.sc (.int .i64 (.ofNat 0))),(.sc (.int .i64 (.ofNat 0))),(.sc (.int .i64 (.ofNat 0))),(.sc (.int .i64 (.ofNat 0))),(.sl .full 0 []),oC,(.sc (.int .i64 (.ofNat 0)))]),(.sl .full 0 [])])⟩
theorem MO {mx:Int}:Aw Tryz.prog (HdU.G mx) nB:=HdU.entry (l:=[]) (m:=1000000) HdU.none (by kernel_rfl) (by kernel_rfl)
def yG:BU:=⟨48,[Vc],none,(.Br [(.agg [(.sc (.int .i64 (.ofNat 16))),(Ad [42]),(Ad []),(.sc (.int .i64 (.ofNat 0))),(.sc (.int .i64 (.ofNat 0))),(.sc (.int .i64 (.ofNat 0))),(.sc (.int .i64 (.ofNat 0))),(.sc (.int .i64 (.ofNat 0))),(.sl .full 0 []),oC,(.sc (.int .i64 (.ofNat 0)))]),(.sl .full 0 [])])⟩
theorem jO {mx:Int}:Aw Tryz.prog (HdU.G mx) yG:=HdU.entry (l:=[e7,W7,XN,ZU,aB,iI,wV,nB]) (m:=1000000) (Ab.cons r6 (Ab.cons Iw (Ab.cons IV (Ab.cons JT (Ab.cons Kf (Ab.cons Lx (Ab.cons lO (Ab.cons MO HdU.none)))))))) (by kernel_rfl) (by kernel_rfl)
def yE:BU:=⟨75,[],(some ([uY,(.sc (.int .i64 (.ofNat 0))),(.sc (.int .i64 (.ofNat 9)))],[uY,(.sc (.int .i64 (.ofNat 3))),(.sc (.int .i64 (.ofNat 9)))])),(.agg [(.sc (.int .i64 (.ofNat 16))),(Ad [43]),(Ad []),(.sc (.int .i64 (.ofNat 0))),(.sc (.int .i64 (.ofNat 0))),(.sc (.int .i64 (.ofNat 0))),(.sc (.int .i64 (.ofNat 0))),(.sc (.int .i64 (.ofNat 0))),(.sl .full 0 []),oR,(.sc (.int .i64 (.ofNat 0)))])⟩
theorem nR {mx:Int}:Aw Tryz.prog (HdU.G mx) yE:=HdU.entry (l:=[e1,QB,P9,QH,QQ,QL,Ql,P0,Tq,Tn]) (m:=1000000) (Ab.cons Iv (Ab.cons Ep (Ab.cons Eu (Ab.cons Ev (Ab.cons Er (Ab.cons Ew (Ab.cons Eo (Ab.cons Em (Ab.cons FU (Ab.cons FW HdU.none)))))))))) (by kernel_rfl) (by kernel_rfl)
def oU:BU:=⟨47,[(.agg [(.sc (.int .i64 (.ofNat 16))),(Ad [43]),(Ad []),(.sc (.int .i64 (.ofNat 0))),(.sc (.int .i64 (.ofNat 0))),(.sc (.int .i64 (.ofNat 0))),(.sc (.int .i64 (.ofNat 0))),(.sc (.int .i64 (.ofNat 0))),(.sl .full 0 []),oR,(.sc (.int .i64 (.ofNat 0)))])],none,(.Br [(.agg [(.sc (.int .i64 (.ofNat 16))),(Ad [43]),(Ad []),(.sc (.int .i64 (.ofNat 0))),(.sc (.int .i64 (.ofNat 0))),(.sc (.int .i64 (.ofNat 0))),(.sc (.int .i64 (.ofNat 0))),(.sc (.int .i64 (.ofNat 0))),(.sl .full 0 []),oR,(.sc (.int .i64 (.ofNat 0)))]),(.sl .full 0 [])])⟩
theorem OQ {mx:Int}:Aw Tryz.prog (HdU.G mx) oU:=HdU.entry (l:=[]) (m:=1000000) HdU.none (by kernel_rfl) (by kernel_rfl)
def yV:BU:=⟨48,[Zg],none,(.Br [(.agg [(.sc (.int .i64 (.ofNat 16))),(Ad [43]),(Ad []),(.sc (.int .i64 (.ofNat 0))),(.sc (.int .i64 (.ofNat 0))),(.sc (.int .i64 (.ofNat 0))),(.sc (.int .i64 (.ofNat 0))),(.sc (.int .i64 (.ofNat 0))),(.sl .full 0 []),oR,(.sc (.int .i64 (.ofNat 0)))]),(.sl .full 0 [])])⟩
theorem mL {mx:Int}:Aw Tryz.prog (HdU.G mx) yV:=HdU.entry (l:=[e8,W7,XN,ZU,aB,iI,nB,yE,oU]) (m:=1000000) (Ab.cons pI (Ab.cons Iw (Ab.cons IV (Ab.cons JT (Ab.cons Kf (Ab.cons Lx (Ab.cons MO (Ab.cons nR (Ab.cons OQ HdU.none))))))))) (by kernel_rfl) (by kernel_rfl)
def xX:BU:=⟨75,[],(some ([uW,(.sc (.int .i64 (.ofNat 0))),(.sc (.int .i64 (.ofNat 5)))],[uW,(.sc (.int .i64 (.ofNat 3))),(.sc (.int .i64 (.ofNat 5)))])),(.agg [(.sc (.int .i64 (.ofNat 16))),(Ad [43]),(Ad []),(.sc (.int .i64 (.ofNat 0))),(.sc (.int .i64 (.ofNat 0))),(.sc (.int .i64 (.ofNat 0))),(.sc (.int .i64 (.ofNat 0))),(.sc (.int .i64 (.ofNat 0))),(.sl .full 0 []),oN,(.sc (.int .i64 (.ofNat 0)))])⟩
theorem mR {mx:Int}:Aw Tryz.prog (HdU.G mx) xX:=HdU.entry (l:=[e1,QB,P9,QH,QQ,QL,Ql,P0,Tq,Tn]) (m:=1000000) (Ab.cons Iv (Ab.cons Ep (Ab.cons Eu (Ab.cons Ev (Ab.cons Er (Ab.cons Ew (Ab.cons Eo (Ab.cons Em (Ab.cons FU (Ab.cons FW HdU.none)))))))))) (by kernel_rfl) (by kernel_rfl)
def pX:BU:=⟨47,[(.agg [(.sc (.int .i64 (.ofNat 16))),(Ad [43]),(Ad []),(.sc (.int .i64 (.ofNat 0))),(.sc (.int .i64 (.ofNat 0))),(.sc (.int .i64 (.ofNat 0))),(.sc (.int .i64 (.ofNat 0))),(.sc (.int .i64 (.ofNat 0))),(.sl .full 0 []),oN,(.sc (.int .i64 (.ofNat 0)))])],none,(.Br [(.agg [(.sc (.int .i64 (.ofNat 16))),(Ad [43]),(Ad []),(.sc (.int .i64 (.ofNat 0))),(.sc (.int .i64 (.ofNat 0))),(.sc (.int .i64 (.ofNat 0))),(.sc (.int .i64 (.ofNat 0))),(.sc (.int .i64 (.ofNat 0))),(.sl .full 0 []),oN,(.sc (.int .i64 (.ofNat 0)))]),(.sl .full 0 [])])⟩
theorem Rz {mx:Int}:Aw Tryz.prog (HdU.G mx) pX:=HdU.entry (l:=[]) (m:=1000000) HdU.none (by kernel_rfl) (by kernel_rfl)
def yL:BU:=⟨48,[(Ad [120,32,43,32,49])],none,(.Br [(.agg [(.sc (.int .i64 (.ofNat 16))),(Ad [43]),(Ad []),(.sc (.int .i64 (.ofNat 0))),(.sc (.int .i64 (.ofNat 0))),(.sc (.int .i64 (.ofNat 0))),(.sc (.int .i64 (.ofNat 0))),(.sc (.int .i64 (.ofNat 0))),(.sl .full 0 []),oN,(.sc (.int .i64 (.ofNat 0)))]),(.sl .full 0 [])])⟩
theorem mE {mx:Int}:Aw Tryz.prog (HdU.G mx) yL:=HdU.entry (l:=[e9,W7,XN,ZU,aB,iI,nB,oU,xX,pX]) (m:=1000000) (Ab.cons qN (Ab.cons Iw (Ab.cons IV (Ab.cons JT (Ab.cons Kf (Ab.cons Lx (Ab.cons MO (Ab.cons OQ (Ab.cons mR (Ab.cons Rz HdU.none)))))))))) (by kernel_rfl) (by kernel_rfl)
def xV:BU:=⟨75,[],(some ([(.sl .lost 2 [(.sc (.int .i64 (.ofNat 1))),(Ad [97,114,116]),(.sc (.int .i64 (.ofNat 0))),(.sc (.int .i64 (.ofNat 3))),(Ad [50]),(.sc (.int .i64 (.ofNat 4)))]),(.sc (.int .i64 (.ofNat 0))),(.sc (.int .i64 (.ofNat 5)))],[(.sl .lost 2 [(.sc (.int .i64 (.ofNat 1))),(Ad [97,114,116]),(.sc (.int .i64 (.ofNat 0))),(.sc (.int .i64 (.ofNat 3))),(Ad [50]),(.sc (.int .i64 (.ofNat 4)))]),(.sc (.int .i64 (.ofNat 2))),(.sc (.int .i64 (.ofNat 5)))])),(.agg [(.sc (.int .i64 (.ofNat 13))),(Ad []),(Ad []),(.sc (.int .i64 (.ofNat 2))),(.sc (.int .i64 (.ofNat 0))),(.sc (.int .i64 (.ofNat 0))),(.sc (.int .i64 (.ofNat 0))),(.sc (.int .i64 (.ofNat 0))),(.sl .full 0 []),(.sl .full 0 []),(.sc (.int .i64 (.ofNat 0)))])⟩
theorem lA {mx:Int}:Aw Tryz.prog (HdU.G mx) xV:=HdU.entry (l:=[e1,QB,P9,QH,QQ,QL,Ql,P0,Tq,Tn]) (m:=1000000) (Ab.cons Iv (Ab.cons Ep (Ab.cons Eu (Ab.cons Ev (Ab.cons Er (Ab.cons Ew (Ab.cons Eo (Ab.cons Em (Ab.cons FU (Ab.cons FW HdU.none)))))))))) (by kernel_rfl) (by kernel_rfl)
def tP:BU:=⟨47,[(.agg [(.sc (.int .i64 (.ofNat 13))),(Ad []),(Ad []),(.sc (.int .i64 (.ofNat 2))),(.sc (.int .i64 (.ofNat 0))),(.sc (.int .i64 (.ofNat 0))),(.sc (.int .i64 (.ofNat 0))),(.sc (.int .i64 (.ofNat 0))),(.sl .full 0 []),(.sl .full 0 []),(.sc (.int .i64 (.ofNat 0)))])],none,(.Br [(.agg [(.sc (.int .i64 (.ofNat 13))),(Ad []),(Ad []),(.sc (.int .i64 (.ofNat 2))),(.sc (.int .i64 (.ofNat 0))),(.sc (.int .i64 (.ofNat 0))),(.sc (.int .i64 (.ofNat 0))),(.sc (.int .i64 (.ofNat 0))),(.sl .full 0 []),(.sl .full 0 []),(.sc (.int .i64 (.ofNat 0)))]),(.sl .full 0 [])])⟩
theorem TQ {mx:Int}:Aw Tryz.prog (HdU.G mx) tP:=HdU.entry (l:=[]) (m:=1000000) HdU.none (by kernel_rfl) (by kernel_rfl)
def wY:BU:=⟨48,[(Ad [97,114,116,32,50])],none,(.Br [(.agg [(.sc (.int .i64 (.ofNat 13))),(Ad []),(Ad []),(.sc (.int .i64 (.ofNat 2))),(.sc (.int .i64 (.ofNat 0))),(.sc (.int .i64 (.ofNat 0))),(.sc (.int .i64 (.ofNat 0))),(.sc (.int .i64 (.ofNat 0))),(.sl .full 0 []),(.sl .full 0 []),(.sc (.int .i64 (.ofNat 0)))]),(.sl .full 0 [])])⟩
theorem mH {mx:Int}:Aw Tryz.prog (HdU.G mx) wY:=HdU.entry (l:=[oH,W7,XN,ZU,aB,iI,nB,oU,pX,xV,tP]) (m:=1000000) (Ab.cons l4 (Ab.cons Iw (Ab.cons IV (Ab.cons JT (Ab.cons Kf (Ab.cons Lx (Ab.cons MO (Ab.cons OQ (Ab.cons Rz (Ab.cons lA (Ab.cons TQ HdU.none))))))))))) (by kernel_rfl) (by kernel_rfl)
def xK:BU:=⟨75,[],(some ([uU,(.sc (.int .i64 (.ofNat 0))),(.sc (.int .i64 (.ofNat 26)))],[uU,(.sc (.int .i64 (.ofNat 12))),(.sc (.int .i64 (.ofNat 26)))])),(.agg [(.sc (.int .i64 (.ofNat 18))),(Ad []),(Ad []),(.sc (.int .i64 (.ofNat 0))),(.sc (.int .i64 (.ofNat 0))),(.sc (.int .i64 (.ofNat 0))),(.sc (.int .i64 (.ofNat 0))),(.sc (.int .i64 (.ofNat 10))),(.sl .lost 1 [(.sc (.int .i64 (.ofNat 0))),(.sc (.int .i64 (.ofNat 0))),(.sc (.int .i64 (.ofNat 1)))]),oE,(.sc (.int .i64 (.ofNat 0)))])⟩
theorem kZ {mx:Int}:Aw Tryz.prog (HdU.G mx) xK:=HdU.entry (l:=[e1,QB,P9,QH,QQ,QL,Ql,P0,Tq,Tn]) (m:=1000000) (Ab.cons Iv (Ab.cons Ep (Ab.cons Eu (Ab.cons Ev (Ab.cons Er (Ab.cons Ew (Ab.cons Eo (Ab.cons Em (Ab.cons FU (Ab.cons FW HdU.none)))))))))) (by kernel_rfl) (by kernel_rfl)
def vY:BU:=⟨47,[(.agg [(.sc (.int .i64 (.ofNat 18))),(Ad []),(Ad []),(.sc (.int .i64 (.ofNat 0))),(.sc (.int .i64 (.ofNat 0))),(.sc (.int .i64 (.ofNat 0))),(.sc (.int .i64 (.ofNat 0))),(.sc (.int .i64 (.ofNat 10))),(.sl .lost 1 [(.sc (.int .i64 (.ofNat 0))),(.sc (.int .i64 (.ofNat 0))),(.sc (.int .i64 (.ofNat 1)))]),oE,(.sc (.int .i64 (.ofNat 0)))])],none,(.Br [(.agg [(.sc (.int .i64 (.ofNat 18))),(Ad []),(Ad []),(.sc (.int .i64 (.ofNat 0))),(.sc (.int .i64 (.ofNat 0))),(.sc (.int .i64 (.ofNat 0))),(.sc (.int .i64 (.ofNat 0))),(.sc (.int .i64 (.ofNat 10))),(.sl .lost 1 [(.sc (.int .i64 (.ofNat 0))),(.sc (.int .i64 (.ofNat 0))),(.sc (.int .i64 (.ofNat 1)))]),oE,(.sc (.int .i64 (.ofNat 0)))]),(.sl .full 0 [])])⟩
theorem Xy {mx:Int}:Aw Tryz.prog (HdU.G mx) vY:=HdU.entry (l:=[]) (m:=1000000) HdU.none (by kernel_rfl) (by kernel_rfl)
def yB:BU:=⟨48,[uJ],none,(.Br [(.agg [(.sc (.int .i64 (.ofNat 18))),(Ad []),(Ad []),(.sc (.int .i64 (.ofNat 0))),(.sc (.int .i64 (.ofNat 0))),(.sc (.int .i64 (.ofNat 0))),(.sc (.int .i64 (.ofNat 0))),(.sc (.int .i64 (.ofNat 10))),(.sl .lost 1 [(.sc (.int .i64 (.ofNat 0))),(.sc (.int .i64 (.ofNat 0))),(.sc (.int .i64 (.ofNat 1)))]),oE,(.sc (.int .i64 (.ofNat 0)))]),(.sl .full 0 [])])⟩
theorem kX {mx:Int}:Aw Tryz.prog (HdU.G mx) yB:=HdU.entry (l:=[tI,W7,XN,ZU,aB,iI,nB,oU,pX,tP,xK,vY]) (m:=1000000) (Ab.cons n3 (Ab.cons Iw (Ab.cons IV (Ab.cons JT (Ab.cons Kf (Ab.cons Lx (Ab.cons MO (Ab.cons OQ (Ab.cons Rz (Ab.cons TQ (Ab.cons kZ (Ab.cons Xy HdU.none)))))))))))) (by kernel_rfl) (by kernel_rfl)
end Go.Proofs.YtkfplcngmiljaaaGreatDoor
namespace Go.Proofs.YtkfplcngmiljaaaGreatDoor
open AI
set_option maxRecDepth 100000
set_option maxHeartbeats 4000000
def oV:AV:=.sl .lost 2 [(.sc (.int .i64 (.ofNat 12))),(Ad [114,97,116,101]),(Ad []),(.sc (.int .i64 (.ofNat 0))),(.sc (.int .i64 (.ofNat 0))),(.sc (.int .i64 (.ofNat 0))),(.sc (.int .i64 (.ofNat 0))),(.sc (.int .i64 (.ofNat 0))),(.sl .full 0 []),(.sl .full 0 []),(.sc (.int .i64 (.ofNat 6))),(.sc (.int .i64 (.ofNat 11))),(Ad []),(Ad [69,85,82]),(.sc (.int .i64 (.ofNat 100))),(.sc (.int .i64 (.ofNat 0))),(.sc (.int .i64 (.ofNat 0))),(.sc (.int .i64 (.ofNat 0))),(.sc (.int .i64 (.ofNat 0))),(.sl .full 0 []),(.sl .full 0 []),(.sc (.int .i64 (.ofNat 12)))]
def vR:AV:=.sl .full 1 [(.sc (.int .i64 (.ofNat 11))),(Ad []),(Ad [69,85,82]),(.sc (.int .i64 (.ofNat 100))),(.sc (.int .i64 (.ofNat 0))),(.sc (.int .i64 (.ofNat 0))),(.sc (.int .i64 (.ofNat 0))),(.sc (.int .i64 (.ofNat 0))),(.sl .full 0 []),(.sl .full 0 []),(.sc (.int .i64 (.ofNat 153)))]
def oO:AV:=.sl .lost 2 [(.sc (.int .i64 (.ofNat 5))),(Ad []),(Ad []),(.sc (.int .i64 (.ofNat 1))),(.sc (.int .i64 (.ofNat 8766))),(.sc (.int .i64 (.ofNat 36525))),(.sc (.int .i64 (.ofNat 8766))),(.sc (.int .i64 (.ofNat 0))),(.sl .full 0 []),(.sl .full 0 []),(.sc (.int .i64 (.ofNat 104))),(.sc (.int .i64 (.ofNat 8))),(Ad []),(Ad []),(.sc (.int .i64 (.ofNat 0))),(.sc (.int .i64 (.ofNat 0))),(.sc (.int .i64 (.ofNat 0))),(.sc (.int .i64 (.ofNat 0))),(.sc (.int .i64 (.ofNat 0))),(.sl .full 0 []),vR,(.sc (.int .i64 (.ofNat 146)))]
def NH:AV:=.sl .lost 5 [(.sc (.int .i64 (.ofNat 2))),(Ad [104,111,117,114,115]),k1,(.sc (.int .i64 (.ofNat 0))),(.sc (.int .i64 (.ofNat 0))),(.sc (.int .i64 (.ofNat 0))),(.sc (.int .i64 (.ofNat 0))),(.sc (.int .i64 (.ofNat 0))),(.sl .full 0 []),(.sl .full 0 []),(.sc (.int .i64 (.ofNat 0))),(.sc (.int .i64 (.ofNat 2))),(Ad [114,97,116,101]),(Ad [69,85,82]),(.sc (.int .i64 (.ofNat 0))),(.sc (.int .i64 (.ofNat 0))),(.sc (.int .i64 (.ofNat 0))),(.sc (.int .i64 (.ofNat 0))),(.sc (.int .i64 (.ofNat 0))),(.sl .full 0 []),(.sl .full 0 []),(.sc (.int .i64 (.ofNat 22))),(.sc (.int .i64 (.ofNat 2))),k2,(Ad [116,114,117,116,104]),(.sc (.int .i64 (.ofNat 0))),(.sc (.int .i64 (.ofNat 0))),(.sc (.int .i64 (.ofNat 0))),(.sc (.int .i64 (.ofNat 0))),(.sc (.int .i64 (.ofNat 0))),(.sl .full 0 []),(.sl .full 0 []),(.sc (.int .i64 (.ofNat 39))),(.sc (.int .i64 (.ofNat 3))),(Ad [98,97,115,105,99]),(Ad [69,85,82]),(.sc (.int .i64 (.ofNat 1))),(.sc (.int .i64 (.ofNat 0))),(.sc (.int .i64 (.ofNat 0))),(.sc (.int .i64 (.ofNat 0))),(.sc (.int .i64 (.ofNat 0))),(.sl .full 0 []),(.sl .full 0 []),(.sc (.int .i64 (.ofNat 61))),(.sc (.int .i64 (.ofNat 4))),(Ad [98,97,115,105,99]),(Ad []),(.sc (.int .i64 (.ofNat 1))),(.sc (.int .i64 (.ofNat 0))),(.sc (.int .i64 (.ofNat 0))),(.sc (.int .i64 (.ofNat 0))),(.sc (.int .i64 (.ofNat 0))),(.sl .full 0 []),oO,(.sc (.int .i64 (.ofNat 84)))]
def x6:BU:=⟨75,[],(some ([uN,(.sc (.int .i64 (.ofNat 0))),(.sc (.int .i64 (.ofNat 21)))],[uN,(.sc (.int .i64 (.ofNat 7))),(.sc (.int .i64 (.ofNat 21)))])),(.agg [(.sc (.int .i64 (.ofNat 17))),(Ad [108,101,97,115,116]),(Ad []),(.sc (.int .i64 (.ofNat 0))),(.sc (.int .i64 (.ofNat 0))),(.sc (.int .i64 (.ofNat 0))),(.sc (.int .i64 (.ofNat 0))),(.sc (.int .i64 (.ofNat 0))),(.sl .full 0 []),oV,(.sc (.int .i64 (.ofNat 0)))])⟩
theorem lZ {mx:Int}:Aw Tryz.prog (HdU.G mx) x6:=HdU.entry (l:=[e1,QB,P9,QH,QQ,QL,Ql,P0,Tq,Tn]) (m:=1000000) (Ab.cons Iv (Ab.cons Ep (Ab.cons Eu (Ab.cons Ev (Ab.cons Er (Ab.cons Ew (Ab.cons Eo (Ab.cons Em (Ab.cons FU (Ab.cons FW HdU.none)))))))))) (by kernel_rfl) (by kernel_rfl)
def yU:BU:=⟨47,[(.agg [(.sc (.int .i64 (.ofNat 17))),(Ad [108,101,97,115,116]),(Ad []),(.sc (.int .i64 (.ofNat 0))),(.sc (.int .i64 (.ofNat 0))),(.sc (.int .i64 (.ofNat 0))),(.sc (.int .i64 (.ofNat 0))),(.sc (.int .i64 (.ofNat 0))),(.sl .full 0 []),oV,(.sc (.int .i64 (.ofNat 0)))])],none,(.Br [(.agg [(.sc (.int .i64 (.ofNat 17))),(Ad [108,101,97,115,116]),(Ad []),(.sc (.int .i64 (.ofNat 0))),(.sc (.int .i64 (.ofNat 0))),(.sc (.int .i64 (.ofNat 0))),(.sc (.int .i64 (.ofNat 0))),(.sc (.int .i64 (.ofNat 0))),(.sl .full 0 []),oV,(.sc (.int .i64 (.ofNat 0)))]),(.sl .full 0 [])])⟩
theorem kQ {mx:Int}:Aw Tryz.prog (HdU.G mx) yU:=HdU.entry (l:=[]) (m:=1000000) HdU.none (by kernel_rfl) (by kernel_rfl)
def wQ:BU:=⟨48,[vF],none,(.Br [(.agg [(.sc (.int .i64 (.ofNat 17))),(Ad [108,101,97,115,116]),(Ad []),(.sc (.int .i64 (.ofNat 0))),(.sc (.int .i64 (.ofNat 0))),(.sc (.int .i64 (.ofNat 0))),(.sc (.int .i64 (.ofNat 0))),(.sc (.int .i64 (.ofNat 0))),(.sl .full 0 []),oV,(.sc (.int .i64 (.ofNat 0)))]),(.sl .full 0 [])])⟩
theorem mT {mx:Int}:Aw Tryz.prog (HdU.G mx) wQ:=HdU.entry (l:=[yZ,W7,XN,ZU,aB,iI,nB,oU,pX,tP,vY,x6,yU]) (m:=1000000) (Ab.cons j8 (Ab.cons Iw (Ab.cons IV (Ab.cons JT (Ab.cons Kf (Ab.cons Lx (Ab.cons MO (Ab.cons OQ (Ab.cons Rz (Ab.cons TQ (Ab.cons Xy (Ab.cons lZ (Ab.cons kQ HdU.none))))))))))))) (by kernel_rfl) (by kernel_rfl)
def oS:BU:=⟨70,[],(some ([k5,(.sc (.int .i64 (.ofNat 0))),(.sc (.int .i64 (.ofNat 164)))],[k5,(.sc (.int .i64 (.ofNat 5))),(.sc (.int .i64 (.ofNat 164)))])),(.agg [(.sc (.int .i64 (.ofNat 2))),(Ad [104,111,117,114,115]),k1,(.sc (.int .i64 (.ofNat 0))),(.sc (.int .i64 (.ofNat 0))),(.sc (.int .i64 (.ofNat 0))),(.sc (.int .i64 (.ofNat 0))),(.sc (.int .i64 (.ofNat 0))),(.sl .full 0 []),(.sl .full 0 []),(.sc (.int .i64 (.ofNat 0)))])⟩
theorem OX {mx:Int}:Aw Tryz.prog (HdU.G mx) oS:=HdU.entry (l:=[]) (m:=1000000) HdU.none (by kernel_rfl) (by kernel_rfl)
def zF:BU:=⟨45,[],(some ([k5,(.sc (.int .i64 (.ofNat 0))),(.sc (.int .i64 (.ofNat 164)))],[k5,(.sc (.int .i64 (.ofNat 5))),(.sc (.int .i64 (.ofNat 164)))])),(.agg [(.sc (.int .i64 (.ofNat 2))),(Ad [104,111,117,114,115]),k1,(.sc (.int .i64 (.ofNat 0))),(.sc (.int .i64 (.ofNat 0))),(.sc (.int .i64 (.ofNat 0))),(.sc (.int .i64 (.ofNat 0))),(.sc (.int .i64 (.ofNat 0))),(.sl .full 0 []),(.sl .full 0 []),(.sc (.int .i64 (.ofNat 0)))])⟩
theorem jI {mx:Int}:Aw Tryz.prog (HdU.G mx) zF:=HdU.entry (l:=[oS]) (m:=1000000) (Ab.cons OX HdU.none) (by kernel_rfl) (by kernel_rfl)
def rW:BU:=⟨70,[],(some ([k5,(.sc (.int .i64 (.ofNat 5))),(.sc (.int .i64 (.ofNat 164)))],[k5,(.sc (.int .i64 (.ofNat 10))),(.sc (.int .i64 (.ofNat 164)))])),(.agg [(.sc (.int .i64 (.ofNat 2))),(Ad [114,97,116,101]),(Ad [69,85,82]),(.sc (.int .i64 (.ofNat 0))),(.sc (.int .i64 (.ofNat 0))),(.sc (.int .i64 (.ofNat 0))),(.sc (.int .i64 (.ofNat 0))),(.sc (.int .i64 (.ofNat 0))),(.sl .full 0 []),(.sl .full 0 []),(.sc (.int .i64 (.ofNat 22)))])⟩
theorem Rr {mx:Int}:Aw Tryz.prog (HdU.G mx) rW:=HdU.entry (l:=[]) (m:=1000000) HdU.none (by kernel_rfl) (by kernel_rfl)
def zG:BU:=⟨45,[],(some ([k5,(.sc (.int .i64 (.ofNat 5))),(.sc (.int .i64 (.ofNat 164)))],[k5,(.sc (.int .i64 (.ofNat 10))),(.sc (.int .i64 (.ofNat 164)))])),(.agg [(.sc (.int .i64 (.ofNat 2))),(Ad [114,97,116,101]),(Ad [69,85,82]),(.sc (.int .i64 (.ofNat 0))),(.sc (.int .i64 (.ofNat 0))),(.sc (.int .i64 (.ofNat 0))),(.sc (.int .i64 (.ofNat 0))),(.sc (.int .i64 (.ofNat 0))),(.sl .full 0 []),(.sl .full 0 []),(.sc (.int .i64 (.ofNat 22)))])⟩
theorem jZ {mx:Int}:Aw Tryz.prog (HdU.G mx) zG:=HdU.entry (l:=[oS,rW]) (m:=1000000) (Ab.cons OX (Ab.cons Rr HdU.none)) (by kernel_rfl) (by kernel_rfl)
def tM:BU:=⟨70,[],(some ([k5,(.sc (.int .i64 (.ofNat 10))),(.sc (.int .i64 (.ofNat 164)))],[k5,(.sc (.int .i64 (.ofNat 15))),(.sc (.int .i64 (.ofNat 164)))])),(.agg [(.sc (.int .i64 (.ofNat 2))),k2,(Ad [116,114,117,116,104]),(.sc (.int .i64 (.ofNat 0))),(.sc (.int .i64 (.ofNat 0))),(.sc (.int .i64 (.ofNat 0))),(.sc (.int .i64 (.ofNat 0))),(.sc (.int .i64 (.ofNat 0))),(.sl .full 0 []),(.sl .full 0 []),(.sc (.int .i64 (.ofNat 39)))])⟩
theorem T8 {mx:Int}:Aw Tryz.prog (HdU.G mx) tM:=HdU.entry (l:=[]) (m:=1000000) HdU.none (by kernel_rfl) (by kernel_rfl)
def xN:BU:=⟨45,[],(some ([k5,(.sc (.int .i64 (.ofNat 10))),(.sc (.int .i64 (.ofNat 164)))],[k5,(.sc (.int .i64 (.ofNat 15))),(.sc (.int .i64 (.ofNat 164)))])),(.agg [(.sc (.int .i64 (.ofNat 2))),k2,(Ad [116,114,117,116,104]),(.sc (.int .i64 (.ofNat 0))),(.sc (.int .i64 (.ofNat 0))),(.sc (.int .i64 (.ofNat 0))),(.sc (.int .i64 (.ofNat 0))),(.sc (.int .i64 (.ofNat 0))),(.sl .full 0 []),(.sl .full 0 []),(.sc (.int .i64 (.ofNat 39)))])⟩
theorem nD {mx:Int}:Aw Tryz.prog (HdU.G mx) xN:=HdU.entry (l:=[oS,rW,tM]) (m:=1000000) (Ab.cons OX (Ab.cons Rr (Ab.cons T8 HdU.none))) (by kernel_rfl) (by kernel_rfl)
def vO:BU:=⟨70,[],(some ([k5,(.sc (.int .i64 (.ofNat 15))),(.sc (.int .i64 (.ofNat 164)))],[k5,(.sc (.int .i64 (.ofNat 21))),(.sc (.int .i64 (.ofNat 164)))])),(.agg [(.sc (.int .i64 (.ofNat 3))),(Ad [98,97,115,105,99]),(Ad [69,85,82]),(.sc (.int .i64 (.ofNat 1))),(.sc (.int .i64 (.ofNat 0))),(.sc (.int .i64 (.ofNat 0))),(.sc (.int .i64 (.ofNat 0))),(.sc (.int .i64 (.ofNat 0))),(.sl .full 0 []),(.sl .full 0 []),(.sc (.int .i64 (.ofNat 61)))])⟩
theorem Xs {mx:Int}:Aw Tryz.prog (HdU.G mx) vO:=HdU.entry (l:=[]) (m:=1000000) HdU.none (by kernel_rfl) (by kernel_rfl)
def xQ:BU:=⟨45,[],(some ([k5,(.sc (.int .i64 (.ofNat 15))),(.sc (.int .i64 (.ofNat 164)))],[k5,(.sc (.int .i64 (.ofNat 21))),(.sc (.int .i64 (.ofNat 164)))])),(.agg [(.sc (.int .i64 (.ofNat 3))),(Ad [98,97,115,105,99]),(Ad [69,85,82]),(.sc (.int .i64 (.ofNat 1))),(.sc (.int .i64 (.ofNat 0))),(.sc (.int .i64 (.ofNat 0))),(.sc (.int .i64 (.ofNat 0))),(.sc (.int .i64 (.ofNat 0))),(.sl .full 0 []),(.sl .full 0 []),(.sc (.int .i64 (.ofNat 61)))])⟩
theorem jM {mx:Int}:Aw Tryz.prog (HdU.G mx) xQ:=HdU.entry (l:=[oS,rW,tM,vO]) (m:=1000000) (Ab.cons OX (Ab.cons Rr (Ab.cons T8 (Ab.cons Xs HdU.none)))) (by kernel_rfl) (by kernel_rfl)
def rJ:BU:=⟨139,[k4],none,(.Br [(.sc (.int .i64 (.ofNat 8766))),(.sc (.int .i64 (.ofNat 0)))])⟩
theorem Ru {mx:Int}:Aw Tryz.prog (HdU.G mx) rJ:=HdU.entry (l:=[]) (m:=1000000) HdU.none (by kernel_rfl) (by kernel_rfl)
def yT:BU:=⟨128,[(.sc (.int .i64 (.ofNat 0)))],(some ([k5,(.sc (.int .i64 (.ofNat 28))),(.sc (.int .i64 (.ofNat 164)))],[k5,(.sc (.int .i64 (.ofNat 29))),(.sc (.int .i64 (.ofNat 164)))])),(.sc (.int .i64 (.ofNat 8766)))⟩
theorem j7 {mx:Int}:Aw Tryz.prog (HdU.G mx) yT:=HdU.entry (l:=[rJ]) (m:=1000000) (Ab.cons Ru HdU.none) (by kernel_rfl) (by kernel_rfl)
def xA:BU:=⟨128,[(.sc (.int .i64 (.ofNat 0)))],(some ([k5,(.sc (.int .i64 (.ofNat 30))),(.sc (.int .i64 (.ofNat 164)))],[k5,(.sc (.int .i64 (.ofNat 31))),(.sc (.int .i64 (.ofNat 164)))])),(.sc (.int .i64 (.ofNat 8766)))⟩
theorem jQ {mx:Int}:Aw Tryz.prog (HdU.G mx) xA:=HdU.entry (l:=[rJ]) (m:=1000000) (Ab.cons Ru HdU.none) (by kernel_rfl) (by kernel_rfl)
def yF:BU:=⟨110,[],(some ([k5,(.sc (.int .i64 (.ofNat 25))),(.sc (.int .i64 (.ofNat 164)))],[k5,(.sc (.int .i64 (.ofNat 31))),(.sc (.int .i64 (.ofNat 164)))])),(.agg [(.sc (.int .i64 (.ofNat 5))),(Ad []),(Ad []),(.sc (.int .i64 (.ofNat 1))),(.sc (.int .i64 (.ofNat 8766))),(.sc (.int .i64 (.ofNat 36525))),(.sc (.int .i64 (.ofNat 8766))),(.sc (.int .i64 (.ofNat 0))),(.sl .full 0 []),(.sl .full 0 []),(.sc (.int .i64 (.ofNat 104)))])⟩
theorem l5 {mx:Int}:Aw Tryz.prog (HdU.G mx) yF:=HdU.entry (l:=[QB,P9,QH,QQ,QL,Ql,P0,yT,xA]) (m:=1000000) (Ab.cons Ep (Ab.cons Eu (Ab.cons Ev (Ab.cons Er (Ab.cons Ew (Ab.cons Eo (Ab.cons Em (Ab.cons j7 (Ab.cons jQ HdU.none))))))))) (by kernel_rfl) (by kernel_rfl)
def yQ:BU:=⟨75,[],(some ([k5,(.sc (.int .i64 (.ofNat 33))),(.sc (.int .i64 (.ofNat 164)))],[k5,(.sc (.int .i64 (.ofNat 35))),(.sc (.int .i64 (.ofNat 164)))])),(.agg [(.sc (.int .i64 (.ofNat 11))),(Ad []),(Ad [69,85,82]),(.sc (.int .i64 (.ofNat 100))),(.sc (.int .i64 (.ofNat 0))),(.sc (.int .i64 (.ofNat 0))),(.sc (.int .i64 (.ofNat 0))),(.sc (.int .i64 (.ofNat 0))),(.sl .full 0 []),(.sl .full 0 []),(.sc (.int .i64 (.ofNat 153)))])⟩
theorem jX {mx:Int}:Aw Tryz.prog (HdU.G mx) yQ:=HdU.entry (l:=[e1,QB,P9,QH,QQ,QL,Ql,P0,Tq,Tn]) (m:=1000000) (Ab.cons Iv (Ab.cons Ep (Ab.cons Eu (Ab.cons Ev (Ab.cons Er (Ab.cons Ew (Ab.cons Eo (Ab.cons Em (Ab.cons FU (Ab.cons FW HdU.none)))))))))) (by kernel_rfl) (by kernel_rfl)
def yX:BU:=⟨111,[(.sc (.int .i64 (.ofNat 8)))],(some ([k5,(.sc (.int .i64 (.ofNat 32))),(.sc (.int .i64 (.ofNat 164)))],[k5,(.sc (.int .i64 (.ofNat 36))),(.sc (.int .i64 (.ofNat 164)))])),(.agg [(.sc (.int .i64 (.ofNat 8))),(Ad []),(Ad []),(.sc (.int .i64 (.ofNat 0))),(.sc (.int .i64 (.ofNat 0))),(.sc (.int .i64 (.ofNat 0))),(.sc (.int .i64 (.ofNat 0))),(.sc (.int .i64 (.ofNat 0))),(.sl .full 0 []),vR,(.sc (.int .i64 (.ofNat 146)))])⟩
theorem kV {mx:Int}:Aw Tryz.prog (HdU.G mx) yX:=HdU.entry (l:=[e1,QB,P9,QH,QQ,QL,Ql,P0,Tq,Tn,yQ]) (m:=1000000) (Ab.cons Iv (Ab.cons Ep (Ab.cons Eu (Ab.cons Ev (Ab.cons Er (Ab.cons Ew (Ab.cons Eo (Ab.cons Em (Ab.cons FU (Ab.cons FW (Ab.cons jX HdU.none))))))))))) (by kernel_rfl) (by kernel_rfl)
def xI:BU:=⟨71,[],(some ([k5,(.sc (.int .i64 (.ofNat 21))),(.sc (.int .i64 (.ofNat 164)))],[k5,(.sc (.int .i64 (.ofNat 37))),(.sc (.int .i64 (.ofNat 164)))])),(.agg [(.sc (.int .i64 (.ofNat 4))),(Ad [98,97,115,105,99]),(Ad []),(.sc (.int .i64 (.ofNat 1))),(.sc (.int .i64 (.ofNat 0))),(.sc (.int .i64 (.ofNat 0))),(.sc (.int .i64 (.ofNat 0))),(.sc (.int .i64 (.ofNat 0))),(.sl .full 0 []),oO,(.sc (.int .i64 (.ofNat 84)))])⟩
theorem nO {mx:Int}:Aw Tryz.prog (HdU.G mx) xI:=HdU.entry (l:=[QB,P9,QH,QQ,QL,Ql,P0,yF,yX]) (m:=1000000) (Ab.cons Ep (Ab.cons Eu (Ab.cons Ev (Ab.cons Er (Ab.cons Ew (Ab.cons Eo (Ab.cons Em (Ab.cons l5 (Ab.cons kV HdU.none))))))))) (by kernel_rfl) (by kernel_rfl)
def wW:BU:=⟨45,[],(some ([k5,(.sc (.int .i64 (.ofNat 21))),(.sc (.int .i64 (.ofNat 164)))],[k5,(.sc (.int .i64 (.ofNat 37))),(.sc (.int .i64 (.ofNat 164)))])),(.agg [(.sc (.int .i64 (.ofNat 4))),(Ad [98,97,115,105,99]),(Ad []),(.sc (.int .i64 (.ofNat 1))),(.sc (.int .i64 (.ofNat 0))),(.sc (.int .i64 (.ofNat 0))),(.sc (.int .i64 (.ofNat 0))),(.sc (.int .i64 (.ofNat 0))),(.sl .full 0 []),oO,(.sc (.int .i64 (.ofNat 84)))])⟩
theorem mI {mx:Int}:Aw Tryz.prog (HdU.G mx) wW:=HdU.entry (l:=[oS,rW,tM,vO,xI]) (m:=1000000) (Ab.cons OX (Ab.cons Rr (Ab.cons T8 (Ab.cons Xs (Ab.cons nO HdU.none))))) (by kernel_rfl) (by kernel_rfl)
def yC:BU:=⟨27,[k0],none,(.Br [(.agg [(.sc (.int .i64 (.ofNat 1))),(Ad []),(Ad []),(.sc (.int .i64 (.ofNat 0))),(.sc (.int .i64 (.ofNat 0))),(.sc (.int .i64 (.ofNat 0))),(.sc (.int .i64 (.ofNat 0))),(.sc (.int .i64 (.ofNat 0))),(.sl .full 0 []),NH,(.sc (.int .i64 (.ofNat 0)))]),(.sl .full 0 [])])⟩
theorem kP {mx:Int}:Aw Tryz.prog (HdU.G mx) yC:=HdU.entry (l:=[e0,zF,zG,xN,xQ,wW]) (m:=1000000) (Ab.cons sD (Ab.cons jI (Ab.cons jZ (Ab.cons nD (Ab.cons jM (Ab.cons mI HdU.none)))))) (by kernel_rfl) (by kernel_rfl)
def nA:BU:=⟨70,[],(some ([Kp,(.sc (.int .i64 (.ofNat 0))),(.sc (.int .i64 (.ofNat 190)))],[Kp,(.sc (.int .i64 (.ofNat 5))),(.sc (.int .i64 (.ofNat 190)))])),(.agg [(.sc (.int .i64 (.ofNat 2))),(Ad [104,111,117,114,115]),k1,(.sc (.int .i64 (.ofNat 0))),(.sc (.int .i64 (.ofNat 0))),(.sc (.int .i64 (.ofNat 0))),(.sc (.int .i64 (.ofNat 0))),(.sc (.int .i64 (.ofNat 0))),(.sl .full 0 []),(.sl .full 0 []),(.sc (.int .i64 (.ofNat 0)))])⟩
theorem M1 {mx:Int}:Aw Tryz.prog (HdU.G mx) nA:=HdU.entry (l:=[]) (m:=1000000) HdU.none (by kernel_rfl) (by kernel_rfl)
def xT:BU:=⟨45,[],(some ([Kp,(.sc (.int .i64 (.ofNat 0))),(.sc (.int .i64 (.ofNat 190)))],[Kp,(.sc (.int .i64 (.ofNat 5))),(.sc (.int .i64 (.ofNat 190)))])),(.agg [(.sc (.int .i64 (.ofNat 2))),(Ad [104,111,117,114,115]),k1,(.sc (.int .i64 (.ofNat 0))),(.sc (.int .i64 (.ofNat 0))),(.sc (.int .i64 (.ofNat 0))),(.sc (.int .i64 (.ofNat 0))),(.sc (.int .i64 (.ofNat 0))),(.sl .full 0 []),(.sl .full 0 []),(.sc (.int .i64 (.ofNat 0)))])⟩
theorem kJ {mx:Int}:Aw Tryz.prog (HdU.G mx) xT:=HdU.entry (l:=[nA]) (m:=1000000) (Ab.cons M1 HdU.none) (by kernel_rfl) (by kernel_rfl)
def oL:BU:=⟨70,[],(some ([Kp,(.sc (.int .i64 (.ofNat 5))),(.sc (.int .i64 (.ofNat 190)))],[Kp,(.sc (.int .i64 (.ofNat 10))),(.sc (.int .i64 (.ofNat 190)))])),(.agg [(.sc (.int .i64 (.ofNat 2))),(Ad [114,97,116,101]),(Ad [69,85,82]),(.sc (.int .i64 (.ofNat 0))),(.sc (.int .i64 (.ofNat 0))),(.sc (.int .i64 (.ofNat 0))),(.sc (.int .i64 (.ofNat 0))),(.sc (.int .i64 (.ofNat 0))),(.sl .full 0 []),(.sl .full 0 []),(.sc (.int .i64 (.ofNat 22)))])⟩
theorem OA {mx:Int}:Aw Tryz.prog (HdU.G mx) oL:=HdU.entry (l:=[]) (m:=1000000) HdU.none (by kernel_rfl) (by kernel_rfl)
def yD:BU:=⟨45,[],(some ([Kp,(.sc (.int .i64 (.ofNat 5))),(.sc (.int .i64 (.ofNat 190)))],[Kp,(.sc (.int .i64 (.ofNat 10))),(.sc (.int .i64 (.ofNat 190)))])),(.agg [(.sc (.int .i64 (.ofNat 2))),(Ad [114,97,116,101]),(Ad [69,85,82]),(.sc (.int .i64 (.ofNat 0))),(.sc (.int .i64 (.ofNat 0))),(.sc (.int .i64 (.ofNat 0))),(.sc (.int .i64 (.ofNat 0))),(.sc (.int .i64 (.ofNat 0))),(.sl .full 0 []),(.sl .full 0 []),(.sc (.int .i64 (.ofNat 22)))])⟩
theorem kH {mx:Int}:Aw Tryz.prog (HdU.G mx) yD:=HdU.entry (l:=[nA,oL]) (m:=1000000) (Ab.cons M1 (Ab.cons OA HdU.none)) (by kernel_rfl) (by kernel_rfl)
def sF:BU:=⟨70,[],(some ([Kp,(.sc (.int .i64 (.ofNat 10))),(.sc (.int .i64 (.ofNat 190)))],[Kp,(.sc (.int .i64 (.ofNat 15))),(.sc (.int .i64 (.ofNat 190)))])),(.agg [(.sc (.int .i64 (.ofNat 2))),k2,(Ad [116,114,117,116,104]),(.sc (.int .i64 (.ofNat 0))),(.sc (.int .i64 (.ofNat 0))),(.sc (.int .i64 (.ofNat 0))),(.sc (.int .i64 (.ofNat 0))),(.sc (.int .i64 (.ofNat 0))),(.sl .full 0 []),(.sl .full 0 []),(.sc (.int .i64 (.ofNat 39)))])⟩
theorem RC {mx:Int}:Aw Tryz.prog (HdU.G mx) sF:=HdU.entry (l:=[]) (m:=1000000) HdU.none (by kernel_rfl) (by kernel_rfl)
end Go.Proofs.YtkfplcngmiljaaaGreatDoor
namespace Go.Proofs.YtkfplcngmiljaaaGreatDoor
open AI
set_option maxRecDepth 100000
set_option maxHeartbeats 4000000
def u7:AV:=.sl .lost 6 [(.sc (.int .i64 (.ofNat 2))),(Ad [104,111,117,114,115]),k1,(.sc (.int .i64 (.ofNat 0))),(.sc (.int .i64 (.ofNat 0))),(.sc (.int .i64 (.ofNat 0))),(.sc (.int .i64 (.ofNat 0))),(.sc (.int .i64 (.ofNat 0))),(.sl .full 0 []),(.sl .full 0 []),(.sc (.int .i64 (.ofNat 0))),(.sc (.int .i64 (.ofNat 2))),(Ad [114,97,116,101]),(Ad [69,85,82]),(.sc (.int .i64 (.ofNat 0))),(.sc (.int .i64 (.ofNat 0))),(.sc (.int .i64 (.ofNat 0))),(.sc (.int .i64 (.ofNat 0))),(.sc (.int .i64 (.ofNat 0))),(.sl .full 0 []),(.sl .full 0 []),(.sc (.int .i64 (.ofNat 22))),(.sc (.int .i64 (.ofNat 2))),k2,(Ad [116,114,117,116,104]),(.sc (.int .i64 (.ofNat 0))),(.sc (.int .i64 (.ofNat 0))),(.sc (.int .i64 (.ofNat 0))),(.sc (.int .i64 (.ofNat 0))),(.sc (.int .i64 (.ofNat 0))),(.sl .full 0 []),(.sl .full 0 []),(.sc (.int .i64 (.ofNat 39))),(.sc (.int .i64 (.ofNat 3))),(Ad [98,97,115,105,99]),(Ad [69,85,82]),(.sc (.int .i64 (.ofNat 1))),(.sc (.int .i64 (.ofNat 0))),(.sc (.int .i64 (.ofNat 0))),(.sc (.int .i64 (.ofNat 0))),(.sc (.int .i64 (.ofNat 0))),(.sl .full 0 []),(.sl .full 0 []),(.sc (.int .i64 (.ofNat 61))),(.sc (.int .i64 (.ofNat 4))),(Ad [98,97,115,105,99]),(Ad []),(.sc (.int .i64 (.ofNat 1))),(.sc (.int .i64 (.ofNat 0))),(.sc (.int .i64 (.ofNat 0))),(.sc (.int .i64 (.ofNat 0))),(.sc (.int .i64 (.ofNat 0))),(.sl .full 0 []),oO,(.sc (.int .i64 (.ofNat 84))),(.sc (.int .i64 (.ofNat 3))),(Ad [98,97,115,105,99]),(Ad [110,117,109,98,101,114]),(.sc (.int .i64 (.ofNat 4))),(.sc (.int .i64 (.ofNat 0))),(.sc (.int .i64 (.ofNat 0))),(.sc (.int .i64 (.ofNat 0))),(.sc (.int .i64 (.ofNat 0))),(.sl .full 0 []),(.sl .full 0 []),(.sc (.int .i64 (.ofNat 165)))]
def xO:BU:=⟨45,[],(some ([Kp,(.sc (.int .i64 (.ofNat 10))),(.sc (.int .i64 (.ofNat 190)))],[Kp,(.sc (.int .i64 (.ofNat 15))),(.sc (.int .i64 (.ofNat 190)))])),(.agg [(.sc (.int .i64 (.ofNat 2))),k2,(Ad [116,114,117,116,104]),(.sc (.int .i64 (.ofNat 0))),(.sc (.int .i64 (.ofNat 0))),(.sc (.int .i64 (.ofNat 0))),(.sc (.int .i64 (.ofNat 0))),(.sc (.int .i64 (.ofNat 0))),(.sl .full 0 []),(.sl .full 0 []),(.sc (.int .i64 (.ofNat 39)))])⟩
theorem mM {mx:Int}:Aw Tryz.prog (HdU.G mx) xO:=HdU.entry (l:=[nA,oL,sF]) (m:=1000000) (Ab.cons M1 (Ab.cons OA (Ab.cons RC HdU.none))) (by kernel_rfl) (by kernel_rfl)
def tQ:BU:=⟨70,[],(some ([Kp,(.sc (.int .i64 (.ofNat 15))),(.sc (.int .i64 (.ofNat 190)))],[Kp,(.sc (.int .i64 (.ofNat 21))),(.sc (.int .i64 (.ofNat 190)))])),(.agg [(.sc (.int .i64 (.ofNat 3))),(Ad [98,97,115,105,99]),(Ad [69,85,82]),(.sc (.int .i64 (.ofNat 1))),(.sc (.int .i64 (.ofNat 0))),(.sc (.int .i64 (.ofNat 0))),(.sc (.int .i64 (.ofNat 0))),(.sc (.int .i64 (.ofNat 0))),(.sl .full 0 []),(.sl .full 0 []),(.sc (.int .i64 (.ofNat 61)))])⟩
theorem TH {mx:Int}:Aw Tryz.prog (HdU.G mx) tQ:=HdU.entry (l:=[]) (m:=1000000) HdU.none (by kernel_rfl) (by kernel_rfl)
def xW:BU:=⟨45,[],(some ([Kp,(.sc (.int .i64 (.ofNat 15))),(.sc (.int .i64 (.ofNat 190)))],[Kp,(.sc (.int .i64 (.ofNat 21))),(.sc (.int .i64 (.ofNat 190)))])),(.agg [(.sc (.int .i64 (.ofNat 3))),(Ad [98,97,115,105,99]),(Ad [69,85,82]),(.sc (.int .i64 (.ofNat 1))),(.sc (.int .i64 (.ofNat 0))),(.sc (.int .i64 (.ofNat 0))),(.sc (.int .i64 (.ofNat 0))),(.sc (.int .i64 (.ofNat 0))),(.sl .full 0 []),(.sl .full 0 []),(.sc (.int .i64 (.ofNat 61)))])⟩
theorem mY {mx:Int}:Aw Tryz.prog (HdU.G mx) xW:=HdU.entry (l:=[nA,oL,sF,tQ]) (m:=1000000) (Ab.cons M1 (Ab.cons OA (Ab.cons RC (Ab.cons TH HdU.none)))) (by kernel_rfl) (by kernel_rfl)
def xE:BU:=⟨128,[(.sc (.int .i64 (.ofNat 0)))],(some ([Kp,(.sc (.int .i64 (.ofNat 28))),(.sc (.int .i64 (.ofNat 190)))],[Kp,(.sc (.int .i64 (.ofNat 29))),(.sc (.int .i64 (.ofNat 190)))])),(.sc (.int .i64 (.ofNat 8766)))⟩
theorem mG {mx:Int}:Aw Tryz.prog (HdU.G mx) xE:=HdU.entry (l:=[rJ]) (m:=1000000) (Ab.cons Ru HdU.none) (by kernel_rfl) (by kernel_rfl)
def xY:BU:=⟨128,[(.sc (.int .i64 (.ofNat 0)))],(some ([Kp,(.sc (.int .i64 (.ofNat 30))),(.sc (.int .i64 (.ofNat 190)))],[Kp,(.sc (.int .i64 (.ofNat 31))),(.sc (.int .i64 (.ofNat 190)))])),(.sc (.int .i64 (.ofNat 8766)))⟩
theorem jF {mx:Int}:Aw Tryz.prog (HdU.G mx) xY:=HdU.entry (l:=[rJ]) (m:=1000000) (Ab.cons Ru HdU.none) (by kernel_rfl) (by kernel_rfl)
def zL:BU:=⟨110,[],(some ([Kp,(.sc (.int .i64 (.ofNat 25))),(.sc (.int .i64 (.ofNat 190)))],[Kp,(.sc (.int .i64 (.ofNat 31))),(.sc (.int .i64 (.ofNat 190)))])),(.agg [(.sc (.int .i64 (.ofNat 5))),(Ad []),(Ad []),(.sc (.int .i64 (.ofNat 1))),(.sc (.int .i64 (.ofNat 8766))),(.sc (.int .i64 (.ofNat 36525))),(.sc (.int .i64 (.ofNat 8766))),(.sc (.int .i64 (.ofNat 0))),(.sl .full 0 []),(.sl .full 0 []),(.sc (.int .i64 (.ofNat 104)))])⟩
theorem lM {mx:Int}:Aw Tryz.prog (HdU.G mx) zL:=HdU.entry (l:=[QB,P9,QH,QQ,QL,Ql,P0,xE,xY]) (m:=1000000) (Ab.cons Ep (Ab.cons Eu (Ab.cons Ev (Ab.cons Er (Ab.cons Ew (Ab.cons Eo (Ab.cons Em (Ab.cons mG (Ab.cons jF HdU.none))))))))) (by kernel_rfl) (by kernel_rfl)
def yW:BU:=⟨75,[],(some ([Kp,(.sc (.int .i64 (.ofNat 33))),(.sc (.int .i64 (.ofNat 190)))],[Kp,(.sc (.int .i64 (.ofNat 35))),(.sc (.int .i64 (.ofNat 190)))])),(.agg [(.sc (.int .i64 (.ofNat 11))),(Ad []),(Ad [69,85,82]),(.sc (.int .i64 (.ofNat 100))),(.sc (.int .i64 (.ofNat 0))),(.sc (.int .i64 (.ofNat 0))),(.sc (.int .i64 (.ofNat 0))),(.sc (.int .i64 (.ofNat 0))),(.sl .full 0 []),(.sl .full 0 []),(.sc (.int .i64 (.ofNat 153)))])⟩
theorem lQ {mx:Int}:Aw Tryz.prog (HdU.G mx) yW:=HdU.entry (l:=[e1,QB,P9,QH,QQ,QL,Ql,P0,Tq,Tn]) (m:=1000000) (Ab.cons Iv (Ab.cons Ep (Ab.cons Eu (Ab.cons Ev (Ab.cons Er (Ab.cons Ew (Ab.cons Eo (Ab.cons Em (Ab.cons FU (Ab.cons FW HdU.none)))))))))) (by kernel_rfl) (by kernel_rfl)
def xL:BU:=⟨111,[(.sc (.int .i64 (.ofNat 8)))],(some ([Kp,(.sc (.int .i64 (.ofNat 32))),(.sc (.int .i64 (.ofNat 190)))],[Kp,(.sc (.int .i64 (.ofNat 36))),(.sc (.int .i64 (.ofNat 190)))])),(.agg [(.sc (.int .i64 (.ofNat 8))),(Ad []),(Ad []),(.sc (.int .i64 (.ofNat 0))),(.sc (.int .i64 (.ofNat 0))),(.sc (.int .i64 (.ofNat 0))),(.sc (.int .i64 (.ofNat 0))),(.sc (.int .i64 (.ofNat 0))),(.sl .full 0 []),vR,(.sc (.int .i64 (.ofNat 146)))])⟩
theorem lW {mx:Int}:Aw Tryz.prog (HdU.G mx) xL:=HdU.entry (l:=[e1,QB,P9,QH,QQ,QL,Ql,P0,Tq,Tn,yW]) (m:=1000000) (Ab.cons Iv (Ab.cons Ep (Ab.cons Eu (Ab.cons Ev (Ab.cons Er (Ab.cons Ew (Ab.cons Eo (Ab.cons Em (Ab.cons FU (Ab.cons FW (Ab.cons lQ HdU.none))))))))))) (by kernel_rfl) (by kernel_rfl)
def uX:BU:=⟨71,[],(some ([Kp,(.sc (.int .i64 (.ofNat 21))),(.sc (.int .i64 (.ofNat 190)))],[Kp,(.sc (.int .i64 (.ofNat 37))),(.sc (.int .i64 (.ofNat 190)))])),(.agg [(.sc (.int .i64 (.ofNat 4))),(Ad [98,97,115,105,99]),(Ad []),(.sc (.int .i64 (.ofNat 1))),(.sc (.int .i64 (.ofNat 0))),(.sc (.int .i64 (.ofNat 0))),(.sc (.int .i64 (.ofNat 0))),(.sc (.int .i64 (.ofNat 0))),(.sl .full 0 []),oO,(.sc (.int .i64 (.ofNat 84)))])⟩
theorem Zd {mx:Int}:Aw Tryz.prog (HdU.G mx) uX:=HdU.entry (l:=[QB,P9,QH,QQ,QL,Ql,P0,zL,xL]) (m:=1000000) (Ab.cons Ep (Ab.cons Eu (Ab.cons Ev (Ab.cons Er (Ab.cons Ew (Ab.cons Eo (Ab.cons Em (Ab.cons lM (Ab.cons lW HdU.none))))))))) (by kernel_rfl) (by kernel_rfl)
def xS:BU:=⟨45,[],(some ([Kp,(.sc (.int .i64 (.ofNat 21))),(.sc (.int .i64 (.ofNat 190)))],[Kp,(.sc (.int .i64 (.ofNat 37))),(.sc (.int .i64 (.ofNat 190)))])),(.agg [(.sc (.int .i64 (.ofNat 4))),(Ad [98,97,115,105,99]),(Ad []),(.sc (.int .i64 (.ofNat 1))),(.sc (.int .i64 (.ofNat 0))),(.sc (.int .i64 (.ofNat 0))),(.sc (.int .i64 (.ofNat 0))),(.sc (.int .i64 (.ofNat 0))),(.sl .full 0 []),oO,(.sc (.int .i64 (.ofNat 84)))])⟩
theorem nV {mx:Int}:Aw Tryz.prog (HdU.G mx) xS:=HdU.entry (l:=[nA,oL,sF,tQ,uX]) (m:=1000000) (Ab.cons M1 (Ab.cons OA (Ab.cons RC (Ab.cons TH (Ab.cons Zd HdU.none))))) (by kernel_rfl) (by kernel_rfl)
def xM:BU:=⟨70,[],(some ([Kp,(.sc (.int .i64 (.ofNat 37))),(.sc (.int .i64 (.ofNat 190)))],[Kp,(.sc (.int .i64 (.ofNat 43))),(.sc (.int .i64 (.ofNat 190)))])),(.agg [(.sc (.int .i64 (.ofNat 3))),(Ad [98,97,115,105,99]),(Ad [110,117,109,98,101,114]),(.sc (.int .i64 (.ofNat 4))),(.sc (.int .i64 (.ofNat 0))),(.sc (.int .i64 (.ofNat 0))),(.sc (.int .i64 (.ofNat 0))),(.sc (.int .i64 (.ofNat 0))),(.sl .full 0 []),(.sl .full 0 []),(.sc (.int .i64 (.ofNat 165)))])⟩
theorem kU {mx:Int}:Aw Tryz.prog (HdU.G mx) xM:=HdU.entry (l:=[]) (m:=1000000) HdU.none (by kernel_rfl) (by kernel_rfl)
def w7:BU:=⟨45,[],(some ([Kp,(.sc (.int .i64 (.ofNat 37))),(.sc (.int .i64 (.ofNat 190)))],[Kp,(.sc (.int .i64 (.ofNat 43))),(.sc (.int .i64 (.ofNat 190)))])),(.agg [(.sc (.int .i64 (.ofNat 3))),(Ad [98,97,115,105,99]),(Ad [110,117,109,98,101,114]),(.sc (.int .i64 (.ofNat 4))),(.sc (.int .i64 (.ofNat 0))),(.sc (.int .i64 (.ofNat 0))),(.sc (.int .i64 (.ofNat 0))),(.sc (.int .i64 (.ofNat 0))),(.sl .full 0 []),(.sl .full 0 []),(.sc (.int .i64 (.ofNat 165)))])⟩
theorem jH {mx:Int}:Aw Tryz.prog (HdU.G mx) w7:=HdU.entry (l:=[nA,oL,sF,tQ,uX,xM]) (m:=1000000) (Ab.cons M1 (Ab.cons OA (Ab.cons RC (Ab.cons TH (Ab.cons Zd (Ab.cons kU HdU.none)))))) (by kernel_rfl) (by kernel_rfl)
def xR:BU:=⟨27,[zJ],none,(.Br [(.agg [(.sc (.int .i64 (.ofNat 1))),(Ad []),(Ad []),(.sc (.int .i64 (.ofNat 0))),(.sc (.int .i64 (.ofNat 0))),(.sc (.int .i64 (.ofNat 0))),(.sc (.int .i64 (.ofNat 0))),(.sc (.int .i64 (.ofNat 0))),(.sl .full 0 []),u7,(.sc (.int .i64 (.ofNat 0)))]),(.sl .full 0 [])])⟩
theorem lL {mx:Int}:Aw Tryz.prog (HdU.G mx) xR:=HdU.entry (l:=[wZ,xT,yD,xO,xW,xS,w7]) (m:=1000000) (Ab.cons mU (Ab.cons kJ (Ab.cons kH (Ab.cons mM (Ab.cons mY (Ab.cons nV (Ab.cons jH HdU.none))))))) (by kernel_rfl) (by kernel_rfl)
def Wq:BU:=⟨29,[(.agg [(.sc (.int .i64 (.ofNat 1))),(Ad []),(Ad []),(.sc (.int .i64 (.ofNat 0))),(.sc (.int .i64 (.ofNat 0))),(.sc (.int .i64 (.ofNat 0))),(.sc (.int .i64 (.ofNat 0))),(.sc (.int .i64 (.ofNat 0))),(.sl .full 0 []),NH,(.sc (.int .i64 (.ofNat 0)))])],none,(.sc (.bool true))⟩
theorem Hm {mx:Int}:Aw Tryz.prog (HdU.G mx) Wq:=HdU.entry (l:=[]) (m:=1000000) HdU.none (by kernel_rfl) (by kernel_rfl)
def wS:BU:=⟨16,[(.agg [(.sc (.int .i64 (.ofNat 1))),(Ad []),(Ad []),(.sc (.int .i64 (.ofNat 0))),(.sc (.int .i64 (.ofNat 0))),(.sc (.int .i64 (.ofNat 0))),(.sc (.int .i64 (.ofNat 0))),(.sc (.int .i64 (.ofNat 0))),(.sl .full 0 []),NH,(.sc (.int .i64 (.ofNat 0)))])],none,(.sl .full 0 [])⟩
theorem iU {mx:Int}:Aw Tryz.prog (HdU.G mx) wS:=HdU.entry (l:=[Wq]) (m:=1000000) (Ab.cons Hm HdU.none) (by kernel_rfl) (by kernel_rfl)
def xC:BU:=⟨29,[(.agg [(.sc (.int .i64 (.ofNat 16))),(Ad [43]),(Ad []),(.sc (.int .i64 (.ofNat 0))),(.sc (.int .i64 (.ofNat 0))),(.sc (.int .i64 (.ofNat 0))),(.sc (.int .i64 (.ofNat 0))),(.sc (.int .i64 (.ofNat 0))),(.sl .full 0 []),oG,(.sc (.int .i64 (.ofNat 0)))])],none,(.sc (.bool true))⟩
theorem n7 {mx:Int}:Aw Tryz.prog (HdU.G mx) xC:=HdU.entry (l:=[]) (m:=1000000) HdU.none (by kernel_rfl) (by kernel_rfl)
def yS:BU:=⟨13,[(.agg [(.sc (.int .i64 (.ofNat 1))),(Ad []),(Ad []),(.sc (.int .i64 (.ofNat 0))),(.sc (.int .i64 (.ofNat 0))),(.sc (.int .i64 (.ofNat 0))),(.sc (.int .i64 (.ofNat 0))),(.sc (.int .i64 (.ofNat 0))),(.sl .full 0 []),NH,(.sc (.int .i64 (.ofNat 0)))]),(.agg [(.sc (.int .i64 (.ofNat 16))),(Ad [43]),(Ad []),(.sc (.int .i64 (.ofNat 0))),(.sc (.int .i64 (.ofNat 0))),(.sc (.int .i64 (.ofNat 0))),(.sc (.int .i64 (.ofNat 0))),(.sc (.int .i64 (.ofNat 0))),(.sl .full 0 []),oG,(.sc (.int .i64 (.ofNat 0)))])],none,(.Br [(Ad [69,85,82]),(.sl .full 0 [])])⟩
theorem jB {mx:Int}:Aw Tryz.prog (HdU.G mx) yS:=HdU.entry (l:=[Wq,xC]) (m:=1000000) (Ab.cons Hm (Ab.cons n7 HdU.none)) (by kernel_rfl) (by kernel_rfl)
def zE:BU:=⟨28,[(.agg [(.sc (.int .i64 (.ofNat 1))),(Ad []),(Ad []),(.sc (.int .i64 (.ofNat 0))),(.sc (.int .i64 (.ofNat 0))),(.sc (.int .i64 (.ofNat 0))),(.sc (.int .i64 (.ofNat 0))),(.sc (.int .i64 (.ofNat 0))),(.sl .full 0 []),NH,(.sc (.int .i64 (.ofNat 0)))]),k6,(Ad [69,85,82]),(.sc (.int .i64 (.ofNat 0)))],none,(.sc (.bool true))⟩
theorem kF {mx:Int}:Aw Tryz.prog (HdU.G mx) zE:=HdU.entry (l:=[xH,yS]) (m:=1000000) (Ab.cons nC (Ab.cons jB HdU.none)) (by kernel_rfl) (by kernel_rfl)
def yP:BU:=⟨29,[(.agg [(.sc (.int .i64 (.ofNat 16))),(Ad [97,110,100]),(Ad []),(.sc (.int .i64 (.ofNat 0))),(.sc (.int .i64 (.ofNat 0))),(.sc (.int .i64 (.ofNat 0))),(.sc (.int .i64 (.ofNat 0))),(.sc (.int .i64 (.ofNat 0))),(.sl .full 0 []),oX,(.sc (.int .i64 (.ofNat 0)))])],none,(.sc (.bool true))⟩
theorem lG {mx:Int}:Aw Tryz.prog (HdU.G mx) yP:=HdU.entry (l:=[]) (m:=1000000) HdU.none (by kernel_rfl) (by kernel_rfl)
def xF:BU:=⟨13,[(.agg [(.sc (.int .i64 (.ofNat 1))),(Ad []),(Ad []),(.sc (.int .i64 (.ofNat 0))),(.sc (.int .i64 (.ofNat 0))),(.sc (.int .i64 (.ofNat 0))),(.sc (.int .i64 (.ofNat 0))),(.sc (.int .i64 (.ofNat 0))),(.sl .full 0 []),NH,(.sc (.int .i64 (.ofNat 0)))]),(.agg [(.sc (.int .i64 (.ofNat 16))),(Ad [97,110,100]),(Ad []),(.sc (.int .i64 (.ofNat 0))),(.sc (.int .i64 (.ofNat 0))),(.sc (.int .i64 (.ofNat 0))),(.sc (.int .i64 (.ofNat 0))),(.sc (.int .i64 (.ofNat 0))),(.sl .full 0 []),oX,(.sc (.int .i64 (.ofNat 0)))])],none,(.Br [(Ad [116,114,117,116,104]),(.sl .full 0 [])])⟩
theorem jD {mx:Int}:Aw Tryz.prog (HdU.G mx) xF:=HdU.entry (l:=[Wq,yP]) (m:=1000000) (Ab.cons Hm (Ab.cons lG HdU.none)) (by kernel_rfl) (by kernel_rfl)
end Go.Proofs.YtkfplcngmiljaaaGreatDoor
namespace Go.Proofs.YtkfplcngmiljaaaGreatDoor
open AI
set_option maxRecDepth 100000
set_option maxHeartbeats 4000000
def wR:BU:=⟨28,[(.agg [(.sc (.int .i64 (.ofNat 1))),(Ad []),(Ad []),(.sc (.int .i64 (.ofNat 0))),(.sc (.int .i64 (.ofNat 0))),(.sc (.int .i64 (.ofNat 0))),(.sc (.int .i64 (.ofNat 0))),(.sc (.int .i64 (.ofNat 0))),(.sl .full 0 []),NH,(.sc (.int .i64 (.ofNat 0)))]),k8,(Ad [116,114,117,116,104]),(.sc (.int .i64 (.ofNat 0)))],none,(.sc (.bool true))⟩
theorem nG {mx:Int}:Aw Tryz.prog (HdU.G mx) wR:=HdU.entry (l:=[xP,xF]) (m:=1000000) (Ab.cons mW (Ab.cons jD HdU.none)) (by kernel_rfl) (by kernel_rfl)
def wT:BU:=⟨29,[(.agg [(.sc (.int .i64 (.ofNat 15))),(Ad []),(Ad []),(.sc (.int .i64 (.ofNat 0))),(.sc (.int .i64 (.ofNat 0))),(.sc (.int .i64 (.ofNat 0))),(.sc (.int .i64 (.ofNat 0))),(.sc (.int .i64 (.ofNat 0))),(.sl .full 0 []),oP,(.sc (.int .i64 (.ofNat 0)))])],none,(.sc (.bool true))⟩
theorem mN {mx:Int}:Aw Tryz.prog (HdU.G mx) wT:=HdU.entry (l:=[]) (m:=1000000) HdU.none (by kernel_rfl) (by kernel_rfl)
def sH:BU:=⟨13,[(.agg [(.sc (.int .i64 (.ofNat 1))),(Ad []),(Ad []),(.sc (.int .i64 (.ofNat 0))),(.sc (.int .i64 (.ofNat 0))),(.sc (.int .i64 (.ofNat 0))),(.sc (.int .i64 (.ofNat 0))),(.sc (.int .i64 (.ofNat 0))),(.sl .full 0 []),NH,(.sc (.int .i64 (.ofNat 0)))]),(.agg [(.sc (.int .i64 (.ofNat 15))),(Ad []),(Ad []),(.sc (.int .i64 (.ofNat 0))),(.sc (.int .i64 (.ofNat 0))),(.sc (.int .i64 (.ofNat 0))),(.sc (.int .i64 (.ofNat 0))),(.sc (.int .i64 (.ofNat 0))),(.sl .full 0 []),oP,(.sc (.int .i64 (.ofNat 0)))])],none,(.Br [(Ad [116,114,117,116,104]),(.sl .full 0 [])])⟩
theorem cP {mx:Int}:Aw Tryz.prog (HdU.G mx) sH:=HdU.entry (l:=[Wq,wT]) (m:=1000000) (Ab.cons Hm (Ab.cons mN HdU.none)) (by kernel_rfl) (by kernel_rfl)
def sV:BU:=⟨28,[(.agg [(.sc (.int .i64 (.ofNat 1))),(Ad []),(Ad []),(.sc (.int .i64 (.ofNat 0))),(.sc (.int .i64 (.ofNat 0))),(.sc (.int .i64 (.ofNat 0))),(.sc (.int .i64 (.ofNat 0))),(.sc (.int .i64 (.ofNat 0))),(.sl .full 0 []),NH,(.sc (.int .i64 (.ofNat 0)))]),vH,(Ad [116,114,117,116,104]),(.sc (.int .i64 (.ofNat 0)))],none,(.sc (.bool true))⟩
theorem eZ {mx:Int}:Aw Tryz.prog (HdU.G mx) sV:=HdU.entry (l:=[w8,sH]) (m:=1000000) (Ab.cons mV (Ab.cons cP HdU.none)) (by kernel_rfl) (by kernel_rfl)
def pS:BU:=⟨29,[(.agg [(.sc (.int .i64 (.ofNat 16))),(Ad [47]),(Ad []),(.sc (.int .i64 (.ofNat 0))),(.sc (.int .i64 (.ofNat 0))),(.sc (.int .i64 (.ofNat 0))),(.sc (.int .i64 (.ofNat 0))),(.sc (.int .i64 (.ofNat 0))),(.sl .full 0 []),oK,(.sc (.int .i64 (.ofNat 0)))])],none,(.sc (.bool true))⟩
theorem dB {mx:Int}:Aw Tryz.prog (HdU.G mx) pS:=HdU.entry (l:=[]) (m:=1000000) HdU.none (by kernel_rfl) (by kernel_rfl)
def rO:BU:=⟨13,[(.agg [(.sc (.int .i64 (.ofNat 1))),(Ad []),(Ad []),(.sc (.int .i64 (.ofNat 0))),(.sc (.int .i64 (.ofNat 0))),(.sc (.int .i64 (.ofNat 0))),(.sc (.int .i64 (.ofNat 0))),(.sc (.int .i64 (.ofNat 0))),(.sl .full 0 []),NH,(.sc (.int .i64 (.ofNat 0)))]),(.agg [(.sc (.int .i64 (.ofNat 16))),(Ad [47]),(Ad []),(.sc (.int .i64 (.ofNat 0))),(.sc (.int .i64 (.ofNat 0))),(.sc (.int .i64 (.ofNat 0))),(.sc (.int .i64 (.ofNat 0))),(.sc (.int .i64 (.ofNat 0))),(.sl .full 0 []),oK,(.sc (.int .i64 (.ofNat 0)))])],none,(.Br [(Ad [69,85,82]),(.sl .full 0 [])])⟩
theorem bF {mx:Int}:Aw Tryz.prog (HdU.G mx) rO:=HdU.entry (l:=[Wq,pS]) (m:=1000000) (Ab.cons Hm (Ab.cons dB HdU.none)) (by kernel_rfl) (by kernel_rfl)
def pT:BU:=⟨28,[(.agg [(.sc (.int .i64 (.ofNat 1))),(Ad []),(Ad []),(.sc (.int .i64 (.ofNat 0))),(.sc (.int .i64 (.ofNat 0))),(.sc (.int .i64 (.ofNat 0))),(.sc (.int .i64 (.ofNat 0))),(.sc (.int .i64 (.ofNat 0))),(.sl .full 0 []),NH,(.sc (.int .i64 (.ofNat 0)))]),Vd,(Ad [69,85,82]),(.sc (.int .i64 (.ofNat 0)))],none,(.sc (.bool true))⟩
theorem aR {mx:Int}:Aw Tryz.prog (HdU.G mx) pT:=HdU.entry (l:=[yA,rO]) (m:=1000000) (Ab.cons lS (Ab.cons bF HdU.none)) (by kernel_rfl) (by kernel_rfl)
def rG:BU:=⟨29,[(.agg [(.sc (.int .i64 (.ofNat 16))),(Ad [42]),(Ad []),(.sc (.int .i64 (.ofNat 0))),(.sc (.int .i64 (.ofNat 0))),(.sc (.int .i64 (.ofNat 0))),(.sc (.int .i64 (.ofNat 0))),(.sc (.int .i64 (.ofNat 0))),(.sl .full 0 []),oM,(.sc (.int .i64 (.ofNat 0)))])],none,(.sc (.bool true))⟩
theorem bU {mx:Int}:Aw Tryz.prog (HdU.G mx) rG:=HdU.entry (l:=[]) (m:=1000000) HdU.none (by kernel_rfl) (by kernel_rfl)
def qQ:BU:=⟨13,[(.agg [(.sc (.int .i64 (.ofNat 1))),(Ad []),(Ad []),(.sc (.int .i64 (.ofNat 0))),(.sc (.int .i64 (.ofNat 0))),(.sc (.int .i64 (.ofNat 0))),(.sc (.int .i64 (.ofNat 0))),(.sc (.int .i64 (.ofNat 0))),(.sl .full 0 []),NH,(.sc (.int .i64 (.ofNat 0)))]),(.agg [(.sc (.int .i64 (.ofNat 16))),(Ad [42]),(Ad []),(.sc (.int .i64 (.ofNat 0))),(.sc (.int .i64 (.ofNat 0))),(.sc (.int .i64 (.ofNat 0))),(.sc (.int .i64 (.ofNat 0))),(.sc (.int .i64 (.ofNat 0))),(.sl .full 0 []),oM,(.sc (.int .i64 (.ofNat 0)))])],none,(.Br [k1,(.sl .full 0 [])])⟩
theorem fM {mx:Int}:Aw Tryz.prog (HdU.G mx) qQ:=HdU.entry (l:=[Wq,rG]) (m:=1000000) (Ab.cons Hm (Ab.cons bU HdU.none)) (by kernel_rfl) (by kernel_rfl)
def qO:BU:=⟨28,[(.agg [(.sc (.int .i64 (.ofNat 1))),(Ad []),(Ad []),(.sc (.int .i64 (.ofNat 0))),(.sc (.int .i64 (.ofNat 0))),(.sc (.int .i64 (.ofNat 0))),(.sc (.int .i64 (.ofNat 0))),(.sc (.int .i64 (.ofNat 0))),(.sl .full 0 []),NH,(.sc (.int .i64 (.ofNat 0)))]),XZ,k1,(.sc (.int .i64 (.ofNat 0)))],none,(.sc (.bool true))⟩
theorem bD {mx:Int}:Aw Tryz.prog (HdU.G mx) qO:=HdU.entry (l:=[xB,qQ]) (m:=1000000) (Ab.cons iZ (Ab.cons fM HdU.none)) (by kernel_rfl) (by kernel_rfl)
def pU:BU:=⟨29,[(.agg [(.sc (.int .i64 (.ofNat 16))),(Ad [42]),(Ad []),(.sc (.int .i64 (.ofNat 0))),(.sc (.int .i64 (.ofNat 0))),(.sc (.int .i64 (.ofNat 0))),(.sc (.int .i64 (.ofNat 0))),(.sc (.int .i64 (.ofNat 0))),(.sl .full 0 []),oC,(.sc (.int .i64 (.ofNat 0)))])],none,(.sc (.bool true))⟩
theorem aW {mx:Int}:Aw Tryz.prog (HdU.G mx) pU:=HdU.entry (l:=[]) (m:=1000000) HdU.none (by kernel_rfl) (by kernel_rfl)
def sK:BU:=⟨13,[(.agg [(.sc (.int .i64 (.ofNat 1))),(Ad []),(Ad []),(.sc (.int .i64 (.ofNat 0))),(.sc (.int .i64 (.ofNat 0))),(.sc (.int .i64 (.ofNat 0))),(.sc (.int .i64 (.ofNat 0))),(.sc (.int .i64 (.ofNat 0))),(.sl .full 0 []),NH,(.sc (.int .i64 (.ofNat 0)))]),(.agg [(.sc (.int .i64 (.ofNat 16))),(Ad [42]),(Ad []),(.sc (.int .i64 (.ofNat 0))),(.sc (.int .i64 (.ofNat 0))),(.sc (.int .i64 (.ofNat 0))),(.sc (.int .i64 (.ofNat 0))),(.sc (.int .i64 (.ofNat 0))),(.sl .full 0 []),oC,(.sc (.int .i64 (.ofNat 0)))])],none,(.Br [(Ad []),(.sl .lost 1 [(.sc (.int .i64 (.ofNat 11))),(.sc (.int .i64 (.ofNat 0)))])])⟩
theorem aO {mx:Int}:Aw Tryz.prog (HdU.G mx) sK:=HdU.entry (l:=[Wq,pU]) (m:=1000000) (Ab.cons Hm (Ab.cons aW HdU.none)) (by kernel_rfl) (by kernel_rfl)
def qJ:BU:=⟨28,[(.agg [(.sc (.int .i64 (.ofNat 1))),(Ad []),(Ad []),(.sc (.int .i64 (.ofNat 0))),(.sc (.int .i64 (.ofNat 0))),(.sc (.int .i64 (.ofNat 0))),(.sc (.int .i64 (.ofNat 0))),(.sc (.int .i64 (.ofNat 0))),(.sl .full 0 []),NH,(.sc (.int .i64 (.ofNat 0)))]),Vc,(Ad []),(.sc (.int .i64 (.ofNat 11)))],none,(.sc (.bool true))⟩
theorem eA {mx:Int}:Aw Tryz.prog (HdU.G mx) qJ:=HdU.entry (l:=[yG,sK]) (m:=1000000) (Ab.cons jO (Ab.cons aO HdU.none)) (by kernel_rfl) (by kernel_rfl)
def p5:BU:=⟨29,[(.agg [(.sc (.int .i64 (.ofNat 16))),(Ad [43]),(Ad []),(.sc (.int .i64 (.ofNat 0))),(.sc (.int .i64 (.ofNat 0))),(.sc (.int .i64 (.ofNat 0))),(.sc (.int .i64 (.ofNat 0))),(.sc (.int .i64 (.ofNat 0))),(.sl .full 0 []),oR,(.sc (.int .i64 (.ofNat 0)))])],none,(.sc (.bool true))⟩
theorem Z3 {mx:Int}:Aw Tryz.prog (HdU.G mx) p5:=HdU.entry (l:=[]) (m:=1000000) HdU.none (by kernel_rfl) (by kernel_rfl)
def pY:BU:=⟨13,[(.agg [(.sc (.int .i64 (.ofNat 1))),(Ad []),(Ad []),(.sc (.int .i64 (.ofNat 0))),(.sc (.int .i64 (.ofNat 0))),(.sc (.int .i64 (.ofNat 0))),(.sc (.int .i64 (.ofNat 0))),(.sc (.int .i64 (.ofNat 0))),(.sl .full 0 []),NH,(.sc (.int .i64 (.ofNat 0)))]),(.agg [(.sc (.int .i64 (.ofNat 16))),(Ad [43]),(Ad []),(.sc (.int .i64 (.ofNat 0))),(.sc (.int .i64 (.ofNat 0))),(.sc (.int .i64 (.ofNat 0))),(.sc (.int .i64 (.ofNat 0))),(.sc (.int .i64 (.ofNat 0))),(.sl .full 0 []),oR,(.sc (.int .i64 (.ofNat 0)))])],none,(.Br [(Ad []),(.sl .lost 1 [(.sc (.int .i64 (.ofNat 11))),(.sc (.int .i64 (.ofNat 0)))])])⟩
theorem eX {mx:Int}:Aw Tryz.prog (HdU.G mx) pY:=HdU.entry (l:=[Wq,p5]) (m:=1000000) (Ab.cons Hm (Ab.cons Z3 HdU.none)) (by kernel_rfl) (by kernel_rfl)
def pK:BU:=⟨28,[(.agg [(.sc (.int .i64 (.ofNat 1))),(Ad []),(Ad []),(.sc (.int .i64 (.ofNat 0))),(.sc (.int .i64 (.ofNat 0))),(.sc (.int .i64 (.ofNat 0))),(.sc (.int .i64 (.ofNat 0))),(.sc (.int .i64 (.ofNat 0))),(.sl .full 0 []),NH,(.sc (.int .i64 (.ofNat 0)))]),Zg,(Ad []),(.sc (.int .i64 (.ofNat 11)))],none,(.sc (.bool true))⟩
theorem eD {mx:Int}:Aw Tryz.prog (HdU.G mx) pK:=HdU.entry (l:=[yV,pY]) (m:=1000000) (Ab.cons mL (Ab.cons eX HdU.none)) (by kernel_rfl) (by kernel_rfl)
def qW:BU:=⟨29,[(.agg [(.sc (.int .i64 (.ofNat 16))),(Ad [43]),(Ad []),(.sc (.int .i64 (.ofNat 0))),(.sc (.int .i64 (.ofNat 0))),(.sc (.int .i64 (.ofNat 0))),(.sc (.int .i64 (.ofNat 0))),(.sc (.int .i64 (.ofNat 0))),(.sl .full 0 []),oN,(.sc (.int .i64 (.ofNat 0)))])],none,(.sc (.bool true))⟩
theorem cH {mx:Int}:Aw Tryz.prog (HdU.G mx) qW:=HdU.entry (l:=[]) (m:=1000000) HdU.none (by kernel_rfl) (by kernel_rfl)
def qA:BU:=⟨13,[(.agg [(.sc (.int .i64 (.ofNat 1))),(Ad []),(Ad []),(.sc (.int .i64 (.ofNat 0))),(.sc (.int .i64 (.ofNat 0))),(.sc (.int .i64 (.ofNat 0))),(.sc (.int .i64 (.ofNat 0))),(.sc (.int .i64 (.ofNat 0))),(.sl .full 0 []),NH,(.sc (.int .i64 (.ofNat 0)))]),(.agg [(.sc (.int .i64 (.ofNat 16))),(Ad [43]),(Ad []),(.sc (.int .i64 (.ofNat 0))),(.sc (.int .i64 (.ofNat 0))),(.sc (.int .i64 (.ofNat 0))),(.sc (.int .i64 (.ofNat 0))),(.sc (.int .i64 (.ofNat 0))),(.sl .full 0 []),oN,(.sc (.int .i64 (.ofNat 0)))])],none,(.Br [(Ad []),(.sl .lost 1 [(.sc (.int .i64 (.ofNat 91))),(.sc (.int .i64 (.ofNat 0)))])])⟩
theorem aI {mx:Int}:Aw Tryz.prog (HdU.G mx) qA:=HdU.entry (l:=[Wq,qW]) (m:=1000000) (Ab.cons Hm (Ab.cons cH HdU.none)) (by kernel_rfl) (by kernel_rfl)
end Go.Proofs.YtkfplcngmiljaaaGreatDoor
namespace Go.Proofs.YtkfplcngmiljaaaGreatDoor
open AI
set_option maxRecDepth 100000
set_option maxHeartbeats 4000000
def sA:BU:=⟨28,[(.agg [(.sc (.int .i64 (.ofNat 1))),(Ad []),(Ad []),(.sc (.int .i64 (.ofNat 0))),(.sc (.int .i64 (.ofNat 0))),(.sc (.int .i64 (.ofNat 0))),(.sc (.int .i64 (.ofNat 0))),(.sc (.int .i64 (.ofNat 0))),(.sl .full 0 []),NH,(.sc (.int .i64 (.ofNat 0)))]),(Ad [120,32,43,32,49]),(Ad []),(.sc (.int .i64 (.ofNat 91)))],none,(.sc (.bool true))⟩
theorem dN {mx:Int}:Aw Tryz.prog (HdU.G mx) sA:=HdU.entry (l:=[yL,qA]) (m:=1000000) (Ab.cons mE (Ab.cons aI HdU.none)) (by kernel_rfl) (by kernel_rfl)
def rQ:BU:=⟨29,[(.agg [(.sc (.int .i64 (.ofNat 13))),(Ad []),(Ad []),(.sc (.int .i64 (.ofNat 2))),(.sc (.int .i64 (.ofNat 0))),(.sc (.int .i64 (.ofNat 0))),(.sc (.int .i64 (.ofNat 0))),(.sc (.int .i64 (.ofNat 0))),(.sl .full 0 []),(.sl .full 0 []),(.sc (.int .i64 (.ofNat 0)))])],none,(.sc (.bool true))⟩
theorem aA {mx:Int}:Aw Tryz.prog (HdU.G mx) rQ:=HdU.entry (l:=[]) (m:=1000000) HdU.none (by kernel_rfl) (by kernel_rfl)
def qE:BU:=⟨13,[(.agg [(.sc (.int .i64 (.ofNat 1))),(Ad []),(Ad []),(.sc (.int .i64 (.ofNat 0))),(.sc (.int .i64 (.ofNat 0))),(.sc (.int .i64 (.ofNat 0))),(.sc (.int .i64 (.ofNat 0))),(.sc (.int .i64 (.ofNat 0))),(.sl .full 0 []),NH,(.sc (.int .i64 (.ofNat 0)))]),(.agg [(.sc (.int .i64 (.ofNat 13))),(Ad []),(Ad []),(.sc (.int .i64 (.ofNat 2))),(.sc (.int .i64 (.ofNat 0))),(.sc (.int .i64 (.ofNat 0))),(.sc (.int .i64 (.ofNat 0))),(.sc (.int .i64 (.ofNat 0))),(.sl .full 0 []),(.sl .full 0 []),(.sc (.int .i64 (.ofNat 0)))])],none,(.Br [(Ad []),(.sl .lost 1 [(.sc (.int .i64 (.ofNat 91))),(.sc (.int .i64 (.ofNat 0)))])])⟩
theorem fO {mx:Int}:Aw Tryz.prog (HdU.G mx) qE:=HdU.entry (l:=[Wq,rQ]) (m:=1000000) (Ab.cons Hm (Ab.cons aA HdU.none)) (by kernel_rfl) (by kernel_rfl)
def qM:BU:=⟨28,[(.agg [(.sc (.int .i64 (.ofNat 1))),(Ad []),(Ad []),(.sc (.int .i64 (.ofNat 0))),(.sc (.int .i64 (.ofNat 0))),(.sc (.int .i64 (.ofNat 0))),(.sc (.int .i64 (.ofNat 0))),(.sc (.int .i64 (.ofNat 0))),(.sl .full 0 []),NH,(.sc (.int .i64 (.ofNat 0)))]),(Ad [97,114,116,32,50]),(Ad []),(.sc (.int .i64 (.ofNat 91)))],none,(.sc (.bool true))⟩
theorem Z9 {mx:Int}:Aw Tryz.prog (HdU.G mx) qM:=HdU.entry (l:=[wY,qE]) (m:=1000000) (Ab.cons mH (Ab.cons fO HdU.none)) (by kernel_rfl) (by kernel_rfl)
def s7:BU:=⟨29,[(.agg [(.sc (.int .i64 (.ofNat 18))),(Ad []),(Ad []),(.sc (.int .i64 (.ofNat 0))),(.sc (.int .i64 (.ofNat 0))),(.sc (.int .i64 (.ofNat 0))),(.sc (.int .i64 (.ofNat 0))),(.sc (.int .i64 (.ofNat 10))),(.sl .lost 1 [(.sc (.int .i64 (.ofNat 0))),(.sc (.int .i64 (.ofNat 0))),(.sc (.int .i64 (.ofNat 1)))]),oE,(.sc (.int .i64 (.ofNat 0)))])],none,(.sc (.bool true))⟩
theorem cK {mx:Int}:Aw Tryz.prog (HdU.G mx) s7:=HdU.entry (l:=[]) (m:=1000000) HdU.none (by kernel_rfl) (by kernel_rfl)
def r4:BU:=⟨13,[(.agg [(.sc (.int .i64 (.ofNat 1))),(Ad []),(Ad []),(.sc (.int .i64 (.ofNat 0))),(.sc (.int .i64 (.ofNat 0))),(.sc (.int .i64 (.ofNat 0))),(.sc (.int .i64 (.ofNat 0))),(.sc (.int .i64 (.ofNat 0))),(.sl .full 0 []),NH,(.sc (.int .i64 (.ofNat 0)))]),(.agg [(.sc (.int .i64 (.ofNat 18))),(Ad []),(Ad []),(.sc (.int .i64 (.ofNat 0))),(.sc (.int .i64 (.ofNat 0))),(.sc (.int .i64 (.ofNat 0))),(.sc (.int .i64 (.ofNat 0))),(.sc (.int .i64 (.ofNat 10))),(.sl .lost 1 [(.sc (.int .i64 (.ofNat 0))),(.sc (.int .i64 (.ofNat 0))),(.sc (.int .i64 (.ofNat 1)))]),oE,(.sc (.int .i64 (.ofNat 0)))])],none,(.Br [(Ad []),(.sl .lost 1 [(.sc (.int .i64 (.ofNat 11))),(.sc (.int .i64 (.ofNat 0)))])])⟩
theorem dJ {mx:Int}:Aw Tryz.prog (HdU.G mx) r4:=HdU.entry (l:=[Wq,s7]) (m:=1000000) (Ab.cons Hm (Ab.cons cK HdU.none)) (by kernel_rfl) (by kernel_rfl)
def qD:BU:=⟨28,[(.agg [(.sc (.int .i64 (.ofNat 1))),(Ad []),(Ad []),(.sc (.int .i64 (.ofNat 0))),(.sc (.int .i64 (.ofNat 0))),(.sc (.int .i64 (.ofNat 0))),(.sc (.int .i64 (.ofNat 0))),(.sc (.int .i64 (.ofNat 0))),(.sl .full 0 []),NH,(.sc (.int .i64 (.ofNat 0)))]),uJ,(Ad []),(.sc (.int .i64 (.ofNat 11)))],none,(.sc (.bool true))⟩
theorem dC {mx:Int}:Aw Tryz.prog (HdU.G mx) qD:=HdU.entry (l:=[yB,r4]) (m:=1000000) (Ab.cons kX (Ab.cons dJ HdU.none)) (by kernel_rfl) (by kernel_rfl)
def rU:BU:=⟨29,[(.agg [(.sc (.int .i64 (.ofNat 17))),(Ad [108,101,97,115,116]),(Ad []),(.sc (.int .i64 (.ofNat 0))),(.sc (.int .i64 (.ofNat 0))),(.sc (.int .i64 (.ofNat 0))),(.sc (.int .i64 (.ofNat 0))),(.sc (.int .i64 (.ofNat 0))),(.sl .full 0 []),oV,(.sc (.int .i64 (.ofNat 0)))])],none,(.sc (.bool true))⟩
theorem fK {mx:Int}:Aw Tryz.prog (HdU.G mx) rU:=HdU.entry (l:=[]) (m:=1000000) HdU.none (by kernel_rfl) (by kernel_rfl)
def pD:BU:=⟨13,[(.agg [(.sc (.int .i64 (.ofNat 1))),(Ad []),(Ad []),(.sc (.int .i64 (.ofNat 0))),(.sc (.int .i64 (.ofNat 0))),(.sc (.int .i64 (.ofNat 0))),(.sc (.int .i64 (.ofNat 0))),(.sc (.int .i64 (.ofNat 0))),(.sl .full 0 []),NH,(.sc (.int .i64 (.ofNat 0)))]),(.agg [(.sc (.int .i64 (.ofNat 17))),(Ad [108,101,97,115,116]),(Ad []),(.sc (.int .i64 (.ofNat 0))),(.sc (.int .i64 (.ofNat 0))),(.sc (.int .i64 (.ofNat 0))),(.sc (.int .i64 (.ofNat 0))),(.sc (.int .i64 (.ofNat 0))),(.sl .full 0 []),oV,(.sc (.int .i64 (.ofNat 0)))])],none,(.Br [(Ad [69,85,82]),(.sl .full 0 [])])⟩
theorem cW {mx:Int}:Aw Tryz.prog (HdU.G mx) pD:=HdU.entry (l:=[Wq,rU]) (m:=1000000) (Ab.cons Hm (Ab.cons fK HdU.none)) (by kernel_rfl) (by kernel_rfl)
def qL:BU:=⟨28,[(.agg [(.sc (.int .i64 (.ofNat 1))),(Ad []),(Ad []),(.sc (.int .i64 (.ofNat 0))),(.sc (.int .i64 (.ofNat 0))),(.sc (.int .i64 (.ofNat 0))),(.sc (.int .i64 (.ofNat 0))),(.sc (.int .i64 (.ofNat 0))),(.sl .full 0 []),NH,(.sc (.int .i64 (.ofNat 0)))]),vF,(Ad [69,85,82]),(.sc (.int .i64 (.ofNat 0)))],none,(.sc (.bool true))⟩
theorem aN {mx:Int}:Aw Tryz.prog (HdU.G mx) qL:=HdU.entry (l:=[wQ,pD]) (m:=1000000) (Ab.cons mT (Ab.cons cW HdU.none)) (by kernel_rfl) (by kernel_rfl)
def rI:BU:=⟨29,[(.agg [(.sc (.int .i64 (.ofNat 1))),(Ad []),(Ad []),(.sc (.int .i64 (.ofNat 0))),(.sc (.int .i64 (.ofNat 0))),(.sc (.int .i64 (.ofNat 0))),(.sc (.int .i64 (.ofNat 0))),(.sc (.int .i64 (.ofNat 0))),(.sl .full 0 []),u7,(.sc (.int .i64 (.ofNat 0)))])],none,(.sc (.bool true))⟩
theorem cD {mx:Int}:Aw Tryz.prog (HdU.G mx) rI:=HdU.entry (l:=[]) (m:=1000000) HdU.none (by kernel_rfl) (by kernel_rfl)
def tB:BU:=⟨16,[(.agg [(.sc (.int .i64 (.ofNat 1))),(Ad []),(Ad []),(.sc (.int .i64 (.ofNat 0))),(.sc (.int .i64 (.ofNat 0))),(.sc (.int .i64 (.ofNat 0))),(.sc (.int .i64 (.ofNat 0))),(.sc (.int .i64 (.ofNat 0))),(.sl .full 0 []),u7,(.sc (.int .i64 (.ofNat 0)))])],none,(.sl .lost 1 [(.sc (.int .i64 (.ofNat 5))),(.sc (.int .i64 (.ofNat 165)))])⟩
theorem eI {mx:Int}:Aw Tryz.prog (HdU.G mx) tB:=HdU.entry (l:=[rI]) (m:=1000000) (Ab.cons cD HdU.none) (by kernel_rfl) (by kernel_rfl)
def qZ:BU:=⟨11,[],none,(.sc (.bool true))⟩
theorem eG {mx:Int}:Aw Tryz.prog (HdU.G mx) qZ:=HdU.entry (l:=[yC,xR,wS,zE,wR,sV,pT,qO,qJ,pK,sA,qM,qD,qL,tB]) (m:=1000000) (Ab.cons kP (Ab.cons lL (Ab.cons iU (Ab.cons kF (Ab.cons nG (Ab.cons eZ (Ab.cons aR (Ab.cons bD (Ab.cons eA (Ab.cons eD (Ab.cons dN (Ab.cons Z9 (Ab.cons dC (Ab.cons aN (Ab.cons eI HdU.none))))))))))))))) (by kernel_rfl) (by kernel_rfl)
theorem bB (mx:Int) (s:AS):Sound Tryz.prog (HdU.G mx) (.call 11 [] s (.ret (.sc (.bool true))) s):=(eG:Aw Tryz.prog (HdU.G mx) qZ) s
end Go.Proofs.YtkfplcngmiljaaaGreatDoor
namespace Go.Proofs.YtkfplcngmiljaaaGreatDoor
open AI Go
namespace Mo
set_option maxRecDepth 100000
set_option maxHeartbeats 4000000
abbrev GU (mx:Int):AG:=HdU.G mx
theorem up {mx:Int} {f:FuncId} {args:List AV} {v:AV} (h:Pure P G f args v):Pure P (GU mx) f args v:=by
 intro s cx w vs hs ha
 have hs0:St G cx w s:=⟨hs.len,hs.desc,hs.nodup,hs.low,hs.box,hs.rlen,hs.row,hs.rfree,hs.plow,hs.blow,hs.rdist,(fun _ _ h=>nomatch h),hs.bsz⟩
 refine (h s cx w vs hs0 ha).mono ?_
 rintro e w' ⟨c',hx,st,hr⟩
 exact ⟨c',hx,⟨st.len,st.desc,st.nodup,st.low,st.box,st.rlen,st.row,st.rfree,st.plow,st.blow,st.rdist,(fun g cs h=>(hs.glob g cs h).mono hx),st.bsz⟩,hr⟩
noncomputable def Mx:Option Bool:=some true
theorem PY {mx:Int} {yR:Bool} (h:Mx=some yR):Pure P (GU mx) 11 [] (.sc (.bool yR)):=by
 cases h
 exact fun s=>bB mx s
variable {mx:Int}
noncomputable def B5:Code:=A4 Tryz.f5
theorem b5:Tryz.f5.body=some B5:=by kernel_rfl
noncomputable def B6:Code:=A4 Tryz.f6
theorem b6:Tryz.f6.body=some B6:=by kernel_rfl
noncomputable def Di  (source:Nd) (e:Nd):Option Bool:=(Mx).bind fun y1=>(G4 source e).bind fun y2=>cond y2 ((E6 source).bind fun y3=>cond y3 ((DC e).bind fun y4=>cond y4 ((D9 source IY IY NM NS).bind fun y5=>(D9 e IY IY NM NS).bind fun y6=>(ED source e).bind fun (y7a,y7b)=>(ED y5 y6).bind fun (y8a,y8b)=>cond (BJ y7a.data.toList NM.data.toList) (cond y1 (cond (BJ NS.data.toList y8a.data.toList) ((BG y7b y8b).bind fun y9=>cond y9 ((CG source).bind fun y10=>(CG y5).bind fun y11=>(BG y10 y11).bind fun y12=>some y12) (some false)) (some false)) (some false)) (cond (BJ y7a.data.toList NS.data.toList) (cond y1 (cond (BJ NM.data.toList y8a.data.toList) ((BG y7b y8b).bind fun y13=>cond y13 ((CG source).bind fun y14=>(CG y5).bind fun y15=>(BG y14 y15).bind fun y16=>some y16) (some false)) (some false)) (some false)) (cond y1 (cond (BJ y7a.data.toList y8a.data.toList) ((BG y7b y8b).bind fun y17=>cond y17 ((CG source).bind fun y18=>(CG y5).bind fun y19=>(BG y18 y19).bind fun y20=>some y20) (some false)) (some false)) (some false)))) (some y1)) (some y1)) (some y1)
theorem ID   {source:Nd} {e:Nd} {yR:Bool} (h:Di  source e=some yR):Pure P (GU mx) 6 [.agg (Ba source),.agg (Ba e)] (.sc (.bool yR)):=by
 unfold Di at h
 refine BK Hd.mixed HdU.Ac (AJ Tryz.func6 b6 ?_) (Bo (Am.F0 source) (Bo (Am.F0 e) rfl)) rfl
 revert h
 refine Aj fun y1 hy1=>?_
 refine Aj fun y2 hy2=>?_
 let o1:List (PC P (GU mx)):=[Ak (PY hy1),Ak (up (Pr hy2))]
 refine Ae (fun hv=>?_) fun hv=>?_
 subst hv
 refine Aj fun y3 hy3=>?_
 let o2:List (PC P (GU mx)):=o1++[Ak (up (LL hy3))]
 refine Ae (fun hv=>?_) fun hv=>?_
 subst hv
 refine Aj fun y4 hy4=>?_
 let o3:List (PC P (GU mx)):=o2++[Ak (up (J3 hy4))]
 refine Ae (fun hv=>?_) fun hv=>?_
 subst hv
 refine Aj fun y5 hy5=>?_
 refine Aj fun y6 hy6=>?_
 refine Aj ?_
 rintro ⟨y7a,y7b⟩ hy7
 dsimp only
 refine Aj ?_
 rintro ⟨y8a,y8b⟩ hy8
 dsimp only
 let o4:List (PC P (GU mx)):=o3++[Ak (up (JV hy5)),Ak (up (JV hy6)),Ak (up (Ja hy7)),Ak (up (Ja hy8))]
 refine Ae (fun hb1=>?_) fun hb1=>?_
 refine Ae (fun hv=>?_) fun hv=>?_
 subst hv
 refine Ae (fun hb2=>?_) fun hb2=>?_
 refine Aj fun y9 hy9=>?_
 refine Ae (fun hv=>?_) fun hv=>?_
 subst hv
 refine Aj fun y10 hy10=>?_
 refine Aj fun y11 hy11=>?_
 refine Aj fun y12 hy12=>?_
 intro h
 have hE:=Option.some.inj h
 subst hE
 exact rS (Aa 300 (o4++[pb hb1,pb hb2,Ak (up (Bp hy9)),Ak (up (Dz hy10)),Ak (up (Dz hy11)),Ak (up (Bp hy12))])) (by kernel_rfl)
 subst hv
 rintro ⟨⟩
 exact rS (Aa 300 (o4++[pb hb1,pb hb2,Ak (up (Bp hy9))])) (by kernel_rfl)
 rintro ⟨⟩
 exact rS (Aa 300 (o4++[pb hb1,pb hb2])) (by kernel_rfl)
 subst hv
 rintro ⟨⟩
 exact rS (Aa 300 (o4++[pb hb1])) (by kernel_rfl)
 refine Ae (fun hb3=>?_) fun hb3=>?_
 refine Ae (fun hv=>?_) fun hv=>?_
 subst hv
 refine Ae (fun hb4=>?_) fun hb4=>?_
 refine Aj fun y13 hy13=>?_
 refine Ae (fun hv=>?_) fun hv=>?_
 subst hv
 refine Aj fun y14 hy14=>?_
 refine Aj fun y15 hy15=>?_
 refine Aj fun y16 hy16=>?_
 intro h
 have hE:=Option.some.inj h
 subst hE
 exact rS (Aa 300 (o4++[pb hb1,pb hb3,pb hb4,Ak (up (Bp hy13)),Ak (up (Dz hy14)),Ak (up (Dz hy15)),Ak (up (Bp hy16))])) (by kernel_rfl)
 subst hv
 rintro ⟨⟩
 exact rS (Aa 300 (o4++[pb hb1,pb hb3,pb hb4,Ak (up (Bp hy13))])) (by kernel_rfl)
 rintro ⟨⟩
 exact rS (Aa 300 (o4++[pb hb1,pb hb3,pb hb4])) (by kernel_rfl)
 subst hv
 rintro ⟨⟩
 exact rS (Aa 300 (o4++[pb hb1,pb hb3])) (by kernel_rfl)
 refine Ae (fun hv=>?_) fun hv=>?_
 subst hv
 refine Ae (fun hb5=>?_) fun hb5=>?_
 refine Aj fun y17 hy17=>?_
 refine Ae (fun hv=>?_) fun hv=>?_
 subst hv
 refine Aj fun y18 hy18=>?_
 refine Aj fun y19 hy19=>?_
 refine Aj fun y20 hy20=>?_
 intro h
 have hE:=Option.some.inj h
 subst hE
 exact rS (Aa 300 (o4++[pb hb1,pb hb3,pb hb5,Ak (up (Bp hy17)),Ak (up (Dz hy18)),Ak (up (Dz hy19)),Ak (up (Bp hy20))])) (by kernel_rfl)
 subst hv
 rintro ⟨⟩
 exact rS (Aa 300 (o4++[pb hb1,pb hb3,pb hb5,Ak (up (Bp hy17))])) (by kernel_rfl)
 rintro ⟨⟩
 exact rS (Aa 300 (o4++[pb hb1,pb hb3,pb hb5])) (by kernel_rfl)
 subst hv
 rintro ⟨⟩
 exact rS (Aa 300 (o4++[pb hb1,pb hb3])) (by kernel_rfl)
 subst hv
 intro h
 have hE:=Option.some.inj h
 subst hE
 exact rS (Aa 300 o3) (by kernel_rfl)
 subst hv
 intro h
 have hE:=Option.some.inj h
 subst hE
 exact rS (Aa 300 o2) (by kernel_rfl)
 subst hv
 intro h
 have hE:=Option.some.inj h
 subst hE
 exact rS (Aa 300 o1) (by kernel_rfl)
end Mo
end Go.Proofs.YtkfplcngmiljaaaGreatDoor
namespace Go.Proofs.YtkfplcngmiljaaaGreatDoor
open AI Go
namespace Mo
set_option maxRecDepth 100000
set_option maxHeartbeats 4000000
theorem Y5 {n:Nd} (hok:C8 n):E6 n=some (mb (n.kind=1∧LD n)):=by
 rw [E6,Vs hok]
 simp only [Option.bind_some,Bk,Bv,Ee]
theorem fE {n:Nd} (hok:C8 n):DC n=some (mb (¬ n.kind=1∧LD n)):=by
 rw [DC,Vs hok]
 simp only [Option.bind_some,Bk,Bv,cS]
theorem Um (src e:Nd):(Ix src e).2.length≤9223372036854775807:=by
 rw [MZ]
 by_cases hc:(src.kind=1∧e.kind≠1)∧LD src∧LD e
 · rw [Ag hc];exact Nat.le_trans (F8 _ _) (by decide)
 · rw [Af hc];simp
theorem TJ (src:Nd):(Lj src).length≤9223372036854775807:=by
 unfold Lj
 by_cases hc:src.kind=1∧LD src
 · rw [Ag hc];exact Nat.le_trans (F8 _ _) (by decide)
 · rw [Af hc];simp
theorem UG (a b:List Dg) (ha:a.length≤9223372036854775807):BG a b=some (mb (a=b)):=by
 rw [BG,Bk,Bv]
 by_cases h:((a.length:Nat):Int)=((b.length:Nat):Int)
 · rw [Ag h,Hf (v:=false) (P:=fun i y=>b[i]?=some y) ha (fun i y hy=>by
     have hi:i < a.length:=(List.getElem?_eq_some_iff.1 hy).1
     have hb:b[i]?=some b[i]:=List.getElem?_eq_getElem (by omega)
     simp only [Eg]
     rw [hb]
     simp only [Option.bind_some]
     have hs:Nf y b[i]=mb (b[i]?=some y):=by
       rw [Bool.eq_iff_iff,Bj,hb]
       unfold Nf
       simp only [Bool.and_eq_true,JL,beq_iff_eq,Option.some.injEq]
       generalize b[i]=z
       cases y;cases z
       simp only [Dg.mk.injEq]
       grind
     rw [hs,Bv,RT,hb]),F5]
   refine JN ⟨fun h2=>?_,fun h2 i y hy=>by rw [← h2];exact hy⟩
   apply List.ext_getElem?
   intro i
   by_cases hi:i < a.length
   · rw [List.getElem?_eq_getElem hi,h2 i _ (List.getElem?_eq_getElem hi)]
   · rw [List.getElem?_eq_none (by omega),List.getElem?_eq_none (by omega)]
 · rw [Af h];exact G5 fun h2=>h (by rw [h2])
theorem Xx {n:Nd} (h:LD n):Du n≤2000:=h.2.1
def cC:Ch:=⟨IY,IY,NM,NS⟩
theorem rR:FH NM:=.inr (.inr (.inr ⟨rfl,by decide⟩))
theorem rM:FH NS:=.inr (.inr (.inr ⟨rfl,by decide⟩))
theorem gC:cC.Good:=⟨by unfold cC N4;decide,by unfold cC N4;decide,⟨fun _=>rM,fun _=>rR⟩,.inr rfl⟩
theorem KU (src e:Nd) (hs:C8 src) (he:C8 e):Di src e=some true:=by
 obtain ⟨b,hb⟩:=sZ hs he
 rw [Di,hb,Y5 hs,fE he,Vo hs he,Vu hs]
 show cond b _ _=_
 cases b with
 | false=>rfl
 | true =>
 rw [cond_true]
 simp only [Option.bind_some,Bv]
 by_cases v1:src.kind=1∧LD src
 rotate_left
 · rw [Af v1]
 rw [Ag v1]
 by_cases v2:¬ e.kind=1∧LD e
 rotate_left
 · rw [Af v2]
 rw [Ag v2]
 have n1:nf cC src:=.inr rfl
 have n2:nf cC e:=.inr rfl
 rw [show D9 src IY IY NM NS=some (D0 cC src) from SD cC (Xx v1.2) hs,show D9 e IY IY NM NS=some (D0 cC e) from SD cC (Xx v2.2) he]
 simp only [Option.bind_some]
 rw [Vo (ZO hs) (ZO he),Vu (ZO hs),VN gC n1 n2 v1.1 v2.1 v1.2 v2.2,VO gC n1 v1.1 v1.2]
 simp only [Option.bind_some,Cw,Bv]
 rw [UG _ _ (Um _ _),UG _ _ (TJ _)]
 simp only [Option.bind_some,Bv]
 show AN ((Ix src e).1=NM) (cond true _ _) (AN ((Ix src e).1=NS) (cond true _ _) (cond true _ _))=_
 simp only [cond_true]
 generalize (Ix src e).1=u
 by_cases h1:u=NM
 · subst h1
   rw [Ag rfl,show cC.sw NM=NS from rfl,Ag rfl,Ag trivial,← gY]
 · rw [Af h1]
   by_cases h2:u=NS
   · subst h2
     rw [Ag rfl,show cC.sw NS=NM from rfl,Ag rfl,Ag trivial,← gY]
   · rw [Af h2,show cC.sw u=u by unfold Ch.sw cC;rw [if_neg h1,if_neg h2],Ag rfl,Ag trivial,← gY]
end Mo
end Go.Proofs.YtkfplcngmiljaaaGreatDoor
