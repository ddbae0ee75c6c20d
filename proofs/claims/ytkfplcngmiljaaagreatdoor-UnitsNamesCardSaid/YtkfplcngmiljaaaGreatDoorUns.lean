/- Part of a proof: see the last text. -/
import Derived.Test.YtkfplcngmiljaaaGreatDoorUnr
import Derived.Test.YtkfplcngmiljaaaGreatDoorCards
import Derived.Test.YtkfplcngmiljaaaGreatDoorTie
import Derived.Lib.LaidTab
import Derived.Lib.LaidIn
import Derived.Shelf.Vars
set_option linter.unusedVariables false
set_option linter.unusedSimpArgs false
namespace Go.Proofs.YtkfplcngmiljaaaGreatDoor
open AI Go Go.RowKit LexS
theorem chunks {α:Type} {V:α→List Value} {k:Nat}:∀ {l:List α} {cs:List Value},cs.length=l.length*k→(∀ y,(V y).length=k)→(∀ (i:Nat) y,l[i]?=some y→(cs.drop (i*k)).take k=V y)→cs=l.flatMap V
 | [],cs,h,_,_=>by
   simp only [List.length_nil,Nat.zero_mul] at h
   rw [List.eq_nil_of_length_eq_zero h];rfl
 | a::l,cs,h,hV,hc=>by
   have h0:=hc 0 a rfl
   rw [Nat.zero_mul,List.drop_zero] at h0
   have ih:=chunks (V:=V) (k:=k) (l:=l) (cs:=cs.drop k) (by rw [List.length_drop,h,List.length_cons,Nat.succ_mul];omega) hV fun i y hy=>by
     rw [List.drop_drop]
     have:=hc (i+1) y (by simpa using hy)
     rwa [Nat.succ_mul,Nat.add_comm] at this
   rw [List.flatMap_cons,← h0,← ih,List.take_append_drop]
theorem Jf {α H:Type} {enc:TypeId×Value→H} {P:Program} {w:World} {base:Nat} {sp:Nat→Bool} {held:Bool} {fuel:Nat} {t e:TypeId} {n k:Nat} {cs:List Value} {l:List α} {p:List MemPlace} (D:α→DataW H) (V:α→List Value) (hV:∀ y,(V y).length=k)
   (hread:∀ f c y q,DataW.trod enc P w base sp held f e c=some (D y,q)→c=V y)
   (ht:P.underlying t=some (.array n e)) (hce:P.cellsOf e=k) (hct:P.cellsOf t=n*k) (h:DataW.trod enc P w base sp held fuel t cs=some (.agg (l.map D),p)):cs=l.flatMap V:=by
 obtain ⟨xs,m,_,hx,hl,hxl,hat⟩:=DataW.trod_array ht h
 have hd:l.map D=xs.map (·.1):=by
   have:=congrArg Prod.fst hx
   simpa using this
 have hll:l.length=n:=by
   have:=congrArg List.length hd
   simp at this
   omega
 rw [hct] at hl
 rw [hce] at hat
 refine chunks (by rw [hl,hll]) hV fun i y hy=>?_
 have hi:i < n:=by have:=(List.getElem?_eq_some_iff.1 hy).1;omega
 have h2:=hat i hi
 have hxi:xs[i]?=some xs[i]:=List.getElem?_eq_getElem (by omega)
 rw [hxi] at h2
 have h3:(l.map D)[i]?=(xs.map (·.1))[i]?:=by rw [hd]
 rw [List.getElem?_map,List.getElem?_map,hy,hxi] at h3
 simp only [Option.map_some,Option.some.injEq] at h3
 refine hread m _ y xs[i].2 ?_
 rw [h2,h3]
theorem PR {H:Type} {enc:TypeId×Value→H} {w:World} {base:Nat} {sp:Nat→Bool} {held:Bool} (f:Nat) (c:List Value) (y:List UInt8) (q:List MemPlace) (hh:DataW.trod enc Tryz.prog w base sp held f 9 c=some (.lit (.string y),q)):c=[.string ⟨y.toArray⟩]:=by
 obtain ⟨z,hc,hz,_⟩:=DataW.trod_string Tryz.underlying9 hh
 simp only [Prod.mk.injEq,DataW.lit.injEq,Lit.string.injEq] at hz
 rw [hc,hz.1]
theorem Kv {W:World} {n:String} {g:Nat} {cs:Array Value} (hg:Tryz.prog.globalNamed n=some g) (h:W.var? Tryz.prog n=some cs):∃ t fr,W.heap[g]?=some (.cells cs t fr):=by
 unfold World.var? at h
 rw [hg] at h
 simp only [Option.bind_some] at h
 split at h
 · rename_i c t fr hh
   injection h with h
   subst h
   exact ⟨t,fr,hh⟩
 · cases h
theorem gB:Tryz.prog.globalNamed "wageoffice/calendar.before"=some 6:=by kernel_rfl
theorem gC:Tryz.prog.globalNamed "wageoffice/lexer.classes"=some 2:=by kernel_rfl
theorem gS:Tryz.prog.globalNamed "wageoffice/lexer.symbols"=some 0:=by kernel_rfl
theorem gO:Tryz.prog.globalNamed "wageoffice/parser.operators"=some 3:=by kernel_rfl
theorem gR:Tryz.prog.globalNamed "wageoffice/parser.roles"=some 1:=by kernel_rfl
theorem gBT:(Tryz.prog.globals[(6:Nat)]?).map (·.type)=some 195:=by kernel_rfl
theorem gCT:(Tryz.prog.globals[(2:Nat)]?).map (·.type)=some 149:=by kernel_rfl
theorem gST:(Tryz.prog.globals[(0:Nat)]?).map (·.type)=some 142:=by kernel_rfl
theorem gOT:(Tryz.prog.globals[(3:Nat)]?).map (·.type)=some 160:=by kernel_rfl
theorem gRT:(Tryz.prog.globals[(1:Nat)]?).map (·.type)=some 143:=by kernel_rfl
theorem zI:Tryz.prog.cellsOf 3=1:=by kernel_rfl
theorem zU:Tryz.prog.cellsOf 5=1:=by kernel_rfl
theorem zS:Tryz.prog.cellsOf 9=1:=by kernel_rfl
theorem zB:Tryz.prog.cellsOf 195=13*1:=by kernel_rfl
theorem zC:Tryz.prog.cellsOf 149=128*1:=by kernel_rfl
theorem zY:Tryz.prog.cellsOf 142=17*1:=by kernel_rfl
theorem z6:Tryz.prog.cellsOf 159=6*1:=by kernel_rfl
theorem zO:Tryz.prog.cellsOf 160=6*6:=by kernel_rfl
theorem zR:Tryz.prog.cellsOf 143=5*1:=by kernel_rfl
def sV:List Int:=[0,31,59,90,120,151,181,212,243,273,304,334,365]
def rG:List (List UInt8):=[[],[101,97,114,110],[100,101,100,117,99,116],[102,108,111,111,114],[105,110,102,111]]
def opsL:List (List (List UInt8)):=[[[111,114],[],[],[],[],[]],[[97,110,100],[],[],[],[],[]],[[],[],[],[],[],[]],[[61,61],[33,61],[60],[60,61],[62],[62,61]],[[43],[45],[],[],[],[]],[[42],[47],[97,116],[],[],[]]]
abbrev Q9 (y:List UInt8):DataW Unit:=.lit (.string y)
theorem vM:(Rows.laid_wageoffice_calendar_before:DataW Unit)=.agg (sV.map fun z=>.lit (.int .i64 z)):=by rfl
theorem vD:(Rows.laid_wageoffice_lexer_classes:DataW Unit)=.agg ((List.range 128).map fun i=>.lit (.int .u8 (MO i:Nat))):=by rfl
theorem vI:(Rows.laid_wageoffice_lexer_symbols:DataW Unit)=.agg (DH.map Q9):=by rfl
theorem vE:(Rows.laid_wageoffice_parser_operators:DataW Unit)=.agg (opsL.map fun l=>.agg (l.map Q9)):=by rfl
theorem vA:(Rows.laid_wageoffice_parser_roles:DataW Unit)=.agg (rG.map Q9):=by rfl
theorem xD:((begin Tryz.prog (fun _ _=>0) default).world.heap[(7:Nat)]?).bind Obj.row?=some (#[.int .i64 0],3):=by kernel_rfl
theorem nV {W:World} (h:W.ShapedOpen Tryz.prog):∃ m,W.cell? ⟨7,0,none⟩=some (.int .i64 m):=by
 obtain ⟨m,hm⟩:=cell_of_shapedOpen_int h (g:=7) (by decide +kernel) xD rfl (by kernel_rfl) (by kernel_rfl) Tryz.underlying3
 exact ⟨m,hm⟩
theorem N5 (c:Cx) (w:World):∀ l:List (List UInt8),BC c w (l.map Ad) (l.flatMap fun y=>[.string ⟨y.toArray⟩])
 | []=>.nil
 | _::l=>.cons (.sc rfl) (N5 c w l)
theorem Vu (c:Cx) (w:World):∀ l:List Int,BC c w (l.map HdU.int) (l.flatMap fun y=>[.int .i64 y])
 | []=>.nil
 | _::l=>.cons (.sc rfl) (Vu c w l)
theorem Y7 (c:Cx) (w:World):∀ l:List Nat,BC c w (l.map fun i=>.sc (.int .u8 (MO i:Nat))) (l.flatMap fun i=>[.int .u8 (MO i:Nat)])
 | []=>.nil
 | _::l=>.cons (.sc rfl) (Y7 c w l)
theorem Tj (c:Cx) (w:World):∀ l:List (List (List UInt8)),BC c w (l.flatMap fun y=>y.map Ad) (l.flatMap fun y=>y.flatMap fun z=>[.string ⟨z.toArray⟩])
 | []=>.nil
 | a::l=>(N5 c w a).append (Tj c w l)
theorem OU {W:World} {g:Nat} {l:List AV} {cs:Array Value} (h:∃ t fr,W.heap[g]?=some (.cells cs t fr)) (hr:BC (Mo.Om W) W l cs.toList):AH (Mo.Om W) W g 0 l:=by
 obtain ⟨t,fr,h⟩:=h
 refine AH.KO hr fun i v hi=>Mo.kV ?_
 rw [Nat.zero_add,cell_of_row W g i cs t fr h]
 rwa [Array.getElem?_toList] at hi
theorem Uv {W:World} (h:laidMetH Tryz.prog Rows.unitsOperandsRow.laid W) (hsh:W.ShapedOpen Tryz.prog):∃ mx,St (HdU.G mx) (Mo.Om W) W s0:=by
 have h:laidMet Tryz.prog [("math/bits.deBruijn32tab",Rows.laid_math_bits_deBruijn32tab),("math/bits.deBruijn64tab",Rows.laid_math_bits_deBruijn64tab),("internal/strconv.uint64pow10",Rows.laid_internal_strconv_uint64pow10),("unicode/utf8.acceptRanges",Rows.laid_unicode_utf8_acceptRanges),("strconv.ErrRange",Rows.laid_strconv_ErrRange),("strconv.ErrSyntax",Rows.laid_strconv_ErrSyntax),("wageoffice/calendar.before",Rows.laid_wageoffice_calendar_before),("wageoffice/lexer.classes",Rows.laid_wageoffice_lexer_classes),("wageoffice/lexer.symbols",Rows.laid_wageoffice_lexer_symbols),("wageoffice/parser.operators",Rows.laid_wageoffice_parser_operators),("wageoffice/parser.roles",Rows.laid_wageoffice_parser_roles),("unicode/utf8.first",Rows.laid_unicode_utf8_first)] W:=h
 obtain ⟨ps,⟨_,_,_,_,_,_,_,_,_,_,⟨_,_,_,_,_,_,_,_,_,_,⟨_,_,_,_,_,_,_,_,_,_,⟨_,_,_,_,_,_,_,_,_,_,⟨_,_,_,_,_,_,_,_,_,_,⟨_,_,_,_,_,_,_,_,_,_,⟨g7,t7,cs7,f7,p7,q7,hg7,ht7,hv7,hd7,⟨g8,t8,cs8,f8,p8,q8,hg8,ht8,hv8,hd8,⟨g9,t9,cs9,f9,p9,q9,hg9,ht9,hv9,hd9,⟨g10,t10,cs10,f10,p10,q10,hg10,ht10,hv10,hd10,⟨g11,t11,cs11,f11,p11,q11,hg11,ht11,hv11,hd11,_⟩,_⟩,_⟩,_⟩,_⟩,_⟩,_⟩,_⟩,_⟩,_⟩,_⟩,_⟩:=h
 obtain rfl:=Option.some.inj (gB.symm.trans hg7)
 obtain rfl:=Option.some.inj (gC.symm.trans hg8)
 obtain rfl:=Option.some.inj (gS.symm.trans hg9)
 obtain rfl:=Option.some.inj (gO.symm.trans hg10)
 obtain rfl:=Option.some.inj (gR.symm.trans hg11)
 obtain rfl:=Option.some.inj (gBT.symm.trans ht7)
 obtain rfl:=Option.some.inj (gCT.symm.trans ht8)
 obtain rfl:=Option.some.inj (gST.symm.trans ht9)
 obtain rfl:=Option.some.inj (gOT.symm.trans ht10)
 obtain rfl:=Option.some.inj (gRT.symm.trans ht11)
 rw [vM] at hd7
 rw [vD] at hd8
 rw [vI] at hd9
 rw [vE] at hd10
 rw [vA] at hd11
 have e7:=Jf (k:=1) (fun z:Int=>(DataW.lit (.int .i64 z):DataW Unit)) (fun z=>[.int .i64 z]) (fun _=>rfl)
   (fun f c y q hh=>by obtain ⟨z,hc,hz,_⟩:=DataW.trod_int Tryz.underlying3 hh;simp only [Prod.mk.injEq,DataW.lit.injEq,Lit.int.injEq,true_and] at hz;rw [hc,hz.1]) Tryz.underlying195 zI zB hd7
 have e8:=Jf (k:=1) (fun i:Nat=>(DataW.lit (.int .u8 (MO i:Nat)):DataW Unit)) (fun i=>[.int .u8 (MO i:Nat)]) (fun _=>rfl)
   (fun f c y q hh=>by obtain ⟨z,hc,hz,_⟩:=DataW.trod_int Tryz.underlying5 hh;simp only [Prod.mk.injEq,DataW.lit.injEq,Lit.int.injEq,true_and] at hz;rw [hc,hz.1]) Tryz.underlying149 zU zC hd8
 have e9:=Jf (k:=1) Q9 (fun y=>[.string ⟨y.toArray⟩]) (fun _=>rfl) PR Tryz.underlying142 zS zY hd9
 have uI:=Jf (k:=1) Q9 (fun y=>[.string ⟨y.toArray⟩]) (fun _=>rfl) PR Tryz.underlying143 zS zR hd11
 have pM:cs10.toList=opsL.flatMap fun y=>y.flatMap fun z=>[.string ⟨z.toArray⟩]:=by
   obtain ⟨xs,m,_,hx,hl,hxl,hat⟩:=DataW.trod_array Tryz.underlying160 hd10
   have hd:(opsL.map fun l=>(DataW.agg (l.map Q9):DataW Unit))=xs.map (·.1):=by
     have:=congrArg Prod.fst hx
     simpa using this
   rw [zO] at hl
   rw [z6] at hat
   have len6:∀ y∈opsL,(y.flatMap fun z=>[(Value.string ⟨z.toArray⟩:Value)]).length=6:=by decide
   have hget:∀ (i:Nat) y,opsL[i]?=some y→(cs10.toList.drop (i*6)).take 6=y.flatMap fun z=>[.string ⟨z.toArray⟩]:=by
     intro i y hy
     have hi:i < 6:=(List.getElem?_eq_some_iff.1 hy).1
     have h2:=hat i hi
     have hxi:xs[i]?=some xs[i]:=List.getElem?_eq_getElem (by omega)
     rw [hxi] at h2
     have h3:(opsL.map fun l=>(DataW.agg (l.map Q9):DataW Unit))[i]?=(xs.map (·.1))[i]?:=by rw [hd]
     rw [List.getElem?_map,List.getElem?_map,hy,hxi] at h3
     simp only [Option.map_some,Option.some.injEq] at h3
     have h4:xs[i]=(.agg (y.map Q9),xs[i].2):=Prod.ext h3.symm rfl
     rw [h4] at h2
     exact Jf (k:=1) Q9 (fun y=>[.string ⟨y.toArray⟩]) (fun _=>rfl) PR Tryz.underlying159 zS z6 h2
   have l6:∀ {l:List (List (List UInt8))} {cs:List Value},(∀ y∈l,(y.flatMap fun z=>[(Value.string ⟨z.toArray⟩:Value)]).length=6)→cs.length=l.length*6→(∀ (i:Nat) y,l[i]?=some y→(cs.drop (i*6)).take 6=y.flatMap fun z=>[.string ⟨z.toArray⟩])→cs=l.flatMap fun y=>y.flatMap fun z=>[.string ⟨z.toArray⟩]:=by
     intro l
     induction l with
     | nil=>intro cs _ h _;exact List.eq_nil_of_length_eq_zero (by simpa using h)
     | cons a l ih =>
       intro cs hq h hc
       have h0:=hc 0 a rfl
       rw [Nat.zero_mul,List.drop_zero] at h0
       have:=ih (cs:=cs.drop 6) (fun y hy=>hq y (by simp [hy])) (by rw [List.length_drop,h,List.length_cons,Nat.succ_mul];omega) fun i y hy=>by
         rw [List.drop_drop]
         have:=hc (i+1) y (by simpa using hy)
         rwa [Nat.succ_mul,Nat.add_comm] at this
       rw [List.flatMap_cons,← h0,← this,List.take_append_drop]
   exact l6 len6 (by rw [hl];rfl) hget
 obtain ⟨mx,hm⟩:=nV hsh
 have hst:=Mo.stW W
 refine ⟨mx,hst.len,hst.desc,hst.nodup,hst.low,hst.box,hst.rlen,hst.row,hst.rfree,hst.plow,hst.blow,hst.rdist,fun g cs h=>?_,hst.bsz⟩
 unfold HdU.G at h
 split at h
 · rename_i hg;cases h;rw [beq_true hg]
   exact OU (Kv gO hv10) (by rw [pM];exact Tj _ _ opsL)
 · split at h
   · rename_i hg;cases h;rw [beq_true hg]
     exact OU (Kv gR hv11) (by rw [uI];exact N5 _ _ rG)
   · split at h
     · rename_i hg;cases h;rw [beq_true hg]
       exact OU (Kv gB hv7) (by rw [e7];exact Vu _ _ sV)
     · split at h
       · rename_i hg;cases h;rw [beq_true hg]
         exact OU (Kv gC hv8) (by rw [e8];exact Y7 _ _ _)
       · split at h
         · rename_i hg;cases h;rw [beq_true hg]
           exact OU (Kv gS hv9) (by rw [e9];exact N5 _ _ _)
         · split at h
           · rename_i hg;cases h;rw [beq_true hg]
             exact .cons (Mo.kV hm) (.sc rfl) .nil
           · cases h
theorem UH {mx:Int} {f:FuncId} {args:List AV} {vs:List Value} {W:World} (hst:St (HdU.G mx) (Mo.Om W) W s0) (h:Pure Tryz.prog (HdU.G mx) f args (.sc (.bool true))) (ha:BC (Mo.Om W) W args vs):Calls Tryz.prog f vs.toArray W fun e W'=>e=.returned (.bool true)∧Below W.heap.size W W':=by
 refine (h s0 (Mo.Om W) W vs hst ha).mono ?_
 rintro e w' ⟨c',hx,_,u,rfl,hu⟩
 cases hu
 exact ⟨rfl,hx.below⟩
def kT:DataW Unit→List Value
 | .lit l=>[l.value]
 | _=>[]
def sM:DataW Unit→List Value
 | .agg l=>l.flatMap kT
 | d=>kT d
def Lb:DataW Unit→Array Value
 | .agg l=>(l.flatMap sM).toArray
 | d=>(kT d).toArray
def putCells (cs:Array Value):Obj→Obj
 | .cells _ t frozen=>.cells cs t frozen
 | o=>o
noncomputable def low:Nat:=(World.holding Tryz.prog default ⟨#[],#[],[]⟩).heap.size
abbrev pP:ByteArray:={ data:=#[118,97,108,117,101,32,111,117,116,32,111,102,32,114,97,110,103,101] }
abbrev qY:ByteArray:={ data:=#[105,110,118,97,108,105,100,32,115,121,110,116,97,120] }
noncomputable def M8 (os:Os):World :=
 let w0:=World.holding Tryz.prog os ⟨#[.cells #[.string pP] 207,.cells #[.string qY] 207],#[],[]⟩
 { w0 with heap:=((((((((((((w0.heap.modify 11 (putCells (Lb Rows.laid_math_bits_deBruijn32tab))).modify
     12 (putCells (Lb Rows.laid_math_bits_deBruijn64tab))).modify
     10 (putCells (Lb Rows.laid_internal_strconv_uint64pow10))).modify
     9 (putCells (Lb Rows.laid_unicode_utf8_acceptRanges))).modify
     5 (putCells #[.iface 205 (.pointer (some ⟨low,0,none⟩))])).modify
     4 (putCells #[.iface 205 (.pointer (some ⟨low+1,0,none⟩))])).modify
     6 (putCells (Lb Rows.laid_wageoffice_calendar_before))).modify
     2 (putCells (Lb Rows.laid_wageoffice_lexer_classes))).modify
     0 (putCells (Lb Rows.laid_wageoffice_lexer_symbols))).modify
     3 (putCells (Lb Rows.laid_wageoffice_parser_operators))).modify
     1 (putCells (Lb Rows.laid_wageoffice_parser_roles))).modify
     8 (putCells (Lb Rows.laid_unicode_utf8_first))) }
theorem Y0 (os:Os) (args:Array Value):laidMet Tryz.prog Rows.unitsOperandsRow.laid ((M8 os).forCall (fun _ _=>0) ⟨#[],args,[]⟩).memory :=
 laidMet_of_run3 8 (by kernel_rfl) (by kernel_rfl) (by kernel_rfl)
end Go.Proofs.YtkfplcngmiljaaaGreatDoor
namespace Go.Proofs.YtkfplcngmiljaaaGreatDoor
open AI
set_option maxRecDepth 100000
set_option maxHeartbeats 4000000
def k0:AV:=Ad [102,97,99,116,32,104,111,117,114,115,32,58,32,109,105,110,117,116,101,115,59,32,102,97,99,116,32,114,97,116,101,32,58,32,69,85,82,59,32,102,97,99,116,32,109,97,114,114,105,101,100,32,58,32,116,114,117,116,104,59,32,108,105,110,101,32,98,97,115,105,99,32,58,32,69,85,82,32,101,97,114,110,59,32,97,114,116,105,99,108,101,32,49,32,102,111,114,32,98,97,115,105,99,32,114,97,110,107,32,49,32,102,114,111,109,32,50,48,50,52,45,48,49,45,48,49,32,107,110,111,119,110,32,50,48,50,52,45,48,49,45,48,49,32,123,32,97,109,111,117,110,116,32,69,85,82,32,49,46,48,48,59,32,125]
def k1:AV:=Ad [109,105,110,117,116,101,115]
def k2:AV:=Ad [109,97,114,114,105,101,100]
def k3:AV:=Ad [97,114,116,105,99,108,101]
def k4:AV:=Ad [50,48,50,52,45,48,49,45,48,49]
def k5:AV:=.sl .lost 37 [(.sc (.int .i64 (.ofNat 1))),(Ad [102,97,99,116]),(.sc (.int .i64 (.ofNat 0))),(.sc (.int .i64 (.ofNat 1))),(Ad [104,111,117,114,115]),(.sc (.int .i64 (.ofNat 5))),(.sc (.int .i64 (.ofNat 6))),(Ad [58]),(.sc (.int .i64 (.ofNat 11))),(.sc (.int .i64 (.ofNat 1))),k1,(.sc (.int .i64 (.ofNat 13))),(.sc (.int .i64 (.ofNat 6))),(Ad [59]),(.sc (.int .i64 (.ofNat 20))),(.sc (.int .i64 (.ofNat 1))),(Ad [102,97,99,116]),(.sc (.int .i64 (.ofNat 22))),(.sc (.int .i64 (.ofNat 1))),(Ad [114,97,116,101]),(.sc (.int .i64 (.ofNat 27))),(.sc (.int .i64 (.ofNat 6))),(Ad [58]),(.sc (.int .i64 (.ofNat 32))),(.sc (.int .i64 (.ofNat 2))),(Ad [69,85,82]),(.sc (.int .i64 (.ofNat 34))),(.sc (.int .i64 (.ofNat 6))),(Ad [59]),(.sc (.int .i64 (.ofNat 37))),(.sc (.int .i64 (.ofNat 1))),(Ad [102,97,99,116]),(.sc (.int .i64 (.ofNat 39))),(.sc (.int .i64 (.ofNat 1))),k2,(.sc (.int .i64 (.ofNat 44))),(.sc (.int .i64 (.ofNat 6))),(Ad [58]),(.sc (.int .i64 (.ofNat 52))),(.sc (.int .i64 (.ofNat 1))),(Ad [116,114,117,116,104]),(.sc (.int .i64 (.ofNat 54))),(.sc (.int .i64 (.ofNat 6))),(Ad [59]),(.sc (.int .i64 (.ofNat 59))),(.sc (.int .i64 (.ofNat 1))),(Ad [108,105,110,101]),(.sc (.int .i64 (.ofNat 61))),(.sc (.int .i64 (.ofNat 1))),(Ad [98,97,115,105,99]),(.sc (.int .i64 (.ofNat 66))),(.sc (.int .i64 (.ofNat 6))),(Ad [58]),(.sc (.int .i64 (.ofNat 72))),(.sc (.int .i64 (.ofNat 2))),(Ad [69,85,82]),(.sc (.int .i64 (.ofNat 74))),(.sc (.int .i64 (.ofNat 1))),(Ad [101,97,114,110]),(.sc (.int .i64 (.ofNat 78))),(.sc (.int .i64 (.ofNat 6))),(Ad [59]),(.sc (.int .i64 (.ofNat 82))),(.sc (.int .i64 (.ofNat 1))),k3,(.sc (.int .i64 (.ofNat 84))),(.sc (.int .i64 (.ofNat 3))),(Ad [49]),(.sc (.int .i64 (.ofNat 92))),(.sc (.int .i64 (.ofNat 1))),(Ad [102,111,114]),(.sc (.int .i64 (.ofNat 94))),(.sc (.int .i64 (.ofNat 1))),(Ad [98,97,115,105,99]),(.sc (.int .i64 (.ofNat 98))),(.sc (.int .i64 (.ofNat 1))),(Ad [114,97,110,107]),(.sc (.int .i64 (.ofNat 104))),(.sc (.int .i64 (.ofNat 3))),(Ad [49]),(.sc (.int .i64 (.ofNat 109))),(.sc (.int .i64 (.ofNat 1))),(Ad [102,114,111,109]),(.sc (.int .i64 (.ofNat 111))),(.sc (.int .i64 (.ofNat 5))),k4,(.sc (.int .i64 (.ofNat 116))),(.sc (.int .i64 (.ofNat 1))),(Ad [107,110,111,119,110]),(.sc (.int .i64 (.ofNat 127))),(.sc (.int .i64 (.ofNat 5))),k4,(.sc (.int .i64 (.ofNat 133))),(.sc (.int .i64 (.ofNat 6))),(Ad [123]),(.sc (.int .i64 (.ofNat 144))),(.sc (.int .i64 (.ofNat 1))),(Ad [97,109,111,117,110,116]),(.sc (.int .i64 (.ofNat 146))),(.sc (.int .i64 (.ofNat 2))),(Ad [69,85,82]),(.sc (.int .i64 (.ofNat 153))),(.sc (.int .i64 (.ofNat 4))),(Ad [49,46,48,48]),(.sc (.int .i64 (.ofNat 157))),(.sc (.int .i64 (.ofNat 6))),(Ad [59]),(.sc (.int .i64 (.ofNat 161))),(.sc (.int .i64 (.ofNat 6))),(Ad [125]),(.sc (.int .i64 (.ofNat 163)))]
def k6:AV:=Ad [104,111,117,114,115,32,97,116,32,114,97,116,101,32,43,32,97,114,116,32,49]
def k7:AV:=.sl .lost 6 [(.sc (.int .i64 (.ofNat 1))),(Ad [104,111,117,114,115]),(.sc (.int .i64 (.ofNat 0))),(.sc (.int .i64 (.ofNat 1))),(Ad [97,116]),(.sc (.int .i64 (.ofNat 6))),(.sc (.int .i64 (.ofNat 1))),(Ad [114,97,116,101]),(.sc (.int .i64 (.ofNat 9))),(.sc (.int .i64 (.ofNat 6))),(Ad [43]),(.sc (.int .i64 (.ofNat 14))),(.sc (.int .i64 (.ofNat 1))),(Ad [97,114,116]),(.sc (.int .i64 (.ofNat 16))),(.sc (.int .i64 (.ofNat 3))),(Ad [49]),(.sc (.int .i64 (.ofNat 20)))]
def k8:AV:=Ad [104,111,117,114,115,32,62,32,56,32,109,105,110,32,97,110,100,32,109,97,114,114,105,101,100]
def k9:AV:=.sl .lost 6 [(.sc (.int .i64 (.ofNat 1))),(Ad [104,111,117,114,115]),(.sc (.int .i64 (.ofNat 0))),(.sc (.int .i64 (.ofNat 6))),(Ad [62]),(.sc (.int .i64 (.ofNat 6))),(.sc (.int .i64 (.ofNat 3))),(Ad [56]),(.sc (.int .i64 (.ofNat 8))),(.sc (.int .i64 (.ofNat 1))),(Ad [109,105,110]),(.sc (.int .i64 (.ofNat 10))),(.sc (.int .i64 (.ofNat 1))),(Ad [97,110,100]),(.sc (.int .i64 (.ofNat 14))),(.sc (.int .i64 (.ofNat 1))),k2,(.sc (.int .i64 (.ofNat 18)))]
def vW:AV:=Ad [110,111,116,32,109,97,114,114,105,101,100,32,61,61,32,116,114,117,101]
def Xf:AV:=.sl .lost 4 [(.sc (.int .i64 (.ofNat 1))),(Ad [110,111,116]),(.sc (.int .i64 (.ofNat 0))),(.sc (.int .i64 (.ofNat 1))),k2,(.sc (.int .i64 (.ofNat 4))),(.sc (.int .i64 (.ofNat 6))),(Ad [61,61]),(.sc (.int .i64 (.ofNat 12))),(.sc (.int .i64 (.ofNat 1))),(Ad [116,114,117,101]),(.sc (.int .i64 (.ofNat 15)))]
def U4:AV:=Ad [114,97,116,101,32,42,32,51,32,47,32,49,48,48]
def ZX:AV:=.sl .lost 5 [(.sc (.int .i64 (.ofNat 1))),(Ad [114,97,116,101]),(.sc (.int .i64 (.ofNat 0))),(.sc (.int .i64 (.ofNat 6))),(Ad [42]),(.sc (.int .i64 (.ofNat 5))),(.sc (.int .i64 (.ofNat 3))),(Ad [51]),(.sc (.int .i64 (.ofNat 7))),(.sc (.int .i64 (.ofNat 6))),(Ad [47]),(.sc (.int .i64 (.ofNat 9))),(.sc (.int .i64 (.ofNat 3))),(Ad [49,48,48]),(.sc (.int .i64 (.ofNat 11)))]
def YE:AV:=Ad [50,32,42,32,104,111,117,114,115]
def YR:AV:=.sl .lost 3 [(.sc (.int .i64 (.ofNat 3))),(Ad [50]),(.sc (.int .i64 (.ofNat 0))),(.sc (.int .i64 (.ofNat 6))),(Ad [42]),(.sc (.int .i64 (.ofNat 2))),(.sc (.int .i64 (.ofNat 1))),(Ad [104,111,117,114,115]),(.sc (.int .i64 (.ofNat 4)))]
def U7:AV:=Ad [114,97,116,101,32,42,32,114,97,116,101]
def XY:AV:=.sl .lost 3 [(.sc (.int .i64 (.ofNat 1))),(Ad [114,97,116,101]),(.sc (.int .i64 (.ofNat 0))),(.sc (.int .i64 (.ofNat 6))),(Ad [42]),(.sc (.int .i64 (.ofNat 5))),(.sc (.int .i64 (.ofNat 1))),(Ad [114,97,116,101]),(.sc (.int .i64 (.ofNat 7)))]
def ZU:AV:=Ad [104,111,117,114,115,32,43,32,49]
def wP:AV:=.sl .lost 3 [(.sc (.int .i64 (.ofNat 1))),(Ad [104,111,117,114,115]),(.sc (.int .i64 (.ofNat 0))),(.sc (.int .i64 (.ofNat 6))),(Ad [43]),(.sc (.int .i64 (.ofNat 6))),(.sc (.int .i64 (.ofNat 3))),(Ad [49]),(.sc (.int .i64 (.ofNat 8)))]
def wL:AV:=.sl .lost 3 [(.sc (.int .i64 (.ofNat 1))),(Ad [120]),(.sc (.int .i64 (.ofNat 0))),(.sc (.int .i64 (.ofNat 6))),(Ad [43]),(.sc (.int .i64 (.ofNat 2))),(.sc (.int .i64 (.ofNat 3))),(Ad [49]),(.sc (.int .i64 (.ofNat 4)))]
def vZ:AV:=Ad [116,97,98,108,101,40,104,111,117,114,115,59,32,48,32,58,32,48,32,43,32,49,47,49,48,41]
def wU:AV:=.sl .lost 12 [(.sc (.int .i64 (.ofNat 1))),(Ad [116,97,98,108,101]),(.sc (.int .i64 (.ofNat 0))),(.sc (.int .i64 (.ofNat 6))),(Ad [40]),(.sc (.int .i64 (.ofNat 5))),(.sc (.int .i64 (.ofNat 1))),(Ad [104,111,117,114,115]),(.sc (.int .i64 (.ofNat 6))),(.sc (.int .i64 (.ofNat 6))),(Ad [59]),(.sc (.int .i64 (.ofNat 11))),(.sc (.int .i64 (.ofNat 3))),(Ad [48]),(.sc (.int .i64 (.ofNat 13))),(.sc (.int .i64 (.ofNat 6))),(Ad [58]),(.sc (.int .i64 (.ofNat 15))),(.sc (.int .i64 (.ofNat 3))),(Ad [48]),(.sc (.int .i64 (.ofNat 17))),(.sc (.int .i64 (.ofNat 6))),(Ad [43]),(.sc (.int .i64 (.ofNat 19))),(.sc (.int .i64 (.ofNat 3))),(Ad [49]),(.sc (.int .i64 (.ofNat 21))),(.sc (.int .i64 (.ofNat 6))),(Ad [47]),(.sc (.int .i64 (.ofNat 22))),(.sc (.int .i64 (.ofNat 3))),(Ad [49,48]),(.sc (.int .i64 (.ofNat 23))),(.sc (.int .i64 (.ofNat 6))),(Ad [41]),(.sc (.int .i64 (.ofNat 25)))]
def u9:AV:=Ad [108,101,97,115,116,40,114,97,116,101,44,32,69,85,82,32,49,46,48,48,41]
def w8:AV:=.sl .lost 7 [(.sc (.int .i64 (.ofNat 1))),(Ad [108,101,97,115,116]),(.sc (.int .i64 (.ofNat 0))),(.sc (.int .i64 (.ofNat 6))),(Ad [40]),(.sc (.int .i64 (.ofNat 5))),(.sc (.int .i64 (.ofNat 1))),(Ad [114,97,116,101]),(.sc (.int .i64 (.ofNat 6))),(.sc (.int .i64 (.ofNat 6))),(Ad [44]),(.sc (.int .i64 (.ofNat 10))),(.sc (.int .i64 (.ofNat 2))),(Ad [69,85,82]),(.sc (.int .i64 (.ofNat 12))),(.sc (.int .i64 (.ofNat 4))),(Ad [49,46,48,48]),(.sc (.int .i64 (.ofNat 16))),(.sc (.int .i64 (.ofNat 6))),(Ad [41]),(.sc (.int .i64 (.ofNat 20)))]
def k25:AV:=Ad [102,97,99,116,32,104,111,117,114,115,32,58,32,109,105,110,117,116,101,115,59,32,102,97,99,116,32,114,97,116,101,32,58,32,69,85,82,59,32,102,97,99,116,32,109,97,114,114,105,101,100,32,58,32,116,114,117,116,104,59,32,108,105,110,101,32,98,97,115,105,99,32,58,32,69,85,82,32,101,97,114,110,59,32,97,114,116,105,99,108,101,32,49,32,102,111,114,32,98,97,115,105,99,32,114,97,110,107,32,49,32,102,114,111,109,32,50,48,50,52,45,48,49,45,48,49,32,107,110,111,119,110,32,50,48,50,52,45,48,49,45,48,49,32,123,32,97,109,111,117,110,116,32,69,85,82,32,49,46,48,48,59,32,125,32,108,105,110,101,32,98,97,115,105,99,32,58,32,110,117,109,98,101,114,32,105,110,102,111,59]
def Kn:AV:=.sl .lost 43 [(.sc (.int .i64 (.ofNat 1))),(Ad [102,97,99,116]),(.sc (.int .i64 (.ofNat 0))),(.sc (.int .i64 (.ofNat 1))),(Ad [104,111,117,114,115]),(.sc (.int .i64 (.ofNat 5))),(.sc (.int .i64 (.ofNat 6))),(Ad [58]),(.sc (.int .i64 (.ofNat 11))),(.sc (.int .i64 (.ofNat 1))),k1,(.sc (.int .i64 (.ofNat 13))),(.sc (.int .i64 (.ofNat 6))),(Ad [59]),(.sc (.int .i64 (.ofNat 20))),(.sc (.int .i64 (.ofNat 1))),(Ad [102,97,99,116]),(.sc (.int .i64 (.ofNat 22))),(.sc (.int .i64 (.ofNat 1))),(Ad [114,97,116,101]),(.sc (.int .i64 (.ofNat 27))),(.sc (.int .i64 (.ofNat 6))),(Ad [58]),(.sc (.int .i64 (.ofNat 32))),(.sc (.int .i64 (.ofNat 2))),(Ad [69,85,82]),(.sc (.int .i64 (.ofNat 34))),(.sc (.int .i64 (.ofNat 6))),(Ad [59]),(.sc (.int .i64 (.ofNat 37))),(.sc (.int .i64 (.ofNat 1))),(Ad [102,97,99,116]),(.sc (.int .i64 (.ofNat 39))),(.sc (.int .i64 (.ofNat 1))),k2,(.sc (.int .i64 (.ofNat 44))),(.sc (.int .i64 (.ofNat 6))),(Ad [58]),(.sc (.int .i64 (.ofNat 52))),(.sc (.int .i64 (.ofNat 1))),(Ad [116,114,117,116,104]),(.sc (.int .i64 (.ofNat 54))),(.sc (.int .i64 (.ofNat 6))),(Ad [59]),(.sc (.int .i64 (.ofNat 59))),(.sc (.int .i64 (.ofNat 1))),(Ad [108,105,110,101]),(.sc (.int .i64 (.ofNat 61))),(.sc (.int .i64 (.ofNat 1))),(Ad [98,97,115,105,99]),(.sc (.int .i64 (.ofNat 66))),(.sc (.int .i64 (.ofNat 6))),(Ad [58]),(.sc (.int .i64 (.ofNat 72))),(.sc (.int .i64 (.ofNat 2))),(Ad [69,85,82]),(.sc (.int .i64 (.ofNat 74))),(.sc (.int .i64 (.ofNat 1))),(Ad [101,97,114,110]),(.sc (.int .i64 (.ofNat 78))),(.sc (.int .i64 (.ofNat 6))),(Ad [59]),(.sc (.int .i64 (.ofNat 82))),(.sc (.int .i64 (.ofNat 1))),k3,(.sc (.int .i64 (.ofNat 84))),(.sc (.int .i64 (.ofNat 3))),(Ad [49]),(.sc (.int .i64 (.ofNat 92))),(.sc (.int .i64 (.ofNat 1))),(Ad [102,111,114]),(.sc (.int .i64 (.ofNat 94))),(.sc (.int .i64 (.ofNat 1))),(Ad [98,97,115,105,99]),(.sc (.int .i64 (.ofNat 98))),(.sc (.int .i64 (.ofNat 1))),(Ad [114,97,110,107]),(.sc (.int .i64 (.ofNat 104))),(.sc (.int .i64 (.ofNat 3))),(Ad [49]),(.sc (.int .i64 (.ofNat 109))),(.sc (.int .i64 (.ofNat 1))),(Ad [102,114,111,109]),(.sc (.int .i64 (.ofNat 111))),(.sc (.int .i64 (.ofNat 5))),k4,(.sc (.int .i64 (.ofNat 116))),(.sc (.int .i64 (.ofNat 1))),(Ad [107,110,111,119,110]),(.sc (.int .i64 (.ofNat 127))),(.sc (.int .i64 (.ofNat 5))),k4,(.sc (.int .i64 (.ofNat 133))),(.sc (.int .i64 (.ofNat 6))),(Ad [123]),(.sc (.int .i64 (.ofNat 144))),(.sc (.int .i64 (.ofNat 1))),(Ad [97,109,111,117,110,116]),(.sc (.int .i64 (.ofNat 146))),(.sc (.int .i64 (.ofNat 2))),(Ad [69,85,82]),(.sc (.int .i64 (.ofNat 153))),(.sc (.int .i64 (.ofNat 4))),(Ad [49,46,48,48]),(.sc (.int .i64 (.ofNat 157))),(.sc (.int .i64 (.ofNat 6))),(Ad [59]),(.sc (.int .i64 (.ofNat 161))),(.sc (.int .i64 (.ofNat 6))),(Ad [125]),(.sc (.int .i64 (.ofNat 163))),(.sc (.int .i64 (.ofNat 1))),(Ad [108,105,110,101]),(.sc (.int .i64 (.ofNat 165))),(.sc (.int .i64 (.ofNat 1))),(Ad [98,97,115,105,99]),(.sc (.int .i64 (.ofNat 170))),(.sc (.int .i64 (.ofNat 6))),(Ad [58]),(.sc (.int .i64 (.ofNat 176))),(.sc (.int .i64 (.ofNat 1))),(Ad [110,117,109,98,101,114]),(.sc (.int .i64 (.ofNat 178))),(.sc (.int .i64 (.ofNat 1))),(Ad [105,110,102,111]),(.sc (.int .i64 (.ofNat 185))),(.sc (.int .i64 (.ofNat 6))),(Ad [59]),(.sc (.int .i64 (.ofNat 189)))]
def k27:AV:=.sl .full 2 [(.sc (.int .i64 (.ofNat 12))),(Ad [104,111,117,114,115]),(Ad []),(.sc (.int .i64 (.ofNat 0))),(.sc (.int .i64 (.ofNat 0))),(.sc (.int .i64 (.ofNat 0))),(.sc (.int .i64 (.ofNat 0))),(.sc (.int .i64 (.ofNat 0))),(.sl .full 0 []),(.sl .full 0 []),(.sc (.int .i64 (.ofNat 0))),(.sc (.int .i64 (.ofNat 12))),(Ad [114,97,116,101]),(Ad []),(.sc (.int .i64 (.ofNat 0))),(.sc (.int .i64 (.ofNat 0))),(.sc (.int .i64 (.ofNat 0))),(.sc (.int .i64 (.ofNat 0))),(.sc (.int .i64 (.ofNat 0))),(.sl .full 0 []),(.sl .full 0 []),(.sc (.int .i64 (.ofNat 9)))]
def pK:AV:=.sl .full 2 [(.sc (.int .i64 (.ofNat 16))),(Ad [97,116]),(Ad []),(.sc (.int .i64 (.ofNat 0))),(.sc (.int .i64 (.ofNat 0))),(.sc (.int .i64 (.ofNat 0))),(.sc (.int .i64 (.ofNat 0))),(.sc (.int .i64 (.ofNat 0))),(.sl .full 0 []),k27,(.sc (.int .i64 (.ofNat 0))),(.sc (.int .i64 (.ofNat 13))),(Ad []),(Ad []),(.sc (.int .i64 (.ofNat 1))),(.sc (.int .i64 (.ofNat 0))),(.sc (.int .i64 (.ofNat 0))),(.sc (.int .i64 (.ofNat 0))),(.sc (.int .i64 (.ofNat 0))),(.sl .full 0 []),(.sl .full 0 []),(.sc (.int .i64 (.ofNat 16)))]
def k29:AV:=.sl .full 2 [(.sc (.int .i64 (.ofNat 11))),(Ad []),k1,(.sc (.int .i64 (.ofNat 8))),(.sc (.int .i64 (.ofNat 0))),(.sc (.int .i64 (.ofNat 0))),(.sc (.int .i64 (.ofNat 0))),(.sc (.int .i64 (.ofNat 0))),(.sl .full 0 []),(.sl .full 0 []),(.sc (.int .i64 (.ofNat 8))),(.sc (.int .i64 (.ofNat 12))),(Ad [104,111,117,114,115]),(Ad []),(.sc (.int .i64 (.ofNat 0))),(.sc (.int .i64 (.ofNat 0))),(.sc (.int .i64 (.ofNat 0))),(.sc (.int .i64 (.ofNat 0))),(.sc (.int .i64 (.ofNat 0))),(.sl .full 0 []),(.sl .full 0 []),(.sc (.int .i64 (.ofNat 0)))]
def oO:AV:=.sl .full 2 [(.sc (.int .i64 (.ofNat 16))),(Ad [60]),(Ad []),(.sc (.int .i64 (.ofNat 0))),(.sc (.int .i64 (.ofNat 0))),(.sc (.int .i64 (.ofNat 0))),(.sc (.int .i64 (.ofNat 0))),(.sc (.int .i64 (.ofNat 0))),(.sl .full 0 []),k29,(.sc (.int .i64 (.ofNat 0))),(.sc (.int .i64 (.ofNat 12))),k2,(Ad []),(.sc (.int .i64 (.ofNat 0))),(.sc (.int .i64 (.ofNat 0))),(.sc (.int .i64 (.ofNat 0))),(.sc (.int .i64 (.ofNat 0))),(.sc (.int .i64 (.ofNat 0))),(.sl .full 0 []),(.sl .full 0 []),(.sc (.int .i64 (.ofNat 18)))]
def k31:AV:=.sl .full 2 [(.sc (.int .i64 (.ofNat 12))),k2,(Ad []),(.sc (.int .i64 (.ofNat 0))),(.sc (.int .i64 (.ofNat 0))),(.sc (.int .i64 (.ofNat 0))),(.sc (.int .i64 (.ofNat 0))),(.sc (.int .i64 (.ofNat 0))),(.sl .full 0 []),(.sl .full 0 []),(.sc (.int .i64 (.ofNat 4))),(.sc (.int .i64 (.ofNat 11))),(Ad []),(Ad [116,114,117,116,104]),(.sc (.int .i64 (.ofNat 1))),(.sc (.int .i64 (.ofNat 0))),(.sc (.int .i64 (.ofNat 0))),(.sc (.int .i64 (.ofNat 0))),(.sc (.int .i64 (.ofNat 0))),(.sl .full 0 []),(.sl .full 0 []),(.sc (.int .i64 (.ofNat 15)))]
def pE:AV:=.sl .full 1 [(.sc (.int .i64 (.ofNat 16))),(Ad [61,61]),(Ad []),(.sc (.int .i64 (.ofNat 0))),(.sc (.int .i64 (.ofNat 0))),(.sc (.int .i64 (.ofNat 0))),(.sc (.int .i64 (.ofNat 0))),(.sc (.int .i64 (.ofNat 0))),(.sl .full 0 []),k31,(.sc (.int .i64 (.ofNat 4)))]
def k33:AV:=.sl .full 2 [(.sc (.int .i64 (.ofNat 12))),(Ad [114,97,116,101]),(Ad []),(.sc (.int .i64 (.ofNat 0))),(.sc (.int .i64 (.ofNat 0))),(.sc (.int .i64 (.ofNat 0))),(.sc (.int .i64 (.ofNat 0))),(.sc (.int .i64 (.ofNat 0))),(.sl .full 0 []),(.sl .full 0 []),(.sc (.int .i64 (.ofNat 0))),(.sc (.int .i64 (.ofNat 11))),(Ad []),(Ad [110,117,109,98,101,114]),(.sc (.int .i64 (.ofNat 3))),(.sc (.int .i64 (.ofNat 0))),(.sc (.int .i64 (.ofNat 0))),(.sc (.int .i64 (.ofNat 0))),(.sc (.int .i64 (.ofNat 0))),(.sl .full 0 []),(.sl .full 0 []),(.sc (.int .i64 (.ofNat 7)))]
def o0:AV:=.sl .full 2 [(.sc (.int .i64 (.ofNat 16))),(Ad [42]),(Ad []),(.sc (.int .i64 (.ofNat 0))),(.sc (.int .i64 (.ofNat 0))),(.sc (.int .i64 (.ofNat 0))),(.sc (.int .i64 (.ofNat 0))),(.sc (.int .i64 (.ofNat 0))),(.sl .full 0 []),k33,(.sc (.int .i64 (.ofNat 0))),(.sc (.int .i64 (.ofNat 11))),(Ad []),(Ad [110,117,109,98,101,114]),(.sc (.int .i64 (.ofNat 100))),(.sc (.int .i64 (.ofNat 0))),(.sc (.int .i64 (.ofNat 0))),(.sc (.int .i64 (.ofNat 0))),(.sc (.int .i64 (.ofNat 0))),(.sl .full 0 []),(.sl .full 0 []),(.sc (.int .i64 (.ofNat 11)))]
def e0:BS:=⟨43,[k0],none,(.Bq [k5,(.sc (.int .i64 (.ofNat 0))),(.sc (.int .i64 (.ofNat 0)))])⟩
theorem rQ {mx:Int}:Aw Tryz.prog (HdU.G mx) e0:=HdU.Fv _ _ (by kernel_rfl)
def e1:BS:=⟨143,[(Ad [49,46,48,48]),(Ad [46]),(Ad []),(.sc (.int .i64 (.ofNat 1)))],none,(Ad [49,48,48])⟩
theorem Im {mx:Int}:Aw Tryz.prog (HdU.G mx) e1:=HdU.OR _ _ _ _ _ (by kernel_rfl) (by kernel_rfl) (by kernel_rfl)
def e2:BS:=⟨43,[k6],none,(.Bq [k7,(.sc (.int .i64 (.ofNat 0))),(.sc (.int .i64 (.ofNat 0)))])⟩
theorem tL {mx:Int}:Aw Tryz.prog (HdU.G mx) e2:=HdU.Fv _ _ (by kernel_rfl)
def e3:BS:=⟨43,[k8],none,(.Bq [k9,(.sc (.int .i64 (.ofNat 0))),(.sc (.int .i64 (.ofNat 0)))])⟩
theorem rL {mx:Int}:Aw Tryz.prog (HdU.G mx) e3:=HdU.Fv _ _ (by kernel_rfl)
def e4:BS:=⟨43,[vW],none,(.Bq [Xf,(.sc (.int .i64 (.ofNat 0))),(.sc (.int .i64 (.ofNat 0)))])⟩
theorem r9 {mx:Int}:Aw Tryz.prog (HdU.G mx) e4:=HdU.Fv _ _ (by kernel_rfl)
def e5:BS:=⟨43,[U4],none,(.Bq [ZX,(.sc (.int .i64 (.ofNat 0))),(.sc (.int .i64 (.ofNat 0)))])⟩
theorem tU {mx:Int}:Aw Tryz.prog (HdU.G mx) e5:=HdU.Fv _ _ (by kernel_rfl)
def e6:BS:=⟨43,[YE],none,(.Bq [YR,(.sc (.int .i64 (.ofNat 0))),(.sc (.int .i64 (.ofNat 0)))])⟩
theorem p6 {mx:Int}:Aw Tryz.prog (HdU.G mx) e6:=HdU.Fv _ _ (by kernel_rfl)
def e7:BS:=⟨43,[U7],none,(.Bq [XY,(.sc (.int .i64 (.ofNat 0))),(.sc (.int .i64 (.ofNat 0)))])⟩
theorem qO {mx:Int}:Aw Tryz.prog (HdU.G mx) e7:=HdU.Fv _ _ (by kernel_rfl)
def e8:BS:=⟨43,[ZU],none,(.Bq [wP,(.sc (.int .i64 (.ofNat 0))),(.sc (.int .i64 (.ofNat 0)))])⟩
theorem pS {mx:Int}:Aw Tryz.prog (HdU.G mx) e8:=HdU.Fv _ _ (by kernel_rfl)
def e9:BS:=⟨43,[(Ad [120,32,43,32,49])],none,(.Bq [wL,(.sc (.int .i64 (.ofNat 0))),(.sc (.int .i64 (.ofNat 0)))])⟩
theorem s5 {mx:Int}:Aw Tryz.prog (HdU.G mx) e9:=HdU.Fv _ _ (by kernel_rfl)
def pM:BS:=⟨43,[(Ad [97,114,116,32,50])],none,(.Bq [(.sl .lost 2 [(.sc (.int .i64 (.ofNat 1))),(Ad [97,114,116]),(.sc (.int .i64 (.ofNat 0))),(.sc (.int .i64 (.ofNat 3))),(Ad [50]),(.sc (.int .i64 (.ofNat 4)))]),(.sc (.int .i64 (.ofNat 0))),(.sc (.int .i64 (.ofNat 0)))])⟩
theorem jN {mx:Int}:Aw Tryz.prog (HdU.G mx) pM:=HdU.Fv _ _ (by kernel_rfl)
def uI:BS:=⟨43,[vZ],none,(.Bq [wU,(.sc (.int .i64 (.ofNat 0))),(.sc (.int .i64 (.ofNat 0)))])⟩
theorem mD {mx:Int}:Aw Tryz.prog (HdU.G mx) uI:=HdU.Fv _ _ (by kernel_rfl)
def z8:BS:=⟨43,[u9],none,(.Bq [w8,(.sc (.int .i64 (.ofNat 0))),(.sc (.int .i64 (.ofNat 0)))])⟩
theorem mE {mx:Int}:Aw Tryz.prog (HdU.G mx) z8:=HdU.Fv _ _ (by kernel_rfl)
def zW:BS:=⟨43,[k25],none,(.Bq [Kn,(.sc (.int .i64 (.ofNat 0))),(.sc (.int .i64 (.ofNat 0)))])⟩
theorem kP {mx:Int}:Aw Tryz.prog (HdU.G mx) zW:=HdU.Fv _ _ (by kernel_rfl)
def Qm:BS:=⟨137,[(Ad [48])],none,(.Bq [(.sc (.int .i64 (.ofNat 0))),(.sc .nilIface)])⟩
theorem Eu {mx:Int}:Aw Tryz.prog (HdU.G mx) Qm:=HdU.IB _ _ (by kernel_rfl) (by kernel_rfl)
def QF:BS:=⟨137,[(Ad [49])],none,(.Bq [(.sc (.int .i64 (.ofNat 1))),(.sc .nilIface)])⟩
theorem Eg {mx:Int}:Aw Tryz.prog (HdU.G mx) QF:=HdU.IB _ _ (by kernel_rfl) (by kernel_rfl)
def QP:BS:=⟨137,[(Ad [49,48])],none,(.Bq [(.sc (.int .i64 (.ofNat 10))),(.sc .nilIface)])⟩
theorem Ed {mx:Int}:Aw Tryz.prog (HdU.G mx) QP:=HdU.IB _ _ (by kernel_rfl) (by kernel_rfl)
def QL:BS:=⟨137,[(Ad [49,48,48])],none,(.Bq [(.sc (.int .i64 (.ofNat 100))),(.sc .nilIface)])⟩
theorem El {mx:Int}:Aw Tryz.prog (HdU.G mx) QL:=HdU.IB _ _ (by kernel_rfl) (by kernel_rfl)
def Qj:BS:=⟨137,[(Ad [50])],none,(.Bq [(.sc (.int .i64 (.ofNat 2))),(.sc .nilIface)])⟩
theorem Ey {mx:Int}:Aw Tryz.prog (HdU.G mx) Qj:=HdU.IB _ _ (by kernel_rfl) (by kernel_rfl)
def QT:BS:=⟨137,[(Ad [51])],none,(.Bq [(.sc (.int .i64 (.ofNat 3))),(.sc .nilIface)])⟩
theorem Ew {mx:Int}:Aw Tryz.prog (HdU.G mx) QT:=HdU.IB _ _ (by kernel_rfl) (by kernel_rfl)
def Qo:BS:=⟨137,[(Ad [56])],none,(.Bq [(.sc (.int .i64 (.ofNat 8))),(.sc .nilIface)])⟩
theorem Eh {mx:Int}:Aw Tryz.prog (HdU.G mx) Qo:=HdU.IB _ _ (by kernel_rfl) (by kernel_rfl)
def TC:BS:=⟨143,[(Ad [62]),(Ad [62]),(Ad [60]),(.sc (.int .i64 (.ofNat 1)))],none,(Ad [60])⟩
theorem FX {mx:Int}:Aw Tryz.prog (HdU.G mx) TC:=HdU.OR _ _ _ _ _ (by kernel_rfl) (by kernel_rfl) (by kernel_rfl)
def TD:BS:=⟨143,[(Ad [48]),(Ad [46]),(Ad []),(.sc (.int .i64 (.ofNat 1)))],none,(Ad [48])⟩
theorem FW {mx:Int}:Aw Tryz.prog (HdU.G mx) TD:=HdU.OR _ _ _ _ _ (by kernel_rfl) (by kernel_rfl) (by kernel_rfl)
def zV:BS:=⟨75,[],(some ([k7,(.sc (.int .i64 (.ofNat 0))),(.sc (.int .i64 (.ofNat 21)))],[k7,(.sc (.int .i64 (.ofNat 6))),(.sc (.int .i64 (.ofNat 21)))])),(.agg [(.sc (.int .i64 (.ofNat 16))),(Ad [43]),(Ad []),(.sc (.int .i64 (.ofNat 0))),(.sc (.int .i64 (.ofNat 0))),(.sc (.int .i64 (.ofNat 0))),(.sc (.int .i64 (.ofNat 0))),(.sc (.int .i64 (.ofNat 0))),(.sl .full 0 []),pK,(.sc (.int .i64 (.ofNat 0)))])⟩
theorem lN {mx:Int}:Aw Tryz.prog (HdU.G mx) zV:=HdU.entry (l:=[e1,Qm,QF,QP,QL,Qj,QT,Qo,TC,TD]) (m:=1000000) (Ab.cons Im (Ab.cons Eu (Ab.cons Eg (Ab.cons Ed (Ab.cons El (Ab.cons Ey (Ab.cons Ew (Ab.cons Eh (Ab.cons FX (Ab.cons FW HdU.none)))))))))) (by kernel_rfl) (by kernel_rfl)
def Xk:BS:=⟨47,[(.agg [(.sc (.int .i64 (.ofNat 16))),(Ad [43]),(Ad []),(.sc (.int .i64 (.ofNat 0))),(.sc (.int .i64 (.ofNat 0))),(.sc (.int .i64 (.ofNat 0))),(.sc (.int .i64 (.ofNat 0))),(.sc (.int .i64 (.ofNat 0))),(.sl .full 0 []),pK,(.sc (.int .i64 (.ofNat 0)))])],none,(.Bq [(.agg [(.sc (.int .i64 (.ofNat 16))),(Ad [43]),(Ad []),(.sc (.int .i64 (.ofNat 0))),(.sc (.int .i64 (.ofNat 0))),(.sc (.int .i64 (.ofNat 0))),(.sc (.int .i64 (.ofNat 0))),(.sc (.int .i64 (.ofNat 0))),(.sl .full 0 []),pK,(.sc (.int .i64 (.ofNat 0)))]),(.sl .full 0 [])])⟩
theorem Io {mx:Int}:Aw Tryz.prog (HdU.G mx) Xk:=HdU.entry (l:=[]) (m:=1000000) HdU.none (by kernel_rfl) (by kernel_rfl)
def e25:BS:=⟨48,[k6],none,(.Bq [(.agg [(.sc (.int .i64 (.ofNat 16))),(Ad [43]),(Ad []),(.sc (.int .i64 (.ofNat 0))),(.sc (.int .i64 (.ofNat 0))),(.sc (.int .i64 (.ofNat 0))),(.sc (.int .i64 (.ofNat 0))),(.sc (.int .i64 (.ofNat 0))),(.sl .full 0 []),pK,(.sc (.int .i64 (.ofNat 0)))]),(.sl .full 0 [])])⟩
theorem nO {mx:Int}:Aw Tryz.prog (HdU.G mx) e25:=HdU.entry (l:=[e2,zV,Xk]) (m:=1000000) (Ab.cons tL (Ab.cons lN (Ab.cons Io HdU.none))) (by kernel_rfl) (by kernel_rfl)
def yB:BS:=⟨75,[],(some ([k9,(.sc (.int .i64 (.ofNat 0))),(.sc (.int .i64 (.ofNat 25)))],[k9,(.sc (.int .i64 (.ofNat 6))),(.sc (.int .i64 (.ofNat 25)))])),(.agg [(.sc (.int .i64 (.ofNat 16))),(Ad [97,110,100]),(Ad []),(.sc (.int .i64 (.ofNat 0))),(.sc (.int .i64 (.ofNat 0))),(.sc (.int .i64 (.ofNat 0))),(.sc (.int .i64 (.ofNat 0))),(.sc (.int .i64 (.ofNat 0))),(.sl .full 0 []),oO,(.sc (.int .i64 (.ofNat 0)))])⟩
theorem lI {mx:Int}:Aw Tryz.prog (HdU.G mx) yB:=HdU.entry (l:=[e1,Qm,QF,QP,QL,Qj,QT,Qo,TC,TD]) (m:=1000000) (Ab.cons Im (Ab.cons Eu (Ab.cons Eg (Ab.cons Ed (Ab.cons El (Ab.cons Ey (Ab.cons Ew (Ab.cons Eh (Ab.cons FX (Ab.cons FW HdU.none)))))))))) (by kernel_rfl) (by kernel_rfl)
def Zf:BS:=⟨47,[(.agg [(.sc (.int .i64 (.ofNat 16))),(Ad [97,110,100]),(Ad []),(.sc (.int .i64 (.ofNat 0))),(.sc (.int .i64 (.ofNat 0))),(.sc (.int .i64 (.ofNat 0))),(.sc (.int .i64 (.ofNat 0))),(.sc (.int .i64 (.ofNat 0))),(.sl .full 0 []),oO,(.sc (.int .i64 (.ofNat 0)))])],none,(.Bq [(.agg [(.sc (.int .i64 (.ofNat 16))),(Ad [97,110,100]),(Ad []),(.sc (.int .i64 (.ofNat 0))),(.sc (.int .i64 (.ofNat 0))),(.sc (.int .i64 (.ofNat 0))),(.sc (.int .i64 (.ofNat 0))),(.sc (.int .i64 (.ofNat 0))),(.sl .full 0 []),oO,(.sc (.int .i64 (.ofNat 0)))]),(.sl .full 0 [])])⟩
theorem I7 {mx:Int}:Aw Tryz.prog (HdU.G mx) Zf:=HdU.entry (l:=[]) (m:=1000000) HdU.none (by kernel_rfl) (by kernel_rfl)
def zP:BS:=⟨48,[k8],none,(.Bq [(.agg [(.sc (.int .i64 (.ofNat 16))),(Ad [97,110,100]),(Ad []),(.sc (.int .i64 (.ofNat 0))),(.sc (.int .i64 (.ofNat 0))),(.sc (.int .i64 (.ofNat 0))),(.sc (.int .i64 (.ofNat 0))),(.sc (.int .i64 (.ofNat 0))),(.sl .full 0 []),oO,(.sc (.int .i64 (.ofNat 0)))]),(.sl .full 0 [])])⟩
theorem nK {mx:Int}:Aw Tryz.prog (HdU.G mx) zP:=HdU.entry (l:=[e3,Xk,yB,Zf]) (m:=1000000) (Ab.cons rL (Ab.cons Io (Ab.cons lI (Ab.cons I7 HdU.none)))) (by kernel_rfl) (by kernel_rfl)
def zA:BS:=⟨75,[],(some ([Xf,(.sc (.int .i64 (.ofNat 0))),(.sc (.int .i64 (.ofNat 19)))],[Xf,(.sc (.int .i64 (.ofNat 4))),(.sc (.int .i64 (.ofNat 19)))])),(.agg [(.sc (.int .i64 (.ofNat 15))),(Ad []),(Ad []),(.sc (.int .i64 (.ofNat 0))),(.sc (.int .i64 (.ofNat 0))),(.sc (.int .i64 (.ofNat 0))),(.sc (.int .i64 (.ofNat 0))),(.sc (.int .i64 (.ofNat 0))),(.sl .full 0 []),pE,(.sc (.int .i64 (.ofNat 0)))])⟩
theorem oB {mx:Int}:Aw Tryz.prog (HdU.G mx) zA:=HdU.entry (l:=[e1,Qm,QF,QP,QL,Qj,QT,Qo,TC,TD]) (m:=1000000) (Ab.cons Im (Ab.cons Eu (Ab.cons Eg (Ab.cons Ed (Ab.cons El (Ab.cons Ey (Ab.cons Ew (Ab.cons Eh (Ab.cons FX (Ab.cons FW HdU.none)))))))))) (by kernel_rfl) (by kernel_rfl)
def Z4:BS:=⟨47,[(.agg [(.sc (.int .i64 (.ofNat 15))),(Ad []),(Ad []),(.sc (.int .i64 (.ofNat 0))),(.sc (.int .i64 (.ofNat 0))),(.sc (.int .i64 (.ofNat 0))),(.sc (.int .i64 (.ofNat 0))),(.sc (.int .i64 (.ofNat 0))),(.sl .full 0 []),pE,(.sc (.int .i64 (.ofNat 0)))])],none,(.Bq [(.agg [(.sc (.int .i64 (.ofNat 15))),(Ad []),(Ad []),(.sc (.int .i64 (.ofNat 0))),(.sc (.int .i64 (.ofNat 0))),(.sc (.int .i64 (.ofNat 0))),(.sc (.int .i64 (.ofNat 0))),(.sc (.int .i64 (.ofNat 0))),(.sl .full 0 []),pE,(.sc (.int .i64 (.ofNat 0)))]),(.sl .full 0 [])])⟩
theorem Jy {mx:Int}:Aw Tryz.prog (HdU.G mx) Z4:=HdU.entry (l:=[]) (m:=1000000) HdU.none (by kernel_rfl) (by kernel_rfl)
def yO:BS:=⟨48,[vW],none,(.Bq [(.agg [(.sc (.int .i64 (.ofNat 15))),(Ad []),(Ad []),(.sc (.int .i64 (.ofNat 0))),(.sc (.int .i64 (.ofNat 0))),(.sc (.int .i64 (.ofNat 0))),(.sc (.int .i64 (.ofNat 0))),(.sc (.int .i64 (.ofNat 0))),(.sl .full 0 []),pE,(.sc (.int .i64 (.ofNat 0)))]),(.sl .full 0 [])])⟩
theorem lG {mx:Int}:Aw Tryz.prog (HdU.G mx) yO:=HdU.entry (l:=[e4,Xk,Zf,zA,Z4]) (m:=1000000) (Ab.cons r9 (Ab.cons Io (Ab.cons I7 (Ab.cons oB (Ab.cons Jy HdU.none))))) (by kernel_rfl) (by kernel_rfl)
def xR:BS:=⟨75,[],(some ([ZX,(.sc (.int .i64 (.ofNat 0))),(.sc (.int .i64 (.ofNat 14)))],[ZX,(.sc (.int .i64 (.ofNat 5))),(.sc (.int .i64 (.ofNat 14)))])),(.agg [(.sc (.int .i64 (.ofNat 16))),(Ad [47]),(Ad []),(.sc (.int .i64 (.ofNat 0))),(.sc (.int .i64 (.ofNat 0))),(.sc (.int .i64 (.ofNat 0))),(.sc (.int .i64 (.ofNat 0))),(.sc (.int .i64 (.ofNat 0))),(.sl .full 0 []),o0,(.sc (.int .i64 (.ofNat 0)))])⟩
theorem l5 {mx:Int}:Aw Tryz.prog (HdU.G mx) xR:=HdU.entry (l:=[e1,Qm,QF,QP,QL,Qj,QT,Qo,TC,TD]) (m:=1000000) (Ab.cons Im (Ab.cons Eu (Ab.cons Eg (Ab.cons Ed (Ab.cons El (Ab.cons Ey (Ab.cons Ew (Ab.cons Eh (Ab.cons FX (Ab.cons FW HdU.none)))))))))) (by kernel_rfl) (by kernel_rfl)
end Go.Proofs.YtkfplcngmiljaaaGreatDoor
namespace Go.Proofs.YtkfplcngmiljaaaGreatDoor
open AI
set_option maxRecDepth 100000
set_option maxHeartbeats 4000000
def oU:AV:=.sl .full 2 [(.sc (.int .i64 (.ofNat 11))),(Ad []),(Ad [110,117,109,98,101,114]),(.sc (.int .i64 (.ofNat 2))),(.sc (.int .i64 (.ofNat 0))),(.sc (.int .i64 (.ofNat 0))),(.sc (.int .i64 (.ofNat 0))),(.sc (.int .i64 (.ofNat 0))),(.sl .full 0 []),(.sl .full 0 []),(.sc (.int .i64 (.ofNat 0))),(.sc (.int .i64 (.ofNat 12))),(Ad [104,111,117,114,115]),(Ad []),(.sc (.int .i64 (.ofNat 0))),(.sc (.int .i64 (.ofNat 0))),(.sc (.int .i64 (.ofNat 0))),(.sc (.int .i64 (.ofNat 0))),(.sc (.int .i64 (.ofNat 0))),(.sl .full 0 []),(.sl .full 0 []),(.sc (.int .i64 (.ofNat 4)))]
def pD:AV:=.sl .full 2 [(.sc (.int .i64 (.ofNat 12))),(Ad [114,97,116,101]),(Ad []),(.sc (.int .i64 (.ofNat 0))),(.sc (.int .i64 (.ofNat 0))),(.sc (.int .i64 (.ofNat 0))),(.sc (.int .i64 (.ofNat 0))),(.sc (.int .i64 (.ofNat 0))),(.sl .full 0 []),(.sl .full 0 []),(.sc (.int .i64 (.ofNat 0))),(.sc (.int .i64 (.ofNat 12))),(Ad [114,97,116,101]),(Ad []),(.sc (.int .i64 (.ofNat 0))),(.sc (.int .i64 (.ofNat 0))),(.sc (.int .i64 (.ofNat 0))),(.sc (.int .i64 (.ofNat 0))),(.sc (.int .i64 (.ofNat 0))),(.sl .full 0 []),(.sl .full 0 []),(.sc (.int .i64 (.ofNat 7)))]
def pB:AV:=.sl .full 2 [(.sc (.int .i64 (.ofNat 12))),(Ad [104,111,117,114,115]),(Ad []),(.sc (.int .i64 (.ofNat 0))),(.sc (.int .i64 (.ofNat 0))),(.sc (.int .i64 (.ofNat 0))),(.sc (.int .i64 (.ofNat 0))),(.sc (.int .i64 (.ofNat 0))),(.sl .full 0 []),(.sl .full 0 []),(.sc (.int .i64 (.ofNat 0))),(.sc (.int .i64 (.ofNat 11))),(Ad []),(Ad [110,117,109,98,101,114]),(.sc (.int .i64 (.ofNat 1))),(.sc (.int .i64 (.ofNat 0))),(.sc (.int .i64 (.ofNat 0))),(.sc (.int .i64 (.ofNat 0))),(.sc (.int .i64 (.ofNat 0))),(.sl .full 0 []),(.sl .full 0 []),(.sc (.int .i64 (.ofNat 8)))]
def pA:AV:=.sl .full 2 [(.sc (.int .i64 (.ofNat 12))),(Ad [120]),(Ad []),(.sc (.int .i64 (.ofNat 0))),(.sc (.int .i64 (.ofNat 0))),(.sc (.int .i64 (.ofNat 0))),(.sc (.int .i64 (.ofNat 0))),(.sc (.int .i64 (.ofNat 0))),(.sl .full 0 []),(.sl .full 0 []),(.sc (.int .i64 (.ofNat 0))),(.sc (.int .i64 (.ofNat 11))),(Ad []),(Ad [110,117,109,98,101,114]),(.sc (.int .i64 (.ofNat 1))),(.sc (.int .i64 (.ofNat 0))),(.sc (.int .i64 (.ofNat 0))),(.sc (.int .i64 (.ofNat 0))),(.sc (.int .i64 (.ofNat 0))),(.sl .full 0 []),(.sl .full 0 []),(.sc (.int .i64 (.ofNat 4)))]
def oV:AV:=.sl .full 1 [(.sc (.int .i64 (.ofNat 12))),(Ad [104,111,117,114,115]),(Ad []),(.sc (.int .i64 (.ofNat 0))),(.sc (.int .i64 (.ofNat 0))),(.sc (.int .i64 (.ofNat 0))),(.sc (.int .i64 (.ofNat 0))),(.sc (.int .i64 (.ofNat 0))),(.sl .full 0 []),(.sl .full 0 []),(.sc (.int .i64 (.ofNat 6)))]
def fC:BS:=⟨47,[(.agg [(.sc (.int .i64 (.ofNat 16))),(Ad [47]),(Ad []),(.sc (.int .i64 (.ofNat 0))),(.sc (.int .i64 (.ofNat 0))),(.sc (.int .i64 (.ofNat 0))),(.sc (.int .i64 (.ofNat 0))),(.sc (.int .i64 (.ofNat 0))),(.sl .full 0 []),o0,(.sc (.int .i64 (.ofNat 0)))])],none,(.Bq [(.agg [(.sc (.int .i64 (.ofNat 16))),(Ad [47]),(Ad []),(.sc (.int .i64 (.ofNat 0))),(.sc (.int .i64 (.ofNat 0))),(.sc (.int .i64 (.ofNat 0))),(.sc (.int .i64 (.ofNat 0))),(.sc (.int .i64 (.ofNat 0))),(.sl .full 0 []),o0,(.sc (.int .i64 (.ofNat 0)))]),(.sl .full 0 [])])⟩
theorem KD {mx:Int}:Aw Tryz.prog (HdU.G mx) fC:=HdU.entry (l:=[]) (m:=1000000) HdU.none (by kernel_rfl) (by kernel_rfl)
def yQ:BS:=⟨48,[U4],none,(.Bq [(.agg [(.sc (.int .i64 (.ofNat 16))),(Ad [47]),(Ad []),(.sc (.int .i64 (.ofNat 0))),(.sc (.int .i64 (.ofNat 0))),(.sc (.int .i64 (.ofNat 0))),(.sc (.int .i64 (.ofNat 0))),(.sc (.int .i64 (.ofNat 0))),(.sl .full 0 []),o0,(.sc (.int .i64 (.ofNat 0)))]),(.sl .full 0 [])])⟩
theorem nQ {mx:Int}:Aw Tryz.prog (HdU.G mx) yQ:=HdU.entry (l:=[e5,Xk,Zf,Z4,xR,fC]) (m:=1000000) (Ab.cons tU (Ab.cons Io (Ab.cons I7 (Ab.cons Jy (Ab.cons l5 (Ab.cons KD HdU.none)))))) (by kernel_rfl) (by kernel_rfl)
def x8:BS:=⟨75,[],(some ([YR,(.sc (.int .i64 (.ofNat 0))),(.sc (.int .i64 (.ofNat 9)))],[YR,(.sc (.int .i64 (.ofNat 3))),(.sc (.int .i64 (.ofNat 9)))])),(.agg [(.sc (.int .i64 (.ofNat 16))),(Ad [42]),(Ad []),(.sc (.int .i64 (.ofNat 0))),(.sc (.int .i64 (.ofNat 0))),(.sc (.int .i64 (.ofNat 0))),(.sc (.int .i64 (.ofNat 0))),(.sc (.int .i64 (.ofNat 0))),(.sl .full 0 []),oU,(.sc (.int .i64 (.ofNat 0)))])⟩
theorem mA {mx:Int}:Aw Tryz.prog (HdU.G mx) x8:=HdU.entry (l:=[e1,Qm,QF,QP,QL,Qj,QT,Qo,TC,TD]) (m:=1000000) (Ab.cons Im (Ab.cons Eu (Ab.cons Eg (Ab.cons Ed (Ab.cons El (Ab.cons Ey (Ab.cons Ew (Ab.cons Eh (Ab.cons FX (Ab.cons FW HdU.none)))))))))) (by kernel_rfl) (by kernel_rfl)
def gU:BS:=⟨47,[(.agg [(.sc (.int .i64 (.ofNat 16))),(Ad [42]),(Ad []),(.sc (.int .i64 (.ofNat 0))),(.sc (.int .i64 (.ofNat 0))),(.sc (.int .i64 (.ofNat 0))),(.sc (.int .i64 (.ofNat 0))),(.sc (.int .i64 (.ofNat 0))),(.sl .full 0 []),oU,(.sc (.int .i64 (.ofNat 0)))])],none,(.Bq [(.agg [(.sc (.int .i64 (.ofNat 16))),(Ad [42]),(Ad []),(.sc (.int .i64 (.ofNat 0))),(.sc (.int .i64 (.ofNat 0))),(.sc (.int .i64 (.ofNat 0))),(.sc (.int .i64 (.ofNat 0))),(.sc (.int .i64 (.ofNat 0))),(.sl .full 0 []),oU,(.sc (.int .i64 (.ofNat 0)))]),(.sl .full 0 [])])⟩
theorem Ln {mx:Int}:Aw Tryz.prog (HdU.G mx) gU:=HdU.entry (l:=[]) (m:=1000000) HdU.none (by kernel_rfl) (by kernel_rfl)
def yF:BS:=⟨48,[YE],none,(.Bq [(.agg [(.sc (.int .i64 (.ofNat 16))),(Ad [42]),(Ad []),(.sc (.int .i64 (.ofNat 0))),(.sc (.int .i64 (.ofNat 0))),(.sc (.int .i64 (.ofNat 0))),(.sc (.int .i64 (.ofNat 0))),(.sc (.int .i64 (.ofNat 0))),(.sl .full 0 []),oU,(.sc (.int .i64 (.ofNat 0)))]),(.sl .full 0 [])])⟩
theorem kJ {mx:Int}:Aw Tryz.prog (HdU.G mx) yF:=HdU.entry (l:=[e6,Xk,Zf,Z4,fC,x8,gU]) (m:=1000000) (Ab.cons p6 (Ab.cons Io (Ab.cons I7 (Ab.cons Jy (Ab.cons KD (Ab.cons mA (Ab.cons Ln HdU.none))))))) (by kernel_rfl) (by kernel_rfl)
def zN:BS:=⟨75,[],(some ([XY,(.sc (.int .i64 (.ofNat 0))),(.sc (.int .i64 (.ofNat 11)))],[XY,(.sc (.int .i64 (.ofNat 3))),(.sc (.int .i64 (.ofNat 11)))])),(.agg [(.sc (.int .i64 (.ofNat 16))),(Ad [42]),(Ad []),(.sc (.int .i64 (.ofNat 0))),(.sc (.int .i64 (.ofNat 0))),(.sc (.int .i64 (.ofNat 0))),(.sc (.int .i64 (.ofNat 0))),(.sc (.int .i64 (.ofNat 0))),(.sl .full 0 []),pD,(.sc (.int .i64 (.ofNat 0)))])⟩
theorem nH {mx:Int}:Aw Tryz.prog (HdU.G mx) zN:=HdU.entry (l:=[e1,Qm,QF,QP,QL,Qj,QT,Qo,TC,TD]) (m:=1000000) (Ab.cons Im (Ab.cons Eu (Ab.cons Eg (Ab.cons Ed (Ab.cons El (Ab.cons Ey (Ab.cons Ew (Ab.cons Eh (Ab.cons FX (Ab.cons FW HdU.none)))))))))) (by kernel_rfl) (by kernel_rfl)
def jH:BS:=⟨47,[(.agg [(.sc (.int .i64 (.ofNat 16))),(Ad [42]),(Ad []),(.sc (.int .i64 (.ofNat 0))),(.sc (.int .i64 (.ofNat 0))),(.sc (.int .i64 (.ofNat 0))),(.sc (.int .i64 (.ofNat 0))),(.sc (.int .i64 (.ofNat 0))),(.sl .full 0 []),pD,(.sc (.int .i64 (.ofNat 0)))])],none,(.Bq [(.agg [(.sc (.int .i64 (.ofNat 16))),(Ad [42]),(Ad []),(.sc (.int .i64 (.ofNat 0))),(.sc (.int .i64 (.ofNat 0))),(.sc (.int .i64 (.ofNat 0))),(.sc (.int .i64 (.ofNat 0))),(.sc (.int .i64 (.ofNat 0))),(.sl .full 0 []),pD,(.sc (.int .i64 (.ofNat 0)))]),(.sl .full 0 [])])⟩
theorem M3 {mx:Int}:Aw Tryz.prog (HdU.G mx) jH:=HdU.entry (l:=[]) (m:=1000000) HdU.none (by kernel_rfl) (by kernel_rfl)
def e40:BS:=⟨48,[U7],none,(.Bq [(.agg [(.sc (.int .i64 (.ofNat 16))),(Ad [42]),(Ad []),(.sc (.int .i64 (.ofNat 0))),(.sc (.int .i64 (.ofNat 0))),(.sc (.int .i64 (.ofNat 0))),(.sc (.int .i64 (.ofNat 0))),(.sc (.int .i64 (.ofNat 0))),(.sl .full 0 []),pD,(.sc (.int .i64 (.ofNat 0)))]),(.sl .full 0 [])])⟩
theorem j6 {mx:Int}:Aw Tryz.prog (HdU.G mx) e40:=HdU.entry (l:=[e7,Xk,Zf,Z4,fC,gU,zN,jH]) (m:=1000000) (Ab.cons qO (Ab.cons Io (Ab.cons I7 (Ab.cons Jy (Ab.cons KD (Ab.cons Ln (Ab.cons nH (Ab.cons M3 HdU.none)))))))) (by kernel_rfl) (by kernel_rfl)
def e41:BS:=⟨75,[],(some ([wP,(.sc (.int .i64 (.ofNat 0))),(.sc (.int .i64 (.ofNat 9)))],[wP,(.sc (.int .i64 (.ofNat 3))),(.sc (.int .i64 (.ofNat 9)))])),(.agg [(.sc (.int .i64 (.ofNat 16))),(Ad [43]),(Ad []),(.sc (.int .i64 (.ofNat 0))),(.sc (.int .i64 (.ofNat 0))),(.sc (.int .i64 (.ofNat 0))),(.sc (.int .i64 (.ofNat 0))),(.sc (.int .i64 (.ofNat 0))),(.sl .full 0 []),pB,(.sc (.int .i64 (.ofNat 0)))])⟩
theorem lD {mx:Int}:Aw Tryz.prog (HdU.G mx) e41:=HdU.entry (l:=[e1,Qm,QF,QP,QL,Qj,QT,Qo,TC,TD]) (m:=1000000) (Ab.cons Im (Ab.cons Eu (Ab.cons Eg (Ab.cons Ed (Ab.cons El (Ab.cons Ey (Ab.cons Ew (Ab.cons Eh (Ab.cons FX (Ab.cons FW HdU.none)))))))))) (by kernel_rfl) (by kernel_rfl)
def oR:BS:=⟨47,[(.agg [(.sc (.int .i64 (.ofNat 16))),(Ad [43]),(Ad []),(.sc (.int .i64 (.ofNat 0))),(.sc (.int .i64 (.ofNat 0))),(.sc (.int .i64 (.ofNat 0))),(.sc (.int .i64 (.ofNat 0))),(.sc (.int .i64 (.ofNat 0))),(.sl .full 0 []),pB,(.sc (.int .i64 (.ofNat 0)))])],none,(.Bq [(.agg [(.sc (.int .i64 (.ofNat 16))),(Ad [43]),(Ad []),(.sc (.int .i64 (.ofNat 0))),(.sc (.int .i64 (.ofNat 0))),(.sc (.int .i64 (.ofNat 0))),(.sc (.int .i64 (.ofNat 0))),(.sc (.int .i64 (.ofNat 0))),(.sl .full 0 []),pB,(.sc (.int .i64 (.ofNat 0)))]),(.sl .full 0 [])])⟩
theorem Pn {mx:Int}:Aw Tryz.prog (HdU.G mx) oR:=HdU.entry (l:=[]) (m:=1000000) HdU.none (by kernel_rfl) (by kernel_rfl)
def yX:BS:=⟨48,[ZU],none,(.Bq [(.agg [(.sc (.int .i64 (.ofNat 16))),(Ad [43]),(Ad []),(.sc (.int .i64 (.ofNat 0))),(.sc (.int .i64 (.ofNat 0))),(.sc (.int .i64 (.ofNat 0))),(.sc (.int .i64 (.ofNat 0))),(.sc (.int .i64 (.ofNat 0))),(.sl .full 0 []),pB,(.sc (.int .i64 (.ofNat 0)))]),(.sl .full 0 [])])⟩
theorem oE {mx:Int}:Aw Tryz.prog (HdU.G mx) yX:=HdU.entry (l:=[e8,Xk,Zf,Z4,fC,gU,jH,e41,oR]) (m:=1000000) (Ab.cons pS (Ab.cons Io (Ab.cons I7 (Ab.cons Jy (Ab.cons KD (Ab.cons Ln (Ab.cons M3 (Ab.cons lD (Ab.cons Pn HdU.none))))))))) (by kernel_rfl) (by kernel_rfl)
def zM:BS:=⟨75,[],(some ([wL,(.sc (.int .i64 (.ofNat 0))),(.sc (.int .i64 (.ofNat 5)))],[wL,(.sc (.int .i64 (.ofNat 3))),(.sc (.int .i64 (.ofNat 5)))])),(.agg [(.sc (.int .i64 (.ofNat 16))),(Ad [43]),(Ad []),(.sc (.int .i64 (.ofNat 0))),(.sc (.int .i64 (.ofNat 0))),(.sc (.int .i64 (.ofNat 0))),(.sc (.int .i64 (.ofNat 0))),(.sc (.int .i64 (.ofNat 0))),(.sl .full 0 []),pA,(.sc (.int .i64 (.ofNat 0)))])⟩
theorem mO {mx:Int}:Aw Tryz.prog (HdU.G mx) zM:=HdU.entry (l:=[e1,Qm,QF,QP,QL,Qj,QT,Qo,TC,TD]) (m:=1000000) (Ab.cons Im (Ab.cons Eu (Ab.cons Eg (Ab.cons Ed (Ab.cons El (Ab.cons Ey (Ab.cons Ew (Ab.cons Eh (Ab.cons FX (Ab.cons FW HdU.none)))))))))) (by kernel_rfl) (by kernel_rfl)
def rA:BS:=⟨47,[(.agg [(.sc (.int .i64 (.ofNat 16))),(Ad [43]),(Ad []),(.sc (.int .i64 (.ofNat 0))),(.sc (.int .i64 (.ofNat 0))),(.sc (.int .i64 (.ofNat 0))),(.sc (.int .i64 (.ofNat 0))),(.sc (.int .i64 (.ofNat 0))),(.sl .full 0 []),pA,(.sc (.int .i64 (.ofNat 0)))])],none,(.Bq [(.agg [(.sc (.int .i64 (.ofNat 16))),(Ad [43]),(Ad []),(.sc (.int .i64 (.ofNat 0))),(.sc (.int .i64 (.ofNat 0))),(.sc (.int .i64 (.ofNat 0))),(.sc (.int .i64 (.ofNat 0))),(.sc (.int .i64 (.ofNat 0))),(.sl .full 0 []),pA,(.sc (.int .i64 (.ofNat 0)))]),(.sl .full 0 [])])⟩
theorem Rj {mx:Int}:Aw Tryz.prog (HdU.G mx) rA:=HdU.entry (l:=[]) (m:=1000000) HdU.none (by kernel_rfl) (by kernel_rfl)
def xH:BS:=⟨48,[(Ad [120,32,43,32,49])],none,(.Bq [(.agg [(.sc (.int .i64 (.ofNat 16))),(Ad [43]),(Ad []),(.sc (.int .i64 (.ofNat 0))),(.sc (.int .i64 (.ofNat 0))),(.sc (.int .i64 (.ofNat 0))),(.sc (.int .i64 (.ofNat 0))),(.sc (.int .i64 (.ofNat 0))),(.sl .full 0 []),pA,(.sc (.int .i64 (.ofNat 0)))]),(.sl .full 0 [])])⟩
theorem mC {mx:Int}:Aw Tryz.prog (HdU.G mx) xH:=HdU.entry (l:=[e9,Xk,Zf,Z4,fC,gU,jH,oR,zM,rA]) (m:=1000000) (Ab.cons s5 (Ab.cons Io (Ab.cons I7 (Ab.cons Jy (Ab.cons KD (Ab.cons Ln (Ab.cons M3 (Ab.cons Pn (Ab.cons mO (Ab.cons Rj HdU.none)))))))))) (by kernel_rfl) (by kernel_rfl)
def yA:BS:=⟨75,[],(some ([(.sl .lost 2 [(.sc (.int .i64 (.ofNat 1))),(Ad [97,114,116]),(.sc (.int .i64 (.ofNat 0))),(.sc (.int .i64 (.ofNat 3))),(Ad [50]),(.sc (.int .i64 (.ofNat 4)))]),(.sc (.int .i64 (.ofNat 0))),(.sc (.int .i64 (.ofNat 5)))],[(.sl .lost 2 [(.sc (.int .i64 (.ofNat 1))),(Ad [97,114,116]),(.sc (.int .i64 (.ofNat 0))),(.sc (.int .i64 (.ofNat 3))),(Ad [50]),(.sc (.int .i64 (.ofNat 4)))]),(.sc (.int .i64 (.ofNat 2))),(.sc (.int .i64 (.ofNat 5)))])),(.agg [(.sc (.int .i64 (.ofNat 13))),(Ad []),(Ad []),(.sc (.int .i64 (.ofNat 2))),(.sc (.int .i64 (.ofNat 0))),(.sc (.int .i64 (.ofNat 0))),(.sc (.int .i64 (.ofNat 0))),(.sc (.int .i64 (.ofNat 0))),(.sl .full 0 []),(.sl .full 0 []),(.sc (.int .i64 (.ofNat 0)))])⟩
theorem jV {mx:Int}:Aw Tryz.prog (HdU.G mx) yA:=HdU.entry (l:=[e1,Qm,QF,QP,QL,Qj,QT,Qo,TC,TD]) (m:=1000000) (Ab.cons Im (Ab.cons Eu (Ab.cons Eg (Ab.cons Ed (Ab.cons El (Ab.cons Ey (Ab.cons Ew (Ab.cons Eh (Ab.cons FX (Ab.cons FW HdU.none)))))))))) (by kernel_rfl) (by kernel_rfl)
def uL:BS:=⟨47,[(.agg [(.sc (.int .i64 (.ofNat 13))),(Ad []),(Ad []),(.sc (.int .i64 (.ofNat 2))),(.sc (.int .i64 (.ofNat 0))),(.sc (.int .i64 (.ofNat 0))),(.sc (.int .i64 (.ofNat 0))),(.sc (.int .i64 (.ofNat 0))),(.sl .full 0 []),(.sl .full 0 []),(.sc (.int .i64 (.ofNat 0)))])],none,(.Bq [(.agg [(.sc (.int .i64 (.ofNat 13))),(Ad []),(Ad []),(.sc (.int .i64 (.ofNat 2))),(.sc (.int .i64 (.ofNat 0))),(.sc (.int .i64 (.ofNat 0))),(.sc (.int .i64 (.ofNat 0))),(.sc (.int .i64 (.ofNat 0))),(.sl .full 0 []),(.sl .full 0 []),(.sc (.int .i64 (.ofNat 0)))]),(.sl .full 0 [])])⟩
theorem TM {mx:Int}:Aw Tryz.prog (HdU.G mx) uL:=HdU.entry (l:=[]) (m:=1000000) HdU.none (by kernel_rfl) (by kernel_rfl)
def zF:BS:=⟨48,[(Ad [97,114,116,32,50])],none,(.Bq [(.agg [(.sc (.int .i64 (.ofNat 13))),(Ad []),(Ad []),(.sc (.int .i64 (.ofNat 2))),(.sc (.int .i64 (.ofNat 0))),(.sc (.int .i64 (.ofNat 0))),(.sc (.int .i64 (.ofNat 0))),(.sc (.int .i64 (.ofNat 0))),(.sl .full 0 []),(.sl .full 0 []),(.sc (.int .i64 (.ofNat 0)))]),(.sl .full 0 [])])⟩
theorem jL {mx:Int}:Aw Tryz.prog (HdU.G mx) zF:=HdU.entry (l:=[pM,Xk,Zf,Z4,fC,gU,jH,oR,rA,yA,uL]) (m:=1000000) (Ab.cons jN (Ab.cons Io (Ab.cons I7 (Ab.cons Jy (Ab.cons KD (Ab.cons Ln (Ab.cons M3 (Ab.cons Pn (Ab.cons Rj (Ab.cons jV (Ab.cons TM HdU.none))))))))))) (by kernel_rfl) (by kernel_rfl)
def yG:BS:=⟨75,[],(some ([wU,(.sc (.int .i64 (.ofNat 0))),(.sc (.int .i64 (.ofNat 26)))],[wU,(.sc (.int .i64 (.ofNat 12))),(.sc (.int .i64 (.ofNat 26)))])),(.agg [(.sc (.int .i64 (.ofNat 18))),(Ad []),(Ad []),(.sc (.int .i64 (.ofNat 0))),(.sc (.int .i64 (.ofNat 0))),(.sc (.int .i64 (.ofNat 0))),(.sc (.int .i64 (.ofNat 0))),(.sc (.int .i64 (.ofNat 10))),(.sl .lost 1 [(.sc (.int .i64 (.ofNat 0))),(.sc (.int .i64 (.ofNat 0))),(.sc (.int .i64 (.ofNat 1)))]),oV,(.sc (.int .i64 (.ofNat 0)))])⟩
theorem jE {mx:Int}:Aw Tryz.prog (HdU.G mx) yG:=HdU.entry (l:=[e1,Qm,QF,QP,QL,Qj,QT,Qo,TC,TD]) (m:=1000000) (Ab.cons Im (Ab.cons Eu (Ab.cons Eg (Ab.cons Ed (Ab.cons El (Ab.cons Ey (Ab.cons Ew (Ab.cons Eh (Ab.cons FX (Ab.cons FW HdU.none)))))))))) (by kernel_rfl) (by kernel_rfl)
def vN:BS:=⟨47,[(.agg [(.sc (.int .i64 (.ofNat 18))),(Ad []),(Ad []),(.sc (.int .i64 (.ofNat 0))),(.sc (.int .i64 (.ofNat 0))),(.sc (.int .i64 (.ofNat 0))),(.sc (.int .i64 (.ofNat 0))),(.sc (.int .i64 (.ofNat 10))),(.sl .lost 1 [(.sc (.int .i64 (.ofNat 0))),(.sc (.int .i64 (.ofNat 0))),(.sc (.int .i64 (.ofNat 1)))]),oV,(.sc (.int .i64 (.ofNat 0)))])],none,(.Bq [(.agg [(.sc (.int .i64 (.ofNat 18))),(Ad []),(Ad []),(.sc (.int .i64 (.ofNat 0))),(.sc (.int .i64 (.ofNat 0))),(.sc (.int .i64 (.ofNat 0))),(.sc (.int .i64 (.ofNat 0))),(.sc (.int .i64 (.ofNat 10))),(.sl .lost 1 [(.sc (.int .i64 (.ofNat 0))),(.sc (.int .i64 (.ofNat 0))),(.sc (.int .i64 (.ofNat 1)))]),oV,(.sc (.int .i64 (.ofNat 0)))]),(.sl .full 0 [])])⟩
theorem X7 {mx:Int}:Aw Tryz.prog (HdU.G mx) vN:=HdU.entry (l:=[]) (m:=1000000) HdU.none (by kernel_rfl) (by kernel_rfl)
def xY:BS:=⟨48,[vZ],none,(.Bq [(.agg [(.sc (.int .i64 (.ofNat 18))),(Ad []),(Ad []),(.sc (.int .i64 (.ofNat 0))),(.sc (.int .i64 (.ofNat 0))),(.sc (.int .i64 (.ofNat 0))),(.sc (.int .i64 (.ofNat 0))),(.sc (.int .i64 (.ofNat 10))),(.sl .lost 1 [(.sc (.int .i64 (.ofNat 0))),(.sc (.int .i64 (.ofNat 0))),(.sc (.int .i64 (.ofNat 1)))]),oV,(.sc (.int .i64 (.ofNat 0)))]),(.sl .full 0 [])])⟩
theorem lM {mx:Int}:Aw Tryz.prog (HdU.G mx) xY:=HdU.entry (l:=[uI,Xk,Zf,Z4,fC,gU,jH,oR,rA,uL,yG,vN]) (m:=1000000) (Ab.cons mD (Ab.cons Io (Ab.cons I7 (Ab.cons Jy (Ab.cons KD (Ab.cons Ln (Ab.cons M3 (Ab.cons Pn (Ab.cons Rj (Ab.cons TM (Ab.cons jE (Ab.cons X7 HdU.none)))))))))))) (by kernel_rfl) (by kernel_rfl)
end Go.Proofs.YtkfplcngmiljaaaGreatDoor
namespace Go.Proofs.YtkfplcngmiljaaaGreatDoor
open AI
set_option maxRecDepth 100000
set_option maxHeartbeats 4000000
def oW:AV:=.sl .lost 2 [(.sc (.int .i64 (.ofNat 12))),(Ad [114,97,116,101]),(Ad []),(.sc (.int .i64 (.ofNat 0))),(.sc (.int .i64 (.ofNat 0))),(.sc (.int .i64 (.ofNat 0))),(.sc (.int .i64 (.ofNat 0))),(.sc (.int .i64 (.ofNat 0))),(.sl .full 0 []),(.sl .full 0 []),(.sc (.int .i64 (.ofNat 6))),(.sc (.int .i64 (.ofNat 11))),(Ad []),(Ad [69,85,82]),(.sc (.int .i64 (.ofNat 100))),(.sc (.int .i64 (.ofNat 0))),(.sc (.int .i64 (.ofNat 0))),(.sc (.int .i64 (.ofNat 0))),(.sc (.int .i64 (.ofNat 0))),(.sl .full 0 []),(.sl .full 0 []),(.sc (.int .i64 (.ofNat 12)))]
def vJ:AV:=.sl .full 1 [(.sc (.int .i64 (.ofNat 11))),(Ad []),(Ad [69,85,82]),(.sc (.int .i64 (.ofNat 100))),(.sc (.int .i64 (.ofNat 0))),(.sc (.int .i64 (.ofNat 0))),(.sc (.int .i64 (.ofNat 0))),(.sc (.int .i64 (.ofNat 0))),(.sl .full 0 []),(.sl .full 0 []),(.sc (.int .i64 (.ofNat 153)))]
def pF:AV:=.sl .lost 2 [(.sc (.int .i64 (.ofNat 5))),(Ad []),(Ad []),(.sc (.int .i64 (.ofNat 1))),(.sc (.int .i64 (.ofNat 8766))),(.sc (.int .i64 (.ofNat 36525))),(.sc (.int .i64 (.ofNat 8766))),(.sc (.int .i64 (.ofNat 0))),(.sl .full 0 []),(.sl .full 0 []),(.sc (.int .i64 (.ofNat 104))),(.sc (.int .i64 (.ofNat 8))),(Ad []),(Ad []),(.sc (.int .i64 (.ofNat 0))),(.sc (.int .i64 (.ofNat 0))),(.sc (.int .i64 (.ofNat 0))),(.sc (.int .i64 (.ofNat 0))),(.sc (.int .i64 (.ofNat 0))),(.sl .full 0 []),vJ,(.sc (.int .i64 (.ofNat 146)))]
def NU:AV:=.sl .lost 5 [(.sc (.int .i64 (.ofNat 2))),(Ad [104,111,117,114,115]),k1,(.sc (.int .i64 (.ofNat 0))),(.sc (.int .i64 (.ofNat 0))),(.sc (.int .i64 (.ofNat 0))),(.sc (.int .i64 (.ofNat 0))),(.sc (.int .i64 (.ofNat 0))),(.sl .full 0 []),(.sl .full 0 []),(.sc (.int .i64 (.ofNat 0))),(.sc (.int .i64 (.ofNat 2))),(Ad [114,97,116,101]),(Ad [69,85,82]),(.sc (.int .i64 (.ofNat 0))),(.sc (.int .i64 (.ofNat 0))),(.sc (.int .i64 (.ofNat 0))),(.sc (.int .i64 (.ofNat 0))),(.sc (.int .i64 (.ofNat 0))),(.sl .full 0 []),(.sl .full 0 []),(.sc (.int .i64 (.ofNat 22))),(.sc (.int .i64 (.ofNat 2))),k2,(Ad [116,114,117,116,104]),(.sc (.int .i64 (.ofNat 0))),(.sc (.int .i64 (.ofNat 0))),(.sc (.int .i64 (.ofNat 0))),(.sc (.int .i64 (.ofNat 0))),(.sc (.int .i64 (.ofNat 0))),(.sl .full 0 []),(.sl .full 0 []),(.sc (.int .i64 (.ofNat 39))),(.sc (.int .i64 (.ofNat 3))),(Ad [98,97,115,105,99]),(Ad [69,85,82]),(.sc (.int .i64 (.ofNat 1))),(.sc (.int .i64 (.ofNat 0))),(.sc (.int .i64 (.ofNat 0))),(.sc (.int .i64 (.ofNat 0))),(.sc (.int .i64 (.ofNat 0))),(.sl .full 0 []),(.sl .full 0 []),(.sc (.int .i64 (.ofNat 61))),(.sc (.int .i64 (.ofNat 4))),(Ad [98,97,115,105,99]),(Ad []),(.sc (.int .i64 (.ofNat 1))),(.sc (.int .i64 (.ofNat 0))),(.sc (.int .i64 (.ofNat 0))),(.sc (.int .i64 (.ofNat 0))),(.sc (.int .i64 (.ofNat 0))),(.sl .full 0 []),pF,(.sc (.int .i64 (.ofNat 84)))]
def yT:BS:=⟨75,[],(some ([w8,(.sc (.int .i64 (.ofNat 0))),(.sc (.int .i64 (.ofNat 21)))],[w8,(.sc (.int .i64 (.ofNat 7))),(.sc (.int .i64 (.ofNat 21)))])),(.agg [(.sc (.int .i64 (.ofNat 17))),(Ad [108,101,97,115,116]),(Ad []),(.sc (.int .i64 (.ofNat 0))),(.sc (.int .i64 (.ofNat 0))),(.sc (.int .i64 (.ofNat 0))),(.sc (.int .i64 (.ofNat 0))),(.sc (.int .i64 (.ofNat 0))),(.sl .full 0 []),oW,(.sc (.int .i64 (.ofNat 0)))])⟩
theorem nP {mx:Int}:Aw Tryz.prog (HdU.G mx) yT:=HdU.entry (l:=[e1,Qm,QF,QP,QL,Qj,QT,Qo,TC,TD]) (m:=1000000) (Ab.cons Im (Ab.cons Eu (Ab.cons Eg (Ab.cons Ed (Ab.cons El (Ab.cons Ey (Ab.cons Ew (Ab.cons Eh (Ab.cons FX (Ab.cons FW HdU.none)))))))))) (by kernel_rfl) (by kernel_rfl)
def zZ:BS:=⟨47,[(.agg [(.sc (.int .i64 (.ofNat 17))),(Ad [108,101,97,115,116]),(Ad []),(.sc (.int .i64 (.ofNat 0))),(.sc (.int .i64 (.ofNat 0))),(.sc (.int .i64 (.ofNat 0))),(.sc (.int .i64 (.ofNat 0))),(.sc (.int .i64 (.ofNat 0))),(.sl .full 0 []),oW,(.sc (.int .i64 (.ofNat 0)))])],none,(.Bq [(.agg [(.sc (.int .i64 (.ofNat 17))),(Ad [108,101,97,115,116]),(Ad []),(.sc (.int .i64 (.ofNat 0))),(.sc (.int .i64 (.ofNat 0))),(.sc (.int .i64 (.ofNat 0))),(.sc (.int .i64 (.ofNat 0))),(.sc (.int .i64 (.ofNat 0))),(.sl .full 0 []),oW,(.sc (.int .i64 (.ofNat 0)))]),(.sl .full 0 [])])⟩
theorem kS {mx:Int}:Aw Tryz.prog (HdU.G mx) zZ:=HdU.entry (l:=[]) (m:=1000000) HdU.none (by kernel_rfl) (by kernel_rfl)
def xU:BS:=⟨48,[u9],none,(.Bq [(.agg [(.sc (.int .i64 (.ofNat 17))),(Ad [108,101,97,115,116]),(Ad []),(.sc (.int .i64 (.ofNat 0))),(.sc (.int .i64 (.ofNat 0))),(.sc (.int .i64 (.ofNat 0))),(.sc (.int .i64 (.ofNat 0))),(.sc (.int .i64 (.ofNat 0))),(.sl .full 0 []),oW,(.sc (.int .i64 (.ofNat 0)))]),(.sl .full 0 [])])⟩
theorem nM {mx:Int}:Aw Tryz.prog (HdU.G mx) xU:=HdU.entry (l:=[z8,Xk,Zf,Z4,fC,gU,jH,oR,rA,uL,vN,yT,zZ]) (m:=1000000) (Ab.cons mE (Ab.cons Io (Ab.cons I7 (Ab.cons Jy (Ab.cons KD (Ab.cons Ln (Ab.cons M3 (Ab.cons Pn (Ab.cons Rj (Ab.cons TM (Ab.cons X7 (Ab.cons nP (Ab.cons kS HdU.none))))))))))))) (by kernel_rfl) (by kernel_rfl)
def oT:BS:=⟨70,[],(some ([k5,(.sc (.int .i64 (.ofNat 0))),(.sc (.int .i64 (.ofNat 164)))],[k5,(.sc (.int .i64 (.ofNat 5))),(.sc (.int .i64 (.ofNat 164)))])),(.agg [(.sc (.int .i64 (.ofNat 2))),(Ad [104,111,117,114,115]),k1,(.sc (.int .i64 (.ofNat 0))),(.sc (.int .i64 (.ofNat 0))),(.sc (.int .i64 (.ofNat 0))),(.sc (.int .i64 (.ofNat 0))),(.sc (.int .i64 (.ofNat 0))),(.sl .full 0 []),(.sl .full 0 []),(.sc (.int .i64 (.ofNat 0)))])⟩
theorem Po {mx:Int}:Aw Tryz.prog (HdU.G mx) oT:=HdU.entry (l:=[]) (m:=1000000) HdU.none (by kernel_rfl) (by kernel_rfl)
def xP:BS:=⟨45,[],(some ([k5,(.sc (.int .i64 (.ofNat 0))),(.sc (.int .i64 (.ofNat 164)))],[k5,(.sc (.int .i64 (.ofNat 5))),(.sc (.int .i64 (.ofNat 164)))])),(.agg [(.sc (.int .i64 (.ofNat 2))),(Ad [104,111,117,114,115]),k1,(.sc (.int .i64 (.ofNat 0))),(.sc (.int .i64 (.ofNat 0))),(.sc (.int .i64 (.ofNat 0))),(.sc (.int .i64 (.ofNat 0))),(.sc (.int .i64 (.ofNat 0))),(.sl .full 0 []),(.sl .full 0 []),(.sc (.int .i64 (.ofNat 0)))])⟩
theorem oD {mx:Int}:Aw Tryz.prog (HdU.G mx) xP:=HdU.entry (l:=[oT]) (m:=1000000) (Ab.cons Po HdU.none) (by kernel_rfl) (by kernel_rfl)
def rI:BS:=⟨70,[],(some ([k5,(.sc (.int .i64 (.ofNat 5))),(.sc (.int .i64 (.ofNat 164)))],[k5,(.sc (.int .i64 (.ofNat 10))),(.sc (.int .i64 (.ofNat 164)))])),(.agg [(.sc (.int .i64 (.ofNat 2))),(Ad [114,97,116,101]),(Ad [69,85,82]),(.sc (.int .i64 (.ofNat 0))),(.sc (.int .i64 (.ofNat 0))),(.sc (.int .i64 (.ofNat 0))),(.sc (.int .i64 (.ofNat 0))),(.sc (.int .i64 (.ofNat 0))),(.sl .full 0 []),(.sl .full 0 []),(.sc (.int .i64 (.ofNat 22)))])⟩
theorem RL {mx:Int}:Aw Tryz.prog (HdU.G mx) rI:=HdU.entry (l:=[]) (m:=1000000) HdU.none (by kernel_rfl) (by kernel_rfl)
def xZ:BS:=⟨45,[],(some ([k5,(.sc (.int .i64 (.ofNat 5))),(.sc (.int .i64 (.ofNat 164)))],[k5,(.sc (.int .i64 (.ofNat 10))),(.sc (.int .i64 (.ofNat 164)))])),(.agg [(.sc (.int .i64 (.ofNat 2))),(Ad [114,97,116,101]),(Ad [69,85,82]),(.sc (.int .i64 (.ofNat 0))),(.sc (.int .i64 (.ofNat 0))),(.sc (.int .i64 (.ofNat 0))),(.sc (.int .i64 (.ofNat 0))),(.sc (.int .i64 (.ofNat 0))),(.sl .full 0 []),(.sl .full 0 []),(.sc (.int .i64 (.ofNat 22)))])⟩
theorem kB {mx:Int}:Aw Tryz.prog (HdU.G mx) xZ:=HdU.entry (l:=[oT,rI]) (m:=1000000) (Ab.cons Po (Ab.cons RL HdU.none)) (by kernel_rfl) (by kernel_rfl)
def tW:BS:=⟨70,[],(some ([k5,(.sc (.int .i64 (.ofNat 10))),(.sc (.int .i64 (.ofNat 164)))],[k5,(.sc (.int .i64 (.ofNat 15))),(.sc (.int .i64 (.ofNat 164)))])),(.agg [(.sc (.int .i64 (.ofNat 2))),k2,(Ad [116,114,117,116,104]),(.sc (.int .i64 (.ofNat 0))),(.sc (.int .i64 (.ofNat 0))),(.sc (.int .i64 (.ofNat 0))),(.sc (.int .i64 (.ofNat 0))),(.sc (.int .i64 (.ofNat 0))),(.sl .full 0 []),(.sl .full 0 []),(.sc (.int .i64 (.ofNat 39)))])⟩
theorem T3 {mx:Int}:Aw Tryz.prog (HdU.G mx) tW:=HdU.entry (l:=[]) (m:=1000000) HdU.none (by kernel_rfl) (by kernel_rfl)
def xJ:BS:=⟨45,[],(some ([k5,(.sc (.int .i64 (.ofNat 10))),(.sc (.int .i64 (.ofNat 164)))],[k5,(.sc (.int .i64 (.ofNat 15))),(.sc (.int .i64 (.ofNat 164)))])),(.agg [(.sc (.int .i64 (.ofNat 2))),k2,(Ad [116,114,117,116,104]),(.sc (.int .i64 (.ofNat 0))),(.sc (.int .i64 (.ofNat 0))),(.sc (.int .i64 (.ofNat 0))),(.sc (.int .i64 (.ofNat 0))),(.sc (.int .i64 (.ofNat 0))),(.sl .full 0 []),(.sl .full 0 []),(.sc (.int .i64 (.ofNat 39)))])⟩
theorem mT {mx:Int}:Aw Tryz.prog (HdU.G mx) xJ:=HdU.entry (l:=[oT,rI,tW]) (m:=1000000) (Ab.cons Po (Ab.cons RL (Ab.cons T3 HdU.none))) (by kernel_rfl) (by kernel_rfl)
def uQ:BS:=⟨70,[],(some ([k5,(.sc (.int .i64 (.ofNat 15))),(.sc (.int .i64 (.ofNat 164)))],[k5,(.sc (.int .i64 (.ofNat 21))),(.sc (.int .i64 (.ofNat 164)))])),(.agg [(.sc (.int .i64 (.ofNat 3))),(Ad [98,97,115,105,99]),(Ad [69,85,82]),(.sc (.int .i64 (.ofNat 1))),(.sc (.int .i64 (.ofNat 0))),(.sc (.int .i64 (.ofNat 0))),(.sc (.int .i64 (.ofNat 0))),(.sc (.int .i64 (.ofNat 0))),(.sl .full 0 []),(.sl .full 0 []),(.sc (.int .i64 (.ofNat 61)))])⟩
theorem Xq {mx:Int}:Aw Tryz.prog (HdU.G mx) uQ:=HdU.entry (l:=[]) (m:=1000000) HdU.none (by kernel_rfl) (by kernel_rfl)
def z7:BS:=⟨45,[],(some ([k5,(.sc (.int .i64 (.ofNat 15))),(.sc (.int .i64 (.ofNat 164)))],[k5,(.sc (.int .i64 (.ofNat 21))),(.sc (.int .i64 (.ofNat 164)))])),(.agg [(.sc (.int .i64 (.ofNat 3))),(Ad [98,97,115,105,99]),(Ad [69,85,82]),(.sc (.int .i64 (.ofNat 1))),(.sc (.int .i64 (.ofNat 0))),(.sc (.int .i64 (.ofNat 0))),(.sc (.int .i64 (.ofNat 0))),(.sc (.int .i64 (.ofNat 0))),(.sl .full 0 []),(.sl .full 0 []),(.sc (.int .i64 (.ofNat 61)))])⟩
theorem kF {mx:Int}:Aw Tryz.prog (HdU.G mx) z7:=HdU.entry (l:=[oT,rI,tW,uQ]) (m:=1000000) (Ab.cons Po (Ab.cons RL (Ab.cons T3 (Ab.cons Xq HdU.none)))) (by kernel_rfl) (by kernel_rfl)
def rO:BS:=⟨139,[k4],none,(.Bq [(.sc (.int .i64 (.ofNat 8766))),(.sc (.int .i64 (.ofNat 0)))])⟩
theorem Ra {mx:Int}:Aw Tryz.prog (HdU.G mx) rO:=HdU.entry (l:=[]) (m:=1000000) HdU.none (by kernel_rfl) (by kernel_rfl)
def yK:BS:=⟨128,[(.sc (.int .i64 (.ofNat 0)))],(some ([k5,(.sc (.int .i64 (.ofNat 28))),(.sc (.int .i64 (.ofNat 164)))],[k5,(.sc (.int .i64 (.ofNat 29))),(.sc (.int .i64 (.ofNat 164)))])),(.sc (.int .i64 (.ofNat 8766)))⟩
theorem n7 {mx:Int}:Aw Tryz.prog (HdU.G mx) yK:=HdU.entry (l:=[rO]) (m:=1000000) (Ab.cons Ra HdU.none) (by kernel_rfl) (by kernel_rfl)
def xV:BS:=⟨128,[(.sc (.int .i64 (.ofNat 0)))],(some ([k5,(.sc (.int .i64 (.ofNat 30))),(.sc (.int .i64 (.ofNat 164)))],[k5,(.sc (.int .i64 (.ofNat 31))),(.sc (.int .i64 (.ofNat 164)))])),(.sc (.int .i64 (.ofNat 8766)))⟩
theorem jI {mx:Int}:Aw Tryz.prog (HdU.G mx) xV:=HdU.entry (l:=[rO]) (m:=1000000) (Ab.cons Ra HdU.none) (by kernel_rfl) (by kernel_rfl)
def zK:BS:=⟨110,[],(some ([k5,(.sc (.int .i64 (.ofNat 25))),(.sc (.int .i64 (.ofNat 164)))],[k5,(.sc (.int .i64 (.ofNat 31))),(.sc (.int .i64 (.ofNat 164)))])),(.agg [(.sc (.int .i64 (.ofNat 5))),(Ad []),(Ad []),(.sc (.int .i64 (.ofNat 1))),(.sc (.int .i64 (.ofNat 8766))),(.sc (.int .i64 (.ofNat 36525))),(.sc (.int .i64 (.ofNat 8766))),(.sc (.int .i64 (.ofNat 0))),(.sl .full 0 []),(.sl .full 0 []),(.sc (.int .i64 (.ofNat 104)))])⟩
theorem lT {mx:Int}:Aw Tryz.prog (HdU.G mx) zK:=HdU.entry (l:=[Qm,QF,QP,QL,Qj,QT,Qo,yK,xV]) (m:=1000000) (Ab.cons Eu (Ab.cons Eg (Ab.cons Ed (Ab.cons El (Ab.cons Ey (Ab.cons Ew (Ab.cons Eh (Ab.cons n7 (Ab.cons jI HdU.none))))))))) (by kernel_rfl) (by kernel_rfl)
def zH:BS:=⟨75,[],(some ([k5,(.sc (.int .i64 (.ofNat 33))),(.sc (.int .i64 (.ofNat 164)))],[k5,(.sc (.int .i64 (.ofNat 35))),(.sc (.int .i64 (.ofNat 164)))])),(.agg [(.sc (.int .i64 (.ofNat 11))),(Ad []),(Ad [69,85,82]),(.sc (.int .i64 (.ofNat 100))),(.sc (.int .i64 (.ofNat 0))),(.sc (.int .i64 (.ofNat 0))),(.sc (.int .i64 (.ofNat 0))),(.sc (.int .i64 (.ofNat 0))),(.sl .full 0 []),(.sl .full 0 []),(.sc (.int .i64 (.ofNat 153)))])⟩
theorem mS {mx:Int}:Aw Tryz.prog (HdU.G mx) zH:=HdU.entry (l:=[e1,Qm,QF,QP,QL,Qj,QT,Qo,TC,TD]) (m:=1000000) (Ab.cons Im (Ab.cons Eu (Ab.cons Eg (Ab.cons Ed (Ab.cons El (Ab.cons Ey (Ab.cons Ew (Ab.cons Eh (Ab.cons FX (Ab.cons FW HdU.none)))))))))) (by kernel_rfl) (by kernel_rfl)
def yH:BS:=⟨111,[(.sc (.int .i64 (.ofNat 8)))],(some ([k5,(.sc (.int .i64 (.ofNat 32))),(.sc (.int .i64 (.ofNat 164)))],[k5,(.sc (.int .i64 (.ofNat 36))),(.sc (.int .i64 (.ofNat 164)))])),(.agg [(.sc (.int .i64 (.ofNat 8))),(Ad []),(Ad []),(.sc (.int .i64 (.ofNat 0))),(.sc (.int .i64 (.ofNat 0))),(.sc (.int .i64 (.ofNat 0))),(.sc (.int .i64 (.ofNat 0))),(.sc (.int .i64 (.ofNat 0))),(.sl .full 0 []),vJ,(.sc (.int .i64 (.ofNat 146)))])⟩
theorem kK {mx:Int}:Aw Tryz.prog (HdU.G mx) yH:=HdU.entry (l:=[e1,Qm,QF,QP,QL,Qj,QT,Qo,TC,TD,zH]) (m:=1000000) (Ab.cons Im (Ab.cons Eu (Ab.cons Eg (Ab.cons Ed (Ab.cons El (Ab.cons Ey (Ab.cons Ew (Ab.cons Eh (Ab.cons FX (Ab.cons FW (Ab.cons mS HdU.none))))))))))) (by kernel_rfl) (by kernel_rfl)
def yS:BS:=⟨71,[],(some ([k5,(.sc (.int .i64 (.ofNat 21))),(.sc (.int .i64 (.ofNat 164)))],[k5,(.sc (.int .i64 (.ofNat 37))),(.sc (.int .i64 (.ofNat 164)))])),(.agg [(.sc (.int .i64 (.ofNat 4))),(Ad [98,97,115,105,99]),(Ad []),(.sc (.int .i64 (.ofNat 1))),(.sc (.int .i64 (.ofNat 0))),(.sc (.int .i64 (.ofNat 0))),(.sc (.int .i64 (.ofNat 0))),(.sc (.int .i64 (.ofNat 0))),(.sl .full 0 []),pF,(.sc (.int .i64 (.ofNat 84)))])⟩
theorem nW {mx:Int}:Aw Tryz.prog (HdU.G mx) yS:=HdU.entry (l:=[Qm,QF,QP,QL,Qj,QT,Qo,zK,yH]) (m:=1000000) (Ab.cons Eu (Ab.cons Eg (Ab.cons Ed (Ab.cons El (Ab.cons Ey (Ab.cons Ew (Ab.cons Eh (Ab.cons lT (Ab.cons kK HdU.none))))))))) (by kernel_rfl) (by kernel_rfl)
def yC:BS:=⟨45,[],(some ([k5,(.sc (.int .i64 (.ofNat 21))),(.sc (.int .i64 (.ofNat 164)))],[k5,(.sc (.int .i64 (.ofNat 37))),(.sc (.int .i64 (.ofNat 164)))])),(.agg [(.sc (.int .i64 (.ofNat 4))),(Ad [98,97,115,105,99]),(Ad []),(.sc (.int .i64 (.ofNat 1))),(.sc (.int .i64 (.ofNat 0))),(.sc (.int .i64 (.ofNat 0))),(.sc (.int .i64 (.ofNat 0))),(.sc (.int .i64 (.ofNat 0))),(.sl .full 0 []),pF,(.sc (.int .i64 (.ofNat 84)))])⟩
theorem oH {mx:Int}:Aw Tryz.prog (HdU.G mx) yC:=HdU.entry (l:=[oT,rI,tW,uQ,yS]) (m:=1000000) (Ab.cons Po (Ab.cons RL (Ab.cons T3 (Ab.cons Xq (Ab.cons nW HdU.none))))) (by kernel_rfl) (by kernel_rfl)
def zE:BS:=⟨27,[k0],none,(.Bq [(.agg [(.sc (.int .i64 (.ofNat 1))),(Ad []),(Ad []),(.sc (.int .i64 (.ofNat 0))),(.sc (.int .i64 (.ofNat 0))),(.sc (.int .i64 (.ofNat 0))),(.sc (.int .i64 (.ofNat 0))),(.sc (.int .i64 (.ofNat 0))),(.sl .full 0 []),NU,(.sc (.int .i64 (.ofNat 0)))]),(.sl .full 0 [])])⟩
theorem oA {mx:Int}:Aw Tryz.prog (HdU.G mx) zE:=HdU.entry (l:=[e0,xP,xZ,xJ,z7,yC]) (m:=1000000) (Ab.cons rQ (Ab.cons oD (Ab.cons kB (Ab.cons mT (Ab.cons kF (Ab.cons oH HdU.none)))))) (by kernel_rfl) (by kernel_rfl)
def jK:BS:=⟨70,[],(some ([Kn,(.sc (.int .i64 (.ofNat 0))),(.sc (.int .i64 (.ofNat 190)))],[Kn,(.sc (.int .i64 (.ofNat 5))),(.sc (.int .i64 (.ofNat 190)))])),(.agg [(.sc (.int .i64 (.ofNat 2))),(Ad [104,111,117,114,115]),k1,(.sc (.int .i64 (.ofNat 0))),(.sc (.int .i64 (.ofNat 0))),(.sc (.int .i64 (.ofNat 0))),(.sc (.int .i64 (.ofNat 0))),(.sc (.int .i64 (.ofNat 0))),(.sl .full 0 []),(.sl .full 0 []),(.sc (.int .i64 (.ofNat 0)))])⟩
theorem Nj {mx:Int}:Aw Tryz.prog (HdU.G mx) jK:=HdU.entry (l:=[]) (m:=1000000) HdU.none (by kernel_rfl) (by kernel_rfl)
def xK:BS:=⟨45,[],(some ([Kn,(.sc (.int .i64 (.ofNat 0))),(.sc (.int .i64 (.ofNat 190)))],[Kn,(.sc (.int .i64 (.ofNat 5))),(.sc (.int .i64 (.ofNat 190)))])),(.agg [(.sc (.int .i64 (.ofNat 2))),(Ad [104,111,117,114,115]),k1,(.sc (.int .i64 (.ofNat 0))),(.sc (.int .i64 (.ofNat 0))),(.sc (.int .i64 (.ofNat 0))),(.sc (.int .i64 (.ofNat 0))),(.sc (.int .i64 (.ofNat 0))),(.sl .full 0 []),(.sl .full 0 []),(.sc (.int .i64 (.ofNat 0)))])⟩
theorem mJ {mx:Int}:Aw Tryz.prog (HdU.G mx) xK:=HdU.entry (l:=[jK]) (m:=1000000) (Ab.cons Nj HdU.none) (by kernel_rfl) (by kernel_rfl)
def pL:BS:=⟨70,[],(some ([Kn,(.sc (.int .i64 (.ofNat 5))),(.sc (.int .i64 (.ofNat 190)))],[Kn,(.sc (.int .i64 (.ofNat 10))),(.sc (.int .i64 (.ofNat 190)))])),(.agg [(.sc (.int .i64 (.ofNat 2))),(Ad [114,97,116,101]),(Ad [69,85,82]),(.sc (.int .i64 (.ofNat 0))),(.sc (.int .i64 (.ofNat 0))),(.sc (.int .i64 (.ofNat 0))),(.sc (.int .i64 (.ofNat 0))),(.sc (.int .i64 (.ofNat 0))),(.sl .full 0 []),(.sl .full 0 []),(.sc (.int .i64 (.ofNat 22)))])⟩
theorem Pw {mx:Int}:Aw Tryz.prog (HdU.G mx) pL:=HdU.entry (l:=[]) (m:=1000000) HdU.none (by kernel_rfl) (by kernel_rfl)
def xL:BS:=⟨45,[],(some ([Kn,(.sc (.int .i64 (.ofNat 5))),(.sc (.int .i64 (.ofNat 190)))],[Kn,(.sc (.int .i64 (.ofNat 10))),(.sc (.int .i64 (.ofNat 190)))])),(.agg [(.sc (.int .i64 (.ofNat 2))),(Ad [114,97,116,101]),(Ad [69,85,82]),(.sc (.int .i64 (.ofNat 0))),(.sc (.int .i64 (.ofNat 0))),(.sc (.int .i64 (.ofNat 0))),(.sc (.int .i64 (.ofNat 0))),(.sc (.int .i64 (.ofNat 0))),(.sl .full 0 []),(.sl .full 0 []),(.sc (.int .i64 (.ofNat 22)))])⟩
theorem kA {mx:Int}:Aw Tryz.prog (HdU.G mx) xL:=HdU.entry (l:=[jK,pL]) (m:=1000000) (Ab.cons Nj (Ab.cons Pw HdU.none)) (by kernel_rfl) (by kernel_rfl)
def sE:BS:=⟨70,[],(some ([Kn,(.sc (.int .i64 (.ofNat 10))),(.sc (.int .i64 (.ofNat 190)))],[Kn,(.sc (.int .i64 (.ofNat 15))),(.sc (.int .i64 (.ofNat 190)))])),(.agg [(.sc (.int .i64 (.ofNat 2))),k2,(Ad [116,114,117,116,104]),(.sc (.int .i64 (.ofNat 0))),(.sc (.int .i64 (.ofNat 0))),(.sc (.int .i64 (.ofNat 0))),(.sc (.int .i64 (.ofNat 0))),(.sc (.int .i64 (.ofNat 0))),(.sl .full 0 []),(.sl .full 0 []),(.sc (.int .i64 (.ofNat 39)))])⟩
theorem RH {mx:Int}:Aw Tryz.prog (HdU.G mx) sE:=HdU.entry (l:=[]) (m:=1000000) HdU.none (by kernel_rfl) (by kernel_rfl)
end Go.Proofs.YtkfplcngmiljaaaGreatDoor
namespace Go.Proofs.YtkfplcngmiljaaaGreatDoor
open AI
set_option maxRecDepth 100000
set_option maxHeartbeats 4000000
def vP:AV:=.sl .lost 6 [(.sc (.int .i64 (.ofNat 2))),(Ad [104,111,117,114,115]),k1,(.sc (.int .i64 (.ofNat 0))),(.sc (.int .i64 (.ofNat 0))),(.sc (.int .i64 (.ofNat 0))),(.sc (.int .i64 (.ofNat 0))),(.sc (.int .i64 (.ofNat 0))),(.sl .full 0 []),(.sl .full 0 []),(.sc (.int .i64 (.ofNat 0))),(.sc (.int .i64 (.ofNat 2))),(Ad [114,97,116,101]),(Ad [69,85,82]),(.sc (.int .i64 (.ofNat 0))),(.sc (.int .i64 (.ofNat 0))),(.sc (.int .i64 (.ofNat 0))),(.sc (.int .i64 (.ofNat 0))),(.sc (.int .i64 (.ofNat 0))),(.sl .full 0 []),(.sl .full 0 []),(.sc (.int .i64 (.ofNat 22))),(.sc (.int .i64 (.ofNat 2))),k2,(Ad [116,114,117,116,104]),(.sc (.int .i64 (.ofNat 0))),(.sc (.int .i64 (.ofNat 0))),(.sc (.int .i64 (.ofNat 0))),(.sc (.int .i64 (.ofNat 0))),(.sc (.int .i64 (.ofNat 0))),(.sl .full 0 []),(.sl .full 0 []),(.sc (.int .i64 (.ofNat 39))),(.sc (.int .i64 (.ofNat 3))),(Ad [98,97,115,105,99]),(Ad [69,85,82]),(.sc (.int .i64 (.ofNat 1))),(.sc (.int .i64 (.ofNat 0))),(.sc (.int .i64 (.ofNat 0))),(.sc (.int .i64 (.ofNat 0))),(.sc (.int .i64 (.ofNat 0))),(.sl .full 0 []),(.sl .full 0 []),(.sc (.int .i64 (.ofNat 61))),(.sc (.int .i64 (.ofNat 4))),(Ad [98,97,115,105,99]),(Ad []),(.sc (.int .i64 (.ofNat 1))),(.sc (.int .i64 (.ofNat 0))),(.sc (.int .i64 (.ofNat 0))),(.sc (.int .i64 (.ofNat 0))),(.sc (.int .i64 (.ofNat 0))),(.sl .full 0 []),pF,(.sc (.int .i64 (.ofNat 84))),(.sc (.int .i64 (.ofNat 3))),(Ad [98,97,115,105,99]),(Ad [110,117,109,98,101,114]),(.sc (.int .i64 (.ofNat 4))),(.sc (.int .i64 (.ofNat 0))),(.sc (.int .i64 (.ofNat 0))),(.sc (.int .i64 (.ofNat 0))),(.sc (.int .i64 (.ofNat 0))),(.sl .full 0 []),(.sl .full 0 []),(.sc (.int .i64 (.ofNat 165)))]
def yL:BS:=⟨45,[],(some ([Kn,(.sc (.int .i64 (.ofNat 10))),(.sc (.int .i64 (.ofNat 190)))],[Kn,(.sc (.int .i64 (.ofNat 15))),(.sc (.int .i64 (.ofNat 190)))])),(.agg [(.sc (.int .i64 (.ofNat 2))),k2,(Ad [116,114,117,116,104]),(.sc (.int .i64 (.ofNat 0))),(.sc (.int .i64 (.ofNat 0))),(.sc (.int .i64 (.ofNat 0))),(.sc (.int .i64 (.ofNat 0))),(.sc (.int .i64 (.ofNat 0))),(.sl .full 0 []),(.sl .full 0 []),(.sc (.int .i64 (.ofNat 39)))])⟩
theorem jW {mx:Int}:Aw Tryz.prog (HdU.G mx) yL:=HdU.entry (l:=[jK,pL,sE]) (m:=1000000) (Ab.cons Nj (Ab.cons Pw (Ab.cons RH HdU.none))) (by kernel_rfl) (by kernel_rfl)
def uD:BS:=⟨70,[],(some ([Kn,(.sc (.int .i64 (.ofNat 15))),(.sc (.int .i64 (.ofNat 190)))],[Kn,(.sc (.int .i64 (.ofNat 21))),(.sc (.int .i64 (.ofNat 190)))])),(.agg [(.sc (.int .i64 (.ofNat 3))),(Ad [98,97,115,105,99]),(Ad [69,85,82]),(.sc (.int .i64 (.ofNat 1))),(.sc (.int .i64 (.ofNat 0))),(.sc (.int .i64 (.ofNat 0))),(.sc (.int .i64 (.ofNat 0))),(.sc (.int .i64 (.ofNat 0))),(.sl .full 0 []),(.sl .full 0 []),(.sc (.int .i64 (.ofNat 61)))])⟩
theorem Uo {mx:Int}:Aw Tryz.prog (HdU.G mx) uD:=HdU.entry (l:=[]) (m:=1000000) HdU.none (by kernel_rfl) (by kernel_rfl)
def yJ:BS:=⟨45,[],(some ([Kn,(.sc (.int .i64 (.ofNat 15))),(.sc (.int .i64 (.ofNat 190)))],[Kn,(.sc (.int .i64 (.ofNat 21))),(.sc (.int .i64 (.ofNat 190)))])),(.agg [(.sc (.int .i64 (.ofNat 3))),(Ad [98,97,115,105,99]),(Ad [69,85,82]),(.sc (.int .i64 (.ofNat 1))),(.sc (.int .i64 (.ofNat 0))),(.sc (.int .i64 (.ofNat 0))),(.sc (.int .i64 (.ofNat 0))),(.sc (.int .i64 (.ofNat 0))),(.sl .full 0 []),(.sl .full 0 []),(.sc (.int .i64 (.ofNat 61)))])⟩
theorem lB {mx:Int}:Aw Tryz.prog (HdU.G mx) yJ:=HdU.entry (l:=[jK,pL,sE,uD]) (m:=1000000) (Ab.cons Nj (Ab.cons Pw (Ab.cons RH (Ab.cons Uo HdU.none)))) (by kernel_rfl) (by kernel_rfl)
def e81:BS:=⟨128,[(.sc (.int .i64 (.ofNat 0)))],(some ([Kn,(.sc (.int .i64 (.ofNat 28))),(.sc (.int .i64 (.ofNat 190)))],[Kn,(.sc (.int .i64 (.ofNat 29))),(.sc (.int .i64 (.ofNat 190)))])),(.sc (.int .i64 (.ofNat 8766)))⟩
theorem lP {mx:Int}:Aw Tryz.prog (HdU.G mx) e81:=HdU.entry (l:=[rO]) (m:=1000000) (Ab.cons Ra HdU.none) (by kernel_rfl) (by kernel_rfl)
def e82:BS:=⟨128,[(.sc (.int .i64 (.ofNat 0)))],(some ([Kn,(.sc (.int .i64 (.ofNat 30))),(.sc (.int .i64 (.ofNat 190)))],[Kn,(.sc (.int .i64 (.ofNat 31))),(.sc (.int .i64 (.ofNat 190)))])),(.sc (.int .i64 (.ofNat 8766)))⟩
theorem mM {mx:Int}:Aw Tryz.prog (HdU.G mx) e82:=HdU.entry (l:=[rO]) (m:=1000000) (Ab.cons Ra HdU.none) (by kernel_rfl) (by kernel_rfl)
def yD:BS:=⟨110,[],(some ([Kn,(.sc (.int .i64 (.ofNat 25))),(.sc (.int .i64 (.ofNat 190)))],[Kn,(.sc (.int .i64 (.ofNat 31))),(.sc (.int .i64 (.ofNat 190)))])),(.agg [(.sc (.int .i64 (.ofNat 5))),(Ad []),(Ad []),(.sc (.int .i64 (.ofNat 1))),(.sc (.int .i64 (.ofNat 8766))),(.sc (.int .i64 (.ofNat 36525))),(.sc (.int .i64 (.ofNat 8766))),(.sc (.int .i64 (.ofNat 0))),(.sl .full 0 []),(.sl .full 0 []),(.sc (.int .i64 (.ofNat 104)))])⟩
theorem jO {mx:Int}:Aw Tryz.prog (HdU.G mx) yD:=HdU.entry (l:=[Qm,QF,QP,QL,Qj,QT,Qo,e81,e82]) (m:=1000000) (Ab.cons Eu (Ab.cons Eg (Ab.cons Ed (Ab.cons El (Ab.cons Ey (Ab.cons Ew (Ab.cons Eh (Ab.cons lP (Ab.cons mM HdU.none))))))))) (by kernel_rfl) (by kernel_rfl)
def e84:BS:=⟨75,[],(some ([Kn,(.sc (.int .i64 (.ofNat 33))),(.sc (.int .i64 (.ofNat 190)))],[Kn,(.sc (.int .i64 (.ofNat 35))),(.sc (.int .i64 (.ofNat 190)))])),(.agg [(.sc (.int .i64 (.ofNat 11))),(Ad []),(Ad [69,85,82]),(.sc (.int .i64 (.ofNat 100))),(.sc (.int .i64 (.ofNat 0))),(.sc (.int .i64 (.ofNat 0))),(.sc (.int .i64 (.ofNat 0))),(.sc (.int .i64 (.ofNat 0))),(.sl .full 0 []),(.sl .full 0 []),(.sc (.int .i64 (.ofNat 153)))])⟩
theorem n4 {mx:Int}:Aw Tryz.prog (HdU.G mx) e84:=HdU.entry (l:=[e1,Qm,QF,QP,QL,Qj,QT,Qo,TC,TD]) (m:=1000000) (Ab.cons Im (Ab.cons Eu (Ab.cons Eg (Ab.cons Ed (Ab.cons El (Ab.cons Ey (Ab.cons Ew (Ab.cons Eh (Ab.cons FX (Ab.cons FW HdU.none)))))))))) (by kernel_rfl) (by kernel_rfl)
def xT:BS:=⟨111,[(.sc (.int .i64 (.ofNat 8)))],(some ([Kn,(.sc (.int .i64 (.ofNat 32))),(.sc (.int .i64 (.ofNat 190)))],[Kn,(.sc (.int .i64 (.ofNat 36))),(.sc (.int .i64 (.ofNat 190)))])),(.agg [(.sc (.int .i64 (.ofNat 8))),(Ad []),(Ad []),(.sc (.int .i64 (.ofNat 0))),(.sc (.int .i64 (.ofNat 0))),(.sc (.int .i64 (.ofNat 0))),(.sc (.int .i64 (.ofNat 0))),(.sc (.int .i64 (.ofNat 0))),(.sl .full 0 []),vJ,(.sc (.int .i64 (.ofNat 146)))])⟩
theorem jX {mx:Int}:Aw Tryz.prog (HdU.G mx) xT:=HdU.entry (l:=[e1,Qm,QF,QP,QL,Qj,QT,Qo,TC,TD,e84]) (m:=1000000) (Ab.cons Im (Ab.cons Eu (Ab.cons Eg (Ab.cons Ed (Ab.cons El (Ab.cons Ey (Ab.cons Ew (Ab.cons Eh (Ab.cons FX (Ab.cons FW (Ab.cons n4 HdU.none))))))))))) (by kernel_rfl) (by kernel_rfl)
def vR:BS:=⟨71,[],(some ([Kn,(.sc (.int .i64 (.ofNat 21))),(.sc (.int .i64 (.ofNat 190)))],[Kn,(.sc (.int .i64 (.ofNat 37))),(.sc (.int .i64 (.ofNat 190)))])),(.agg [(.sc (.int .i64 (.ofNat 4))),(Ad [98,97,115,105,99]),(Ad []),(.sc (.int .i64 (.ofNat 1))),(.sc (.int .i64 (.ofNat 0))),(.sc (.int .i64 (.ofNat 0))),(.sc (.int .i64 (.ofNat 0))),(.sc (.int .i64 (.ofNat 0))),(.sl .full 0 []),pF,(.sc (.int .i64 (.ofNat 84)))])⟩
theorem YV {mx:Int}:Aw Tryz.prog (HdU.G mx) vR:=HdU.entry (l:=[Qm,QF,QP,QL,Qj,QT,Qo,yD,xT]) (m:=1000000) (Ab.cons Eu (Ab.cons Eg (Ab.cons Ed (Ab.cons El (Ab.cons Ey (Ab.cons Ew (Ab.cons Eh (Ab.cons jO (Ab.cons jX HdU.none))))))))) (by kernel_rfl) (by kernel_rfl)
def xX:BS:=⟨45,[],(some ([Kn,(.sc (.int .i64 (.ofNat 21))),(.sc (.int .i64 (.ofNat 190)))],[Kn,(.sc (.int .i64 (.ofNat 37))),(.sc (.int .i64 (.ofNat 190)))])),(.agg [(.sc (.int .i64 (.ofNat 4))),(Ad [98,97,115,105,99]),(Ad []),(.sc (.int .i64 (.ofNat 1))),(.sc (.int .i64 (.ofNat 0))),(.sc (.int .i64 (.ofNat 0))),(.sc (.int .i64 (.ofNat 0))),(.sc (.int .i64 (.ofNat 0))),(.sl .full 0 []),pF,(.sc (.int .i64 (.ofNat 84)))])⟩
theorem nB {mx:Int}:Aw Tryz.prog (HdU.G mx) xX:=HdU.entry (l:=[jK,pL,sE,uD,vR]) (m:=1000000) (Ab.cons Nj (Ab.cons Pw (Ab.cons RH (Ab.cons Uo (Ab.cons YV HdU.none))))) (by kernel_rfl) (by kernel_rfl)
def xN:BS:=⟨70,[],(some ([Kn,(.sc (.int .i64 (.ofNat 37))),(.sc (.int .i64 (.ofNat 190)))],[Kn,(.sc (.int .i64 (.ofNat 43))),(.sc (.int .i64 (.ofNat 190)))])),(.agg [(.sc (.int .i64 (.ofNat 3))),(Ad [98,97,115,105,99]),(Ad [110,117,109,98,101,114]),(.sc (.int .i64 (.ofNat 4))),(.sc (.int .i64 (.ofNat 0))),(.sc (.int .i64 (.ofNat 0))),(.sc (.int .i64 (.ofNat 0))),(.sc (.int .i64 (.ofNat 0))),(.sl .full 0 []),(.sl .full 0 []),(.sc (.int .i64 (.ofNat 165)))])⟩
theorem n6 {mx:Int}:Aw Tryz.prog (HdU.G mx) xN:=HdU.entry (l:=[]) (m:=1000000) HdU.none (by kernel_rfl) (by kernel_rfl)
def zL:BS:=⟨45,[],(some ([Kn,(.sc (.int .i64 (.ofNat 37))),(.sc (.int .i64 (.ofNat 190)))],[Kn,(.sc (.int .i64 (.ofNat 43))),(.sc (.int .i64 (.ofNat 190)))])),(.agg [(.sc (.int .i64 (.ofNat 3))),(Ad [98,97,115,105,99]),(Ad [110,117,109,98,101,114]),(.sc (.int .i64 (.ofNat 4))),(.sc (.int .i64 (.ofNat 0))),(.sc (.int .i64 (.ofNat 0))),(.sc (.int .i64 (.ofNat 0))),(.sc (.int .i64 (.ofNat 0))),(.sl .full 0 []),(.sl .full 0 []),(.sc (.int .i64 (.ofNat 165)))])⟩
theorem oF {mx:Int}:Aw Tryz.prog (HdU.G mx) zL:=HdU.entry (l:=[jK,pL,sE,uD,vR,xN]) (m:=1000000) (Ab.cons Nj (Ab.cons Pw (Ab.cons RH (Ab.cons Uo (Ab.cons YV (Ab.cons n6 HdU.none)))))) (by kernel_rfl) (by kernel_rfl)
def xO:BS:=⟨27,[k25],none,(.Bq [(.agg [(.sc (.int .i64 (.ofNat 1))),(Ad []),(Ad []),(.sc (.int .i64 (.ofNat 0))),(.sc (.int .i64 (.ofNat 0))),(.sc (.int .i64 (.ofNat 0))),(.sc (.int .i64 (.ofNat 0))),(.sc (.int .i64 (.ofNat 0))),(.sl .full 0 []),vP,(.sc (.int .i64 (.ofNat 0)))]),(.sl .full 0 [])])⟩
theorem mQ {mx:Int}:Aw Tryz.prog (HdU.G mx) xO:=HdU.entry (l:=[zW,xK,xL,yL,yJ,xX,zL]) (m:=1000000) (Ab.cons kP (Ab.cons mJ (Ab.cons kA (Ab.cons jW (Ab.cons lB (Ab.cons nB (Ab.cons oF HdU.none))))))) (by kernel_rfl) (by kernel_rfl)
def Ws:BS:=⟨29,[(.agg [(.sc (.int .i64 (.ofNat 1))),(Ad []),(Ad []),(.sc (.int .i64 (.ofNat 0))),(.sc (.int .i64 (.ofNat 0))),(.sc (.int .i64 (.ofNat 0))),(.sc (.int .i64 (.ofNat 0))),(.sc (.int .i64 (.ofNat 0))),(.sl .full 0 []),NU,(.sc (.int .i64 (.ofNat 0)))])],none,(.sc (.bool true))⟩
theorem Hm {mx:Int}:Aw Tryz.prog (HdU.G mx) Ws:=HdU.entry (l:=[]) (m:=1000000) HdU.none (by kernel_rfl) (by kernel_rfl)
def xM:BS:=⟨16,[(.agg [(.sc (.int .i64 (.ofNat 1))),(Ad []),(Ad []),(.sc (.int .i64 (.ofNat 0))),(.sc (.int .i64 (.ofNat 0))),(.sc (.int .i64 (.ofNat 0))),(.sc (.int .i64 (.ofNat 0))),(.sc (.int .i64 (.ofNat 0))),(.sl .full 0 []),NU,(.sc (.int .i64 (.ofNat 0)))])],none,(.sl .full 0 [])⟩
theorem jJ {mx:Int}:Aw Tryz.prog (HdU.G mx) xM:=HdU.entry (l:=[Ws]) (m:=1000000) (Ab.cons Hm HdU.none) (by kernel_rfl) (by kernel_rfl)
def xI:BS:=⟨29,[(.agg [(.sc (.int .i64 (.ofNat 16))),(Ad [43]),(Ad []),(.sc (.int .i64 (.ofNat 0))),(.sc (.int .i64 (.ofNat 0))),(.sc (.int .i64 (.ofNat 0))),(.sc (.int .i64 (.ofNat 0))),(.sc (.int .i64 (.ofNat 0))),(.sl .full 0 []),pK,(.sc (.int .i64 (.ofNat 0)))])],none,(.sc (.bool true))⟩
theorem jM {mx:Int}:Aw Tryz.prog (HdU.G mx) xI:=HdU.entry (l:=[]) (m:=1000000) HdU.none (by kernel_rfl) (by kernel_rfl)
def yM:BS:=⟨13,[(.agg [(.sc (.int .i64 (.ofNat 1))),(Ad []),(Ad []),(.sc (.int .i64 (.ofNat 0))),(.sc (.int .i64 (.ofNat 0))),(.sc (.int .i64 (.ofNat 0))),(.sc (.int .i64 (.ofNat 0))),(.sc (.int .i64 (.ofNat 0))),(.sl .full 0 []),NU,(.sc (.int .i64 (.ofNat 0)))]),(.agg [(.sc (.int .i64 (.ofNat 16))),(Ad [43]),(Ad []),(.sc (.int .i64 (.ofNat 0))),(.sc (.int .i64 (.ofNat 0))),(.sc (.int .i64 (.ofNat 0))),(.sc (.int .i64 (.ofNat 0))),(.sc (.int .i64 (.ofNat 0))),(.sl .full 0 []),pK,(.sc (.int .i64 (.ofNat 0)))])],none,(.Bq [(Ad [69,85,82]),(.sl .full 0 [])])⟩
theorem mP {mx:Int}:Aw Tryz.prog (HdU.G mx) yM:=HdU.entry (l:=[Ws,xI]) (m:=1000000) (Ab.cons Hm (Ab.cons jM HdU.none)) (by kernel_rfl) (by kernel_rfl)
def yY:BS:=⟨28,[(.agg [(.sc (.int .i64 (.ofNat 1))),(Ad []),(Ad []),(.sc (.int .i64 (.ofNat 0))),(.sc (.int .i64 (.ofNat 0))),(.sc (.int .i64 (.ofNat 0))),(.sc (.int .i64 (.ofNat 0))),(.sc (.int .i64 (.ofNat 0))),(.sl .full 0 []),NU,(.sc (.int .i64 (.ofNat 0)))]),k6,(Ad [69,85,82]),(.sc (.int .i64 (.ofNat 0)))],none,(.sc (.bool true))⟩
theorem nU {mx:Int}:Aw Tryz.prog (HdU.G mx) yY:=HdU.entry (l:=[e25,yM]) (m:=1000000) (Ab.cons nO (Ab.cons mP HdU.none)) (by kernel_rfl) (by kernel_rfl)
def yP:BS:=⟨29,[(.agg [(.sc (.int .i64 (.ofNat 16))),(Ad [97,110,100]),(Ad []),(.sc (.int .i64 (.ofNat 0))),(.sc (.int .i64 (.ofNat 0))),(.sc (.int .i64 (.ofNat 0))),(.sc (.int .i64 (.ofNat 0))),(.sc (.int .i64 (.ofNat 0))),(.sl .full 0 []),oO,(.sc (.int .i64 (.ofNat 0)))])],none,(.sc (.bool true))⟩
theorem oL {mx:Int}:Aw Tryz.prog (HdU.G mx) yP:=HdU.entry (l:=[]) (m:=1000000) HdU.none (by kernel_rfl) (by kernel_rfl)
def zG:BS:=⟨13,[(.agg [(.sc (.int .i64 (.ofNat 1))),(Ad []),(Ad []),(.sc (.int .i64 (.ofNat 0))),(.sc (.int .i64 (.ofNat 0))),(.sc (.int .i64 (.ofNat 0))),(.sc (.int .i64 (.ofNat 0))),(.sc (.int .i64 (.ofNat 0))),(.sl .full 0 []),NU,(.sc (.int .i64 (.ofNat 0)))]),(.agg [(.sc (.int .i64 (.ofNat 16))),(Ad [97,110,100]),(Ad []),(.sc (.int .i64 (.ofNat 0))),(.sc (.int .i64 (.ofNat 0))),(.sc (.int .i64 (.ofNat 0))),(.sc (.int .i64 (.ofNat 0))),(.sc (.int .i64 (.ofNat 0))),(.sl .full 0 []),oO,(.sc (.int .i64 (.ofNat 0)))])],none,(.Bq [(Ad [116,114,117,116,104]),(.sl .full 0 [])])⟩
theorem kY {mx:Int}:Aw Tryz.prog (HdU.G mx) zG:=HdU.entry (l:=[Ws,yP]) (m:=1000000) (Ab.cons Hm (Ab.cons oL HdU.none)) (by kernel_rfl) (by kernel_rfl)
end Go.Proofs.YtkfplcngmiljaaaGreatDoor
namespace Go.Proofs.YtkfplcngmiljaaaGreatDoor
open AI
set_option maxRecDepth 100000
set_option maxHeartbeats 4000000
def e98:BS:=⟨28,[(.agg [(.sc (.int .i64 (.ofNat 1))),(Ad []),(Ad []),(.sc (.int .i64 (.ofNat 0))),(.sc (.int .i64 (.ofNat 0))),(.sc (.int .i64 (.ofNat 0))),(.sc (.int .i64 (.ofNat 0))),(.sc (.int .i64 (.ofNat 0))),(.sl .full 0 []),NU,(.sc (.int .i64 (.ofNat 0)))]),k8,(Ad [116,114,117,116,104]),(.sc (.int .i64 (.ofNat 0)))],none,(.sc (.bool true))⟩
theorem nA {mx:Int}:Aw Tryz.prog (HdU.G mx) e98:=HdU.entry (l:=[zP,zG]) (m:=1000000) (Ab.cons nK (Ab.cons kY HdU.none)) (by kernel_rfl) (by kernel_rfl)
def e99:BS:=⟨29,[(.agg [(.sc (.int .i64 (.ofNat 15))),(Ad []),(Ad []),(.sc (.int .i64 (.ofNat 0))),(.sc (.int .i64 (.ofNat 0))),(.sc (.int .i64 (.ofNat 0))),(.sc (.int .i64 (.ofNat 0))),(.sc (.int .i64 (.ofNat 0))),(.sl .full 0 []),pE,(.sc (.int .i64 (.ofNat 0)))])],none,(.sc (.bool true))⟩
theorem mK {mx:Int}:Aw Tryz.prog (HdU.G mx) e99:=HdU.entry (l:=[]) (m:=1000000) HdU.none (by kernel_rfl) (by kernel_rfl)
def qH:BS:=⟨13,[(.agg [(.sc (.int .i64 (.ofNat 1))),(Ad []),(Ad []),(.sc (.int .i64 (.ofNat 0))),(.sc (.int .i64 (.ofNat 0))),(.sc (.int .i64 (.ofNat 0))),(.sc (.int .i64 (.ofNat 0))),(.sc (.int .i64 (.ofNat 0))),(.sl .full 0 []),NU,(.sc (.int .i64 (.ofNat 0)))]),(.agg [(.sc (.int .i64 (.ofNat 15))),(Ad []),(Ad []),(.sc (.int .i64 (.ofNat 0))),(.sc (.int .i64 (.ofNat 0))),(.sc (.int .i64 (.ofNat 0))),(.sc (.int .i64 (.ofNat 0))),(.sc (.int .i64 (.ofNat 0))),(.sl .full 0 []),pE,(.sc (.int .i64 (.ofNat 0)))])],none,(.Bq [(Ad [116,114,117,116,104]),(.sl .full 0 [])])⟩
theorem cD {mx:Int}:Aw Tryz.prog (HdU.G mx) qH:=HdU.entry (l:=[Ws,e99]) (m:=1000000) (Ab.cons Hm (Ab.cons mK HdU.none)) (by kernel_rfl) (by kernel_rfl)
def rH:BS:=⟨28,[(.agg [(.sc (.int .i64 (.ofNat 1))),(Ad []),(Ad []),(.sc (.int .i64 (.ofNat 0))),(.sc (.int .i64 (.ofNat 0))),(.sc (.int .i64 (.ofNat 0))),(.sc (.int .i64 (.ofNat 0))),(.sc (.int .i64 (.ofNat 0))),(.sl .full 0 []),NU,(.sc (.int .i64 (.ofNat 0)))]),vW,(Ad [116,114,117,116,104]),(.sc (.int .i64 (.ofNat 0)))],none,(.sc (.bool true))⟩
theorem aR {mx:Int}:Aw Tryz.prog (HdU.G mx) rH:=HdU.entry (l:=[yO,qH]) (m:=1000000) (Ab.cons lG (Ab.cons cD HdU.none)) (by kernel_rfl) (by kernel_rfl)
def qS:BS:=⟨29,[(.agg [(.sc (.int .i64 (.ofNat 16))),(Ad [47]),(Ad []),(.sc (.int .i64 (.ofNat 0))),(.sc (.int .i64 (.ofNat 0))),(.sc (.int .i64 (.ofNat 0))),(.sc (.int .i64 (.ofNat 0))),(.sc (.int .i64 (.ofNat 0))),(.sl .full 0 []),o0,(.sc (.int .i64 (.ofNat 0)))])],none,(.sc (.bool true))⟩
theorem c7 {mx:Int}:Aw Tryz.prog (HdU.G mx) qS:=HdU.entry (l:=[]) (m:=1000000) HdU.none (by kernel_rfl) (by kernel_rfl)
def rK:BS:=⟨13,[(.agg [(.sc (.int .i64 (.ofNat 1))),(Ad []),(Ad []),(.sc (.int .i64 (.ofNat 0))),(.sc (.int .i64 (.ofNat 0))),(.sc (.int .i64 (.ofNat 0))),(.sc (.int .i64 (.ofNat 0))),(.sc (.int .i64 (.ofNat 0))),(.sl .full 0 []),NU,(.sc (.int .i64 (.ofNat 0)))]),(.agg [(.sc (.int .i64 (.ofNat 16))),(Ad [47]),(Ad []),(.sc (.int .i64 (.ofNat 0))),(.sc (.int .i64 (.ofNat 0))),(.sc (.int .i64 (.ofNat 0))),(.sc (.int .i64 (.ofNat 0))),(.sc (.int .i64 (.ofNat 0))),(.sl .full 0 []),o0,(.sc (.int .i64 (.ofNat 0)))])],none,(.Bq [(Ad [69,85,82]),(.sl .full 0 [])])⟩
theorem gE {mx:Int}:Aw Tryz.prog (HdU.G mx) rK:=HdU.entry (l:=[Ws,qS]) (m:=1000000) (Ab.cons Hm (Ab.cons c7 HdU.none)) (by kernel_rfl) (by kernel_rfl)
def rF:BS:=⟨28,[(.agg [(.sc (.int .i64 (.ofNat 1))),(Ad []),(Ad []),(.sc (.int .i64 (.ofNat 0))),(.sc (.int .i64 (.ofNat 0))),(.sc (.int .i64 (.ofNat 0))),(.sc (.int .i64 (.ofNat 0))),(.sc (.int .i64 (.ofNat 0))),(.sl .full 0 []),NU,(.sc (.int .i64 (.ofNat 0)))]),U4,(Ad [69,85,82]),(.sc (.int .i64 (.ofNat 0)))],none,(.sc (.bool true))⟩
theorem bR {mx:Int}:Aw Tryz.prog (HdU.G mx) rF:=HdU.entry (l:=[yQ,rK]) (m:=1000000) (Ab.cons nQ (Ab.cons gE HdU.none)) (by kernel_rfl) (by kernel_rfl)
def sP:BS:=⟨29,[(.agg [(.sc (.int .i64 (.ofNat 16))),(Ad [42]),(Ad []),(.sc (.int .i64 (.ofNat 0))),(.sc (.int .i64 (.ofNat 0))),(.sc (.int .i64 (.ofNat 0))),(.sc (.int .i64 (.ofNat 0))),(.sc (.int .i64 (.ofNat 0))),(.sl .full 0 []),oU,(.sc (.int .i64 (.ofNat 0)))])],none,(.sc (.bool true))⟩
theorem bE {mx:Int}:Aw Tryz.prog (HdU.G mx) sP:=HdU.entry (l:=[]) (m:=1000000) HdU.none (by kernel_rfl) (by kernel_rfl)
def tR:BS:=⟨13,[(.agg [(.sc (.int .i64 (.ofNat 1))),(Ad []),(Ad []),(.sc (.int .i64 (.ofNat 0))),(.sc (.int .i64 (.ofNat 0))),(.sc (.int .i64 (.ofNat 0))),(.sc (.int .i64 (.ofNat 0))),(.sc (.int .i64 (.ofNat 0))),(.sl .full 0 []),NU,(.sc (.int .i64 (.ofNat 0)))]),(.agg [(.sc (.int .i64 (.ofNat 16))),(Ad [42]),(Ad []),(.sc (.int .i64 (.ofNat 0))),(.sc (.int .i64 (.ofNat 0))),(.sc (.int .i64 (.ofNat 0))),(.sc (.int .i64 (.ofNat 0))),(.sc (.int .i64 (.ofNat 0))),(.sl .full 0 []),oU,(.sc (.int .i64 (.ofNat 0)))])],none,(.Bq [k1,(.sl .full 0 [])])⟩
theorem bK {mx:Int}:Aw Tryz.prog (HdU.G mx) tR:=HdU.entry (l:=[Ws,sP]) (m:=1000000) (Ab.cons Hm (Ab.cons bE HdU.none)) (by kernel_rfl) (by kernel_rfl)
def tQ:BS:=⟨28,[(.agg [(.sc (.int .i64 (.ofNat 1))),(Ad []),(Ad []),(.sc (.int .i64 (.ofNat 0))),(.sc (.int .i64 (.ofNat 0))),(.sc (.int .i64 (.ofNat 0))),(.sc (.int .i64 (.ofNat 0))),(.sc (.int .i64 (.ofNat 0))),(.sl .full 0 []),NU,(.sc (.int .i64 (.ofNat 0)))]),YE,k1,(.sc (.int .i64 (.ofNat 0)))],none,(.sc (.bool true))⟩
theorem dX {mx:Int}:Aw Tryz.prog (HdU.G mx) tQ:=HdU.entry (l:=[yF,tR]) (m:=1000000) (Ab.cons kJ (Ab.cons bK HdU.none)) (by kernel_rfl) (by kernel_rfl)
def rT:BS:=⟨29,[(.agg [(.sc (.int .i64 (.ofNat 16))),(Ad [42]),(Ad []),(.sc (.int .i64 (.ofNat 0))),(.sc (.int .i64 (.ofNat 0))),(.sc (.int .i64 (.ofNat 0))),(.sc (.int .i64 (.ofNat 0))),(.sc (.int .i64 (.ofNat 0))),(.sl .full 0 []),pD,(.sc (.int .i64 (.ofNat 0)))])],none,(.sc (.bool true))⟩
theorem dQ {mx:Int}:Aw Tryz.prog (HdU.G mx) rT:=HdU.entry (l:=[]) (m:=1000000) HdU.none (by kernel_rfl) (by kernel_rfl)
def tJ:BS:=⟨13,[(.agg [(.sc (.int .i64 (.ofNat 1))),(Ad []),(Ad []),(.sc (.int .i64 (.ofNat 0))),(.sc (.int .i64 (.ofNat 0))),(.sc (.int .i64 (.ofNat 0))),(.sc (.int .i64 (.ofNat 0))),(.sc (.int .i64 (.ofNat 0))),(.sl .full 0 []),NU,(.sc (.int .i64 (.ofNat 0)))]),(.agg [(.sc (.int .i64 (.ofNat 16))),(Ad [42]),(Ad []),(.sc (.int .i64 (.ofNat 0))),(.sc (.int .i64 (.ofNat 0))),(.sc (.int .i64 (.ofNat 0))),(.sc (.int .i64 (.ofNat 0))),(.sc (.int .i64 (.ofNat 0))),(.sl .full 0 []),pD,(.sc (.int .i64 (.ofNat 0)))])],none,(.Bq [(Ad []),(.sl .lost 1 [(.sc (.int .i64 (.ofNat 11))),(.sc (.int .i64 (.ofNat 0)))])])⟩
theorem cZ {mx:Int}:Aw Tryz.prog (HdU.G mx) tJ:=HdU.entry (l:=[Ws,rT]) (m:=1000000) (Ab.cons Hm (Ab.cons dQ HdU.none)) (by kernel_rfl) (by kernel_rfl)
def qC:BS:=⟨28,[(.agg [(.sc (.int .i64 (.ofNat 1))),(Ad []),(Ad []),(.sc (.int .i64 (.ofNat 0))),(.sc (.int .i64 (.ofNat 0))),(.sc (.int .i64 (.ofNat 0))),(.sc (.int .i64 (.ofNat 0))),(.sc (.int .i64 (.ofNat 0))),(.sl .full 0 []),NU,(.sc (.int .i64 (.ofNat 0)))]),U7,(Ad []),(.sc (.int .i64 (.ofNat 11)))],none,(.sc (.bool true))⟩
theorem fR {mx:Int}:Aw Tryz.prog (HdU.G mx) qC:=HdU.entry (l:=[e40,tJ]) (m:=1000000) (Ab.cons j6 (Ab.cons cZ HdU.none)) (by kernel_rfl) (by kernel_rfl)
def rU:BS:=⟨29,[(.agg [(.sc (.int .i64 (.ofNat 16))),(Ad [43]),(Ad []),(.sc (.int .i64 (.ofNat 0))),(.sc (.int .i64 (.ofNat 0))),(.sc (.int .i64 (.ofNat 0))),(.sc (.int .i64 (.ofNat 0))),(.sc (.int .i64 (.ofNat 0))),(.sl .full 0 []),pB,(.sc (.int .i64 (.ofNat 0)))])],none,(.sc (.bool true))⟩
theorem aF {mx:Int}:Aw Tryz.prog (HdU.G mx) rU:=HdU.entry (l:=[]) (m:=1000000) HdU.none (by kernel_rfl) (by kernel_rfl)
def rX:BS:=⟨13,[(.agg [(.sc (.int .i64 (.ofNat 1))),(Ad []),(Ad []),(.sc (.int .i64 (.ofNat 0))),(.sc (.int .i64 (.ofNat 0))),(.sc (.int .i64 (.ofNat 0))),(.sc (.int .i64 (.ofNat 0))),(.sc (.int .i64 (.ofNat 0))),(.sl .full 0 []),NU,(.sc (.int .i64 (.ofNat 0)))]),(.agg [(.sc (.int .i64 (.ofNat 16))),(Ad [43]),(Ad []),(.sc (.int .i64 (.ofNat 0))),(.sc (.int .i64 (.ofNat 0))),(.sc (.int .i64 (.ofNat 0))),(.sc (.int .i64 (.ofNat 0))),(.sc (.int .i64 (.ofNat 0))),(.sl .full 0 []),pB,(.sc (.int .i64 (.ofNat 0)))])],none,(.Bq [(Ad []),(.sl .lost 1 [(.sc (.int .i64 (.ofNat 11))),(.sc (.int .i64 (.ofNat 0)))])])⟩
theorem aL {mx:Int}:Aw Tryz.prog (HdU.G mx) rX:=HdU.entry (l:=[Ws,rU]) (m:=1000000) (Ab.cons Hm (Ab.cons aF HdU.none)) (by kernel_rfl) (by kernel_rfl)
def sL:BS:=⟨28,[(.agg [(.sc (.int .i64 (.ofNat 1))),(Ad []),(Ad []),(.sc (.int .i64 (.ofNat 0))),(.sc (.int .i64 (.ofNat 0))),(.sc (.int .i64 (.ofNat 0))),(.sc (.int .i64 (.ofNat 0))),(.sc (.int .i64 (.ofNat 0))),(.sl .full 0 []),NU,(.sc (.int .i64 (.ofNat 0)))]),ZU,(Ad []),(.sc (.int .i64 (.ofNat 11)))],none,(.sc (.bool true))⟩
theorem aI {mx:Int}:Aw Tryz.prog (HdU.G mx) sL:=HdU.entry (l:=[yX,rX]) (m:=1000000) (Ab.cons oE (Ab.cons aL HdU.none)) (by kernel_rfl) (by kernel_rfl)
def tE:BS:=⟨29,[(.agg [(.sc (.int .i64 (.ofNat 16))),(Ad [43]),(Ad []),(.sc (.int .i64 (.ofNat 0))),(.sc (.int .i64 (.ofNat 0))),(.sc (.int .i64 (.ofNat 0))),(.sc (.int .i64 (.ofNat 0))),(.sc (.int .i64 (.ofNat 0))),(.sl .full 0 []),pA,(.sc (.int .i64 (.ofNat 0)))])],none,(.sc (.bool true))⟩
theorem dB {mx:Int}:Aw Tryz.prog (HdU.G mx) tE:=HdU.entry (l:=[]) (m:=1000000) HdU.none (by kernel_rfl) (by kernel_rfl)
def pO:BS:=⟨13,[(.agg [(.sc (.int .i64 (.ofNat 1))),(Ad []),(Ad []),(.sc (.int .i64 (.ofNat 0))),(.sc (.int .i64 (.ofNat 0))),(.sc (.int .i64 (.ofNat 0))),(.sc (.int .i64 (.ofNat 0))),(.sc (.int .i64 (.ofNat 0))),(.sl .full 0 []),NU,(.sc (.int .i64 (.ofNat 0)))]),(.agg [(.sc (.int .i64 (.ofNat 16))),(Ad [43]),(Ad []),(.sc (.int .i64 (.ofNat 0))),(.sc (.int .i64 (.ofNat 0))),(.sc (.int .i64 (.ofNat 0))),(.sc (.int .i64 (.ofNat 0))),(.sc (.int .i64 (.ofNat 0))),(.sl .full 0 []),pA,(.sc (.int .i64 (.ofNat 0)))])],none,(.Bq [(Ad []),(.sl .lost 1 [(.sc (.int .i64 (.ofNat 91))),(.sc (.int .i64 (.ofNat 0)))])])⟩
theorem bF {mx:Int}:Aw Tryz.prog (HdU.G mx) pO:=HdU.entry (l:=[Ws,tE]) (m:=1000000) (Ab.cons Hm (Ab.cons dB HdU.none)) (by kernel_rfl) (by kernel_rfl)
end Go.Proofs.YtkfplcngmiljaaaGreatDoor
namespace Go.Proofs.YtkfplcngmiljaaaGreatDoor
open AI
set_option maxRecDepth 100000
set_option maxHeartbeats 4000000
def tS:BS:=⟨28,[(.agg [(.sc (.int .i64 (.ofNat 1))),(Ad []),(Ad []),(.sc (.int .i64 (.ofNat 0))),(.sc (.int .i64 (.ofNat 0))),(.sc (.int .i64 (.ofNat 0))),(.sc (.int .i64 (.ofNat 0))),(.sc (.int .i64 (.ofNat 0))),(.sl .full 0 []),NU,(.sc (.int .i64 (.ofNat 0)))]),(Ad [120,32,43,32,49]),(Ad []),(.sc (.int .i64 (.ofNat 91)))],none,(.sc (.bool true))⟩
theorem dU {mx:Int}:Aw Tryz.prog (HdU.G mx) tS:=HdU.entry (l:=[xH,pO]) (m:=1000000) (Ab.cons mC (Ab.cons bF HdU.none)) (by kernel_rfl) (by kernel_rfl)
def pW:BS:=⟨29,[(.agg [(.sc (.int .i64 (.ofNat 13))),(Ad []),(Ad []),(.sc (.int .i64 (.ofNat 2))),(.sc (.int .i64 (.ofNat 0))),(.sc (.int .i64 (.ofNat 0))),(.sc (.int .i64 (.ofNat 0))),(.sc (.int .i64 (.ofNat 0))),(.sl .full 0 []),(.sl .full 0 []),(.sc (.int .i64 (.ofNat 0)))])],none,(.sc (.bool true))⟩
theorem gG {mx:Int}:Aw Tryz.prog (HdU.G mx) pW:=HdU.entry (l:=[]) (m:=1000000) HdU.none (by kernel_rfl) (by kernel_rfl)
def s8:BS:=⟨13,[(.agg [(.sc (.int .i64 (.ofNat 1))),(Ad []),(Ad []),(.sc (.int .i64 (.ofNat 0))),(.sc (.int .i64 (.ofNat 0))),(.sc (.int .i64 (.ofNat 0))),(.sc (.int .i64 (.ofNat 0))),(.sc (.int .i64 (.ofNat 0))),(.sl .full 0 []),NU,(.sc (.int .i64 (.ofNat 0)))]),(.agg [(.sc (.int .i64 (.ofNat 13))),(Ad []),(Ad []),(.sc (.int .i64 (.ofNat 2))),(.sc (.int .i64 (.ofNat 0))),(.sc (.int .i64 (.ofNat 0))),(.sc (.int .i64 (.ofNat 0))),(.sc (.int .i64 (.ofNat 0))),(.sl .full 0 []),(.sl .full 0 []),(.sc (.int .i64 (.ofNat 0)))])],none,(.Bq [(Ad []),(.sl .lost 1 [(.sc (.int .i64 (.ofNat 91))),(.sc (.int .i64 (.ofNat 0)))])])⟩
theorem fD {mx:Int}:Aw Tryz.prog (HdU.G mx) s8:=HdU.entry (l:=[Ws,pW]) (m:=1000000) (Ab.cons Hm (Ab.cons gG HdU.none)) (by kernel_rfl) (by kernel_rfl)
def pU:BS:=⟨28,[(.agg [(.sc (.int .i64 (.ofNat 1))),(Ad []),(Ad []),(.sc (.int .i64 (.ofNat 0))),(.sc (.int .i64 (.ofNat 0))),(.sc (.int .i64 (.ofNat 0))),(.sc (.int .i64 (.ofNat 0))),(.sc (.int .i64 (.ofNat 0))),(.sl .full 0 []),NU,(.sc (.int .i64 (.ofNat 0)))]),(Ad [97,114,116,32,50]),(Ad []),(.sc (.int .i64 (.ofNat 91)))],none,(.sc (.bool true))⟩
theorem fO {mx:Int}:Aw Tryz.prog (HdU.G mx) pU:=HdU.entry (l:=[zF,s8]) (m:=1000000) (Ab.cons jL (Ab.cons fD HdU.none)) (by kernel_rfl) (by kernel_rfl)
def tK:BS:=⟨29,[(.agg [(.sc (.int .i64 (.ofNat 18))),(Ad []),(Ad []),(.sc (.int .i64 (.ofNat 0))),(.sc (.int .i64 (.ofNat 0))),(.sc (.int .i64 (.ofNat 0))),(.sc (.int .i64 (.ofNat 0))),(.sc (.int .i64 (.ofNat 10))),(.sl .lost 1 [(.sc (.int .i64 (.ofNat 0))),(.sc (.int .i64 (.ofNat 0))),(.sc (.int .i64 (.ofNat 1)))]),oV,(.sc (.int .i64 (.ofNat 0)))])],none,(.sc (.bool true))⟩
theorem bA {mx:Int}:Aw Tryz.prog (HdU.G mx) tK:=HdU.entry (l:=[]) (m:=1000000) HdU.none (by kernel_rfl) (by kernel_rfl)
def sU:BS:=⟨13,[(.agg [(.sc (.int .i64 (.ofNat 1))),(Ad []),(Ad []),(.sc (.int .i64 (.ofNat 0))),(.sc (.int .i64 (.ofNat 0))),(.sc (.int .i64 (.ofNat 0))),(.sc (.int .i64 (.ofNat 0))),(.sc (.int .i64 (.ofNat 0))),(.sl .full 0 []),NU,(.sc (.int .i64 (.ofNat 0)))]),(.agg [(.sc (.int .i64 (.ofNat 18))),(Ad []),(Ad []),(.sc (.int .i64 (.ofNat 0))),(.sc (.int .i64 (.ofNat 0))),(.sc (.int .i64 (.ofNat 0))),(.sc (.int .i64 (.ofNat 0))),(.sc (.int .i64 (.ofNat 10))),(.sl .lost 1 [(.sc (.int .i64 (.ofNat 0))),(.sc (.int .i64 (.ofNat 0))),(.sc (.int .i64 (.ofNat 1)))]),oV,(.sc (.int .i64 (.ofNat 0)))])],none,(.Bq [(Ad []),(.sl .lost 1 [(.sc (.int .i64 (.ofNat 11))),(.sc (.int .i64 (.ofNat 0)))])])⟩
theorem Z8 {mx:Int}:Aw Tryz.prog (HdU.G mx) sU:=HdU.entry (l:=[Ws,tK]) (m:=1000000) (Ab.cons Hm (Ab.cons bA HdU.none)) (by kernel_rfl) (by kernel_rfl)
def rJ:BS:=⟨28,[(.agg [(.sc (.int .i64 (.ofNat 1))),(Ad []),(Ad []),(.sc (.int .i64 (.ofNat 0))),(.sc (.int .i64 (.ofNat 0))),(.sc (.int .i64 (.ofNat 0))),(.sc (.int .i64 (.ofNat 0))),(.sc (.int .i64 (.ofNat 0))),(.sl .full 0 []),NU,(.sc (.int .i64 (.ofNat 0)))]),vZ,(Ad []),(.sc (.int .i64 (.ofNat 11)))],none,(.sc (.bool true))⟩
theorem cF {mx:Int}:Aw Tryz.prog (HdU.G mx) rJ:=HdU.entry (l:=[xY,sU]) (m:=1000000) (Ab.cons lM (Ab.cons Z8 HdU.none)) (by kernel_rfl) (by kernel_rfl)
def rD:BS:=⟨29,[(.agg [(.sc (.int .i64 (.ofNat 17))),(Ad [108,101,97,115,116]),(Ad []),(.sc (.int .i64 (.ofNat 0))),(.sc (.int .i64 (.ofNat 0))),(.sc (.int .i64 (.ofNat 0))),(.sc (.int .i64 (.ofNat 0))),(.sc (.int .i64 (.ofNat 0))),(.sl .full 0 []),oW,(.sc (.int .i64 (.ofNat 0)))])],none,(.sc (.bool true))⟩
theorem dL {mx:Int}:Aw Tryz.prog (HdU.G mx) rD:=HdU.entry (l:=[]) (m:=1000000) HdU.none (by kernel_rfl) (by kernel_rfl)
def rB:BS:=⟨13,[(.agg [(.sc (.int .i64 (.ofNat 1))),(Ad []),(Ad []),(.sc (.int .i64 (.ofNat 0))),(.sc (.int .i64 (.ofNat 0))),(.sc (.int .i64 (.ofNat 0))),(.sc (.int .i64 (.ofNat 0))),(.sc (.int .i64 (.ofNat 0))),(.sl .full 0 []),NU,(.sc (.int .i64 (.ofNat 0)))]),(.agg [(.sc (.int .i64 (.ofNat 17))),(Ad [108,101,97,115,116]),(Ad []),(.sc (.int .i64 (.ofNat 0))),(.sc (.int .i64 (.ofNat 0))),(.sc (.int .i64 (.ofNat 0))),(.sc (.int .i64 (.ofNat 0))),(.sc (.int .i64 (.ofNat 0))),(.sl .full 0 []),oW,(.sc (.int .i64 (.ofNat 0)))])],none,(.Bq [(Ad [69,85,82]),(.sl .full 0 [])])⟩
theorem gF {mx:Int}:Aw Tryz.prog (HdU.G mx) rB:=HdU.entry (l:=[Ws,rD]) (m:=1000000) (Ab.cons Hm (Ab.cons dL HdU.none)) (by kernel_rfl) (by kernel_rfl)
def qQ:BS:=⟨28,[(.agg [(.sc (.int .i64 (.ofNat 1))),(Ad []),(Ad []),(.sc (.int .i64 (.ofNat 0))),(.sc (.int .i64 (.ofNat 0))),(.sc (.int .i64 (.ofNat 0))),(.sc (.int .i64 (.ofNat 0))),(.sc (.int .i64 (.ofNat 0))),(.sl .full 0 []),NU,(.sc (.int .i64 (.ofNat 0)))]),u9,(Ad [69,85,82]),(.sc (.int .i64 (.ofNat 0)))],none,(.sc (.bool true))⟩
theorem aD {mx:Int}:Aw Tryz.prog (HdU.G mx) qQ:=HdU.entry (l:=[xU,rB]) (m:=1000000) (Ab.cons nM (Ab.cons gF HdU.none)) (by kernel_rfl) (by kernel_rfl)
def sR:BS:=⟨29,[(.agg [(.sc (.int .i64 (.ofNat 1))),(Ad []),(Ad []),(.sc (.int .i64 (.ofNat 0))),(.sc (.int .i64 (.ofNat 0))),(.sc (.int .i64 (.ofNat 0))),(.sc (.int .i64 (.ofNat 0))),(.sc (.int .i64 (.ofNat 0))),(.sl .full 0 []),vP,(.sc (.int .i64 (.ofNat 0)))])],none,(.sc (.bool true))⟩
theorem cO {mx:Int}:Aw Tryz.prog (HdU.G mx) sR:=HdU.entry (l:=[]) (m:=1000000) HdU.none (by kernel_rfl) (by kernel_rfl)
def pQ:BS:=⟨16,[(.agg [(.sc (.int .i64 (.ofNat 1))),(Ad []),(Ad []),(.sc (.int .i64 (.ofNat 0))),(.sc (.int .i64 (.ofNat 0))),(.sc (.int .i64 (.ofNat 0))),(.sc (.int .i64 (.ofNat 0))),(.sc (.int .i64 (.ofNat 0))),(.sl .full 0 []),vP,(.sc (.int .i64 (.ofNat 0)))])],none,(.sl .lost 1 [(.sc (.int .i64 (.ofNat 5))),(.sc (.int .i64 (.ofNat 165)))])⟩
theorem fZ {mx:Int}:Aw Tryz.prog (HdU.G mx) pQ:=HdU.entry (l:=[sR]) (m:=1000000) (Ab.cons cO HdU.none) (by kernel_rfl) (by kernel_rfl)
def s7:BS:=⟨11,[],none,(.sc (.bool true))⟩
theorem dW {mx:Int}:Aw Tryz.prog (HdU.G mx) s7:=HdU.entry (l:=[zE,xO,xM,yY,e98,rH,rF,tQ,qC,sL,tS,pU,rJ,qQ,pQ]) (m:=1000000) (Ab.cons oA (Ab.cons mQ (Ab.cons jJ (Ab.cons nU (Ab.cons nA (Ab.cons aR (Ab.cons bR (Ab.cons dX (Ab.cons fR (Ab.cons aI (Ab.cons dU (Ab.cons fO (Ab.cons cF (Ab.cons aD (Ab.cons fZ HdU.none))))))))))))))) (by kernel_rfl) (by kernel_rfl)
theorem eA (mx:Int) (s:AS):Sound Tryz.prog (HdU.G mx) (.call 11 [] s (.ret (.sc (.bool true))) s):=(dW:Aw Tryz.prog (HdU.G mx) s7) s
end Go.Proofs.YtkfplcngmiljaaaGreatDoor
namespace Go.Proofs.YtkfplcngmiljaaaGreatDoor
open AI Go
namespace Mo
set_option maxRecDepth 100000
set_option maxHeartbeats 4000000
abbrev GU (mx:Int):AJ:=HdU.G mx
theorem up {mx:Int} {f:FuncId} {args:List AV} {v:AV} (h:Pure P G f args v):Pure P (GU mx) f args v:=by
 intro s cx w vs hs ha
 have hs0:St G cx w s:=⟨hs.len,hs.desc,hs.nodup,hs.low,hs.box,hs.rlen,hs.row,hs.rfree,hs.plow,hs.blow,hs.rdist,(fun _ _ h=>nomatch h),hs.bsz⟩
 refine (h s cx w vs hs0 ha).mono ?_
 rintro e w' ⟨c',hx,st,hr⟩
 exact ⟨c',hx,⟨st.len,st.desc,st.nodup,st.low,st.box,st.rlen,st.row,st.rfree,st.plow,st.blow,st.rdist,(fun g cs h=>(hs.glob g cs h).mono hx),st.bsz⟩,hr⟩
noncomputable def LR:Option Bool:=some true
theorem PZ {mx:Int} {yR:Bool} (h:LR=some yR):Pure P (GU mx) 11 [] (.sc (.bool yR)):=by
 cases h
 exact fun s=>eA mx s
variable {mx:Int}
noncomputable def B5:Code:=A4 Tryz.f5
theorem b5:Tryz.f5.body=some B5:=by kernel_rfl
noncomputable def Em  (source:Nd) (e:Nd) (name:ByteArray):Option Bool:=(LR).bind fun y1=>(He source e).bind fun y2=>cond y2 ((Gx source EY).bind fun y3=>cond y3 (some y1) ((Gx e EY).bind fun y4=>cond y4 (some y1) ((E7 source).bind fun y5=>cond y5 ((Dy e).bind fun y6=>cond y6 ((D9 source name EY H7 H7).bind fun y7=>(D9 e name EY H7 H7).bind fun y8=>(EF source e).bind fun (y9a,y9b)=>(EF y7 y8).bind fun (y10a,y10b)=>cond y1 (cond (BL y9a.data.toList y10a.data.toList) ((Da y9b y10b).bind fun y11=>cond y11 ((EC source).bind fun y12=>(EC y7).bind fun y13=>(Da y12 y13).bind fun y14=>some y14) (some false)) (some false)) (some false)) (some y1)) (some y1)))) (some y1)
theorem Kd   {source:Nd} {e:Nd} {name:ByteArray} {yR:Bool} (h:Em  source e name=some yR):Pure P (GU mx) 5 [.agg (A9 source),.agg (A9 e),.sc (.string name)] (.sc (.bool yR)):=by
 unfold Em at h
 refine BH Hd.mixed HdU.Ac (AG Tryz.func5 b5 ?_) (Bl (Am.F1 source) (Bl (Am.F1 e) (Bl rfl rfl))) rfl
 revert h
 refine Aj fun y1 hy1=>?_
 refine Aj fun y2 hy2=>?_
 let o1:List (PC P (GU mx)):=[Ak (PZ hy1),Ak (up (Pa hy2))]
 refine Ae (fun hv=>?_) fun hv=>?_
 subst hv
 refine Aj fun y3 hy3=>?_
 let o2:List (PC P (GU mx)):=o1++[Ak (up (J7 hy3))]
 refine Ae (fun hv=>?_) fun hv=>?_
 subst hv
 intro h
 have hE:=Option.some.inj h
 subst hE
 exact rS (Aa 300 o2) (by kernel_rfl)
 subst hv
 refine Aj fun y4 hy4=>?_
 let o3:List (PC P (GU mx)):=o2++[Ak (up (J7 hy4))]
 refine Ae (fun hv=>?_) fun hv=>?_
 subst hv
 intro h
 have hE:=Option.some.inj h
 subst hE
 exact rS (Aa 300 o3) (by kernel_rfl)
 subst hv
 refine Aj fun y5 hy5=>?_
 let o4:List (PC P (GU mx)):=o3++[Ak (up (MI hy5))]
 refine Ae (fun hv=>?_) fun hv=>?_
 subst hv
 refine Aj fun y6 hy6=>?_
 let o5:List (PC P (GU mx)):=o4++[Ak (up (J9 hy6))]
 refine Ae (fun hv=>?_) fun hv=>?_
 subst hv
 refine Aj fun y7 hy7=>?_
 refine Aj fun y8 hy8=>?_
 refine Aj ?_
 rintro ⟨y9a,y9b⟩ hy9
 dsimp only
 refine Aj ?_
 rintro ⟨y10a,y10b⟩ hy10
 dsimp only
 let o6:List (PC P (GU mx)):=o5++[Ak (up (J2 hy7)),Ak (up (J2 hy8)),Ak (up (Jk hy9)),Ak (up (Jk hy10))]
 refine Ae (fun hv=>?_) fun hv=>?_
 subst hv
 refine Ae (fun hb1=>?_) fun hb1=>?_
 refine Aj fun y11 hy11=>?_
 refine Ae (fun hv=>?_) fun hv=>?_
 subst hv
 refine Aj fun y12 hy12=>?_
 refine Aj fun y13 hy13=>?_
 refine Aj fun y14 hy14=>?_
 intro h
 have hE:=Option.some.inj h
 subst hE
 exact rS (Aa 300 (o6++[pb hb1,Ak (up (ES hy11)),Ak (up (Ji hy12)),Ak (up (Ji hy13)),Ak (up (ES hy14))])) (by kernel_rfl)
 subst hv
 rintro ⟨⟩
 exact rS (Aa 300 (o6++[pb hb1,Ak (up (ES hy11))])) (by kernel_rfl)
 rintro ⟨⟩
 exact rS (Aa 300 (o6++[pb hb1])) (by kernel_rfl)
 subst hv
 rintro ⟨⟩
 exact rS (Aa 300 o6) (by kernel_rfl)
 subst hv
 intro h
 have hE:=Option.some.inj h
 subst hE
 exact rS (Aa 300 o5) (by kernel_rfl)
 subst hv
 intro h
 have hE:=Option.some.inj h
 subst hE
 exact rS (Aa 300 o4) (by kernel_rfl)
 subst hv
 intro h
 have hE:=Option.some.inj h
 subst hE
 exact rS (Aa 300 o1) (by kernel_rfl)
noncomputable def B6:Code:=A4 Tryz.f6
theorem b6:Tryz.f6.body=some B6:=by kernel_rfl
end Mo
end Go.Proofs.YtkfplcngmiljaaaGreatDoor
namespace Go.Proofs.YtkfplcngmiljaaaGreatDoor
open AI Go
namespace Mo
set_option maxRecDepth 100000
set_option maxHeartbeats 4000000
theorem Yv {n:Nd} (hok:CX n):E7 n=some (mb (n.kind=1∧LM n)):=by
 rw [E7,Vc hok]
 simp only [Option.bind_some,Bk,Bs,D6]
theorem aQ {n:Nd} (hok:CX n):Dy n=some (mb (¬ n.kind=1∧LM n)):=by
 rw [Dy,Vc hok]
 simp only [Option.bind_some,Bk,Bs,dS]
theorem Ud (src e:Nd):(Km src e).2.length≤9223372036854775807:=by
 rw [Nq]
 by_cases hc:(src.kind=1∧e.kind≠1)∧LM src∧LM e
 · rw [Ag hc];exact Nat.le_trans (Gs _ _) (by decide)
 · rw [Af hc];simp
theorem UN (src:Nd):(Lx src).length≤9223372036854775807:=by
 unfold Lx
 by_cases hc:src.kind=1∧LM src
 · rw [Ag hc];exact Nat.le_trans (Gs _ _) (by decide)
 · rw [Af hc];simp
theorem Vd (a b:List Dg) (ha:a.length≤9223372036854775807):Da a b=some (mb (a=b)):=by
 rw [Da,Bk,Bs]
 by_cases h:((a.length:Nat):Int)=((b.length:Nat):Int)
 · rw [Ag h,GR (v:=false) (P:=fun i y=>b[i]?=some y) ha (fun i y hy=>by
     have hi:i < a.length:=(List.getElem?_eq_some_iff.1 hy).1
     have hb:b[i]?=some b[i]:=List.getElem?_eq_getElem (by omega)
     simp only [Er]
     rw [hb]
     simp only [Option.bind_some]
     have hs:M1 y b[i]=mb (b[i]?=some y):=by
       rw [Bool.eq_iff_iff,Bj,hb]
       unfold M1
       simp only [Bool.and_eq_true,JU,beq_iff_eq,Option.some.injEq]
       generalize b[i]=z
       cases y;cases z
       simp only [Dg.mk.injEq]
       grind
     rw [hs,Bs,R3,hb]),F9]
   refine JN ⟨fun h2=>?_,fun h2 i y hy=>by rw [← h2];exact hy⟩
   apply List.ext_getElem?
   intro i
   by_cases hi:i < a.length
   · rw [List.getElem?_eq_getElem hi,h2 i _ (List.getElem?_eq_getElem hi)]
   · rw [List.getElem?_eq_none (by omega),List.getElem?_eq_none (by omega)]
 · rw [Af h];exact GK fun h2=>h (by rw [h2])
def WG (x:ByteArray) (n:Nd):Prop:=¬ nG x n
theorem ZO (x:ByteArray):∀ (q:Nat) (n:Nd),Dp n≤q→CX n→C5 q n x=some (mb (WG x n)):=by
 intro q
 induction q with
 | zero=>intro n h;have:=Cf n;omega
 | succ q ih =>
   intro n hq hok
   obtain ⟨p1,p2,p3⟩:=En hok
   have hsz:=Cf n
   rw [C5,Gr,Cn,Bs]
   rw [GR (v:=true) (P:=fun _ y=>¬ WG x y) p2 (fun i y hy=>by
     have hm:=List.mem_of_getElem? hy
     rw [FT,ih y (by have:=EP hm;omega) (p3 y hm)]
     simp only [Option.bind_some,Bs]
     exact TR)]
   by_cases hx:n.name=x
   · rw [Ag hx]
     refine qD fun h=>((L7 n).1 h).1 hx
   · rw [Af hx]
     by_cases hk:∀ (i:Nat) (y:Nd),n.kids[i]?=some y→¬ WG x y
     · rw [Ag hk]
       refine GK fun h=>h ((L7 n).2 ⟨hx,fun k h1=>?_⟩)
       obtain ⟨i,hi⟩:=List.getElem?_of_mem h1
       exact Classical.not_not.1 (hk i k hi)
     · rw [Af hk]
       refine qD fun h=>hk fun i y hy hn=>hn (((L7 n).1 h).2 y (List.mem_of_getElem? hy))
theorem SD {x:ByteArray} {n:Nd} (hok:CX n):Gx n x=some (mb (WG x n)) :=
 LB (Dp n) fun q hq=>ZO x q n hq hok
theorem TY:Fw EY:=by
 refine ⟨by decide,⟨102,rfl,by decide,by decide⟩,fun h=>?_,?_⟩
 · have h2:∀ k∈Tg.map (fun b=>b.data.toList),k≠EY.data.toList:=by decide
   exact h2 _ (List.mem_map_of_mem h) rfl
 unfold Qu
 decide
def cN (x:ByteArray):Ch:=⟨x,EY,H7,H7⟩
theorem VA:Nz H7:=by unfold Nz;decide
theorem gN (x:ByteArray):(cN x).Good:=⟨VA,VA,Iff.rfl,.inl TY⟩
theorem wJ (x u:ByteArray):(cN x).sw u=u:=by
 unfold Ch.sw cN
 dsimp only
 split<;>simp_all
theorem XQ {n:Nd} (h:LM n):Dp n≤2000:=h.2.1
theorem Pk {W:Prop} (src e:Nd) (x:ByteArray) (hs:CX src) (he:CX e) (_:W):Em src e x=some true:=by
 obtain ⟨b,hb⟩:=tH hs he
 rw [Em,hb,SD hs,SD he,Yv hs,aQ he,UU hs he,UO hs]
 show cond b _ _=_
 cases b with
 | false=>rfl
 | true =>
 rw [cond_true]
 simp only [Option.bind_some,Bs]
 by_cases o1:WG EY src
 · rw [Ag o1]
 rw [Af o1]
 by_cases o2:WG EY e
 · rw [Ag o2]
 rw [Af o2]
 by_cases v1:src.kind=1∧LM src
 rotate_left
 · rw [Af v1]
 rw [Ag v1]
 by_cases v2:¬ e.kind=1∧LM e
 rotate_left
 · rw [Af v2]
 rw [Ag v2]
 have n1:nf (cN x) src:=.inl (Classical.not_not.1 o1)
 have n2:nf (cN x) e:=.inl (Classical.not_not.1 o2)
 rw [show D9 src x EY H7 H7=some (DY (cN x) src) from To (cN x) (XQ v1.2) hs,show D9 e x EY H7 H7=some (DY (cN x) e) from To (cN x) (XQ v2.2) he]
 simp only [Option.bind_some]
 rw [UU (YZ hs) (YZ he),UO (YZ hs),Wp (gN x) n1 n2 v1.1 v2.1 v1.2 v2.2,WD (gN x) n1 v1.1 v1.2,wJ]
 simp only [Option.bind_some,Cn,Bs]
 rw [Vd _ _ (Ud _ _),Vd _ _ (UN _)]
 simp only [Option.bind_some,Bs]
 show cond true _ _=_
 rw [cond_true,Ag trivial,Ag trivial,← pI]
def cC:Ch:=⟨H7,H7,rC,qP⟩
theorem qR:FH rC:=.inr (.inr (.inr ⟨rfl,by decide⟩))
theorem r4:FH qP:=.inr (.inr (.inr ⟨rfl,by decide⟩))
theorem gC:cC.Good:=⟨by unfold cC Nz;decide,by unfold cC Nz;decide,⟨fun _=>r4,fun _=>qR⟩,.inr rfl⟩
end Mo
end Go.Proofs.YtkfplcngmiljaaaGreatDoor
