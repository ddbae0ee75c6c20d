/- Part of a proof: see the last text. -/
import Derived.Test.YtkfplcngmiljaaaGreatDoorUpp
import Derived.Test.YtkfplcngmiljaaaGreatDoorCards
import Derived.Test.YtkfplcngmiljaaaGreatDoorTie
import Derived.Lib.LaidTab
import Derived.Lib.LaidIn
import Derived.Shelf.Vars
set_option linter.unusedVariables false
set_option linter.unusedSimpArgs false
namespace Go.Proofs.YtkfplcngmiljaaaGreatDoor
open AI Go Go.RowKit LexS
theorem chunks {α:Type} {V:α→List Value} {k:Nat}:∀ {l:List α} {cs:List Value},cs.length=l.length*k→(∀ y,(V y).length=k)→(∀ (i:Nat) y,l[i]?=some y→(cs.drop (i*k)).take k=V y)→cs=l.flatMap V
 | [],cs,h,_,_=>by
   simp only [List.length_nil,Nat.zero_mul] at h
   rw [List.eq_nil_of_length_eq_zero h];rfl
 | a::l,cs,h,hV,hc=>by
   have h0:=hc 0 a rfl
   rw [Nat.zero_mul,List.drop_zero] at h0
   have ih:=chunks (V:=V) (k:=k) (l:=l) (cs:=cs.drop k) (by rw [List.length_drop,h,List.length_cons,Nat.succ_mul];omega) hV fun i y hy=>by
     rw [List.drop_drop]
     have:=hc (i+1) y (by simpa using hy)
     rwa [Nat.succ_mul,Nat.add_comm] at this
   rw [List.flatMap_cons,← h0,← ih,List.take_append_drop]
theorem H5 {α H:Type} {enc:TypeId×Value→H} {P:Program} {w:World} {base:Nat} {sp:Nat→Bool} {held:Bool} {fuel:Nat} {t e:TypeId} {n k:Nat} {cs:List Value} {l:List α} {p:List MemPlace} (D:α→DataW H) (V:α→List Value) (hV:∀ y,(V y).length=k)
   (hread:∀ f c y q,DataW.trod enc P w base sp held f e c=some (D y,q)→c=V y)
   (ht:P.underlying t=some (.array n e)) (hce:P.cellsOf e=k) (hct:P.cellsOf t=n*k) (h:DataW.trod enc P w base sp held fuel t cs=some (.agg (l.map D),p)):cs=l.flatMap V:=by
 obtain ⟨xs,m,_,hx,hl,hxl,hat⟩:=DataW.trod_array ht h
 have hd:l.map D=xs.map (·.1):=by
   have:=congrArg Prod.fst hx
   simpa using this
 have hll:l.length=n:=by
   have:=congrArg List.length hd
   simp at this
   omega
 rw [hct] at hl
 rw [hce] at hat
 refine chunks (by rw [hl,hll]) hV fun i y hy=>?_
 have hi:i < n:=by have:=(List.getElem?_eq_some_iff.1 hy).1;omega
 have h2:=hat i hi
 have hxi:xs[i]?=some xs[i]:=List.getElem?_eq_getElem (by omega)
 rw [hxi] at h2
 have h3:(l.map D)[i]?=(xs.map (·.1))[i]?:=by rw [hd]
 rw [List.getElem?_map,List.getElem?_map,hy,hxi] at h3
 simp only [Option.map_some,Option.some.injEq] at h3
 refine hread m _ y xs[i].2 ?_
 rw [h2,h3]
theorem NN {H:Type} {enc:TypeId×Value→H} {w:World} {base:Nat} {sp:Nat→Bool} {held:Bool} (f:Nat) (c:List Value) (y:List UInt8) (q:List MemPlace) (hh:DataW.trod enc Tryz.prog w base sp held f 9 c=some (.lit (.string y),q)):c=[.string ⟨y.toArray⟩]:=by
 obtain ⟨z,hc,hz,_⟩:=DataW.trod_string Tryz.underlying9 hh
 simp only [Prod.mk.injEq,DataW.lit.injEq,Lit.string.injEq] at hz
 rw [hc,hz.1]
theorem I9 {W:World} {n:String} {g:Nat} {cs:Array Value} (hg:Tryz.prog.globalNamed n=some g) (h:W.var? Tryz.prog n=some cs):∃ t fr,W.heap[g]?=some (.cells cs t fr):=by
 unfold World.var? at h
 rw [hg] at h
 simp only [Option.bind_some] at h
 split at h
 · rename_i c t fr hh
   injection h with h
   subst h
   exact ⟨t,fr,hh⟩
 · cases h
theorem gB:Tryz.prog.globalNamed "wageoffice/calendar.before"=some 6:=by kernel_rfl
theorem gC:Tryz.prog.globalNamed "wageoffice/lexer.classes"=some 2:=by kernel_rfl
theorem gS:Tryz.prog.globalNamed "wageoffice/lexer.symbols"=some 0:=by kernel_rfl
theorem gO:Tryz.prog.globalNamed "wageoffice/parser.operators"=some 3:=by kernel_rfl
theorem gR:Tryz.prog.globalNamed "wageoffice/parser.roles"=some 1:=by kernel_rfl
theorem wR:(Tryz.prog.globals[(6:Nat)]?).map (·.type)=some 195:=by kernel_rfl
theorem vK:(Tryz.prog.globals[(2:Nat)]?).map (·.type)=some 149:=by kernel_rfl
theorem vH:(Tryz.prog.globals[(0:Nat)]?).map (·.type)=some 142:=by kernel_rfl
theorem v7:(Tryz.prog.globals[(3:Nat)]?).map (·.type)=some 160:=by kernel_rfl
theorem xF:(Tryz.prog.globals[(1:Nat)]?).map (·.type)=some 143:=by kernel_rfl
theorem zI:Tryz.prog.cellsOf 3=1:=by kernel_rfl
theorem zU:Tryz.prog.cellsOf 5=1:=by kernel_rfl
theorem zS:Tryz.prog.cellsOf 9=1:=by kernel_rfl
theorem zB:Tryz.prog.cellsOf 195=13*1:=by kernel_rfl
theorem zC:Tryz.prog.cellsOf 149=128*1:=by kernel_rfl
theorem zY:Tryz.prog.cellsOf 142=17*1:=by kernel_rfl
theorem z6:Tryz.prog.cellsOf 159=6*1:=by kernel_rfl
theorem zO:Tryz.prog.cellsOf 160=6*6:=by kernel_rfl
theorem zR:Tryz.prog.cellsOf 143=5*1:=by kernel_rfl
def kS:List Int:=[0,31,59,90,120,151,181,212,243,273,304,334,365]
def l7:List (List UInt8):=[[],[101,97,114,110],[100,101,100,117,99,116],[102,108,111,111,114],[105,110,102,111]]
def opsL:List (List (List UInt8)):=[[[111,114],[],[],[],[],[]],[[97,110,100],[],[],[],[],[]],[[],[],[],[],[],[]],[[61,61],[33,61],[60],[60,61],[62],[62,61]],[[43],[45],[],[],[],[]],[[42],[47],[97,116],[],[],[]]]
abbrev PQ (y:List UInt8):DataW Unit:=.lit (.string y)
theorem pN:(Rows.laid_wageoffice_calendar_before:DataW Unit)=.agg (kS.map fun z=>.lit (.int .i64 z)):=by rfl
theorem qQ:(Rows.laid_wageoffice_lexer_classes:DataW Unit)=.agg ((List.range 128).map fun i=>.lit (.int .u8 (Lq i:Nat))):=by rfl
theorem rA:(Rows.laid_wageoffice_lexer_symbols:DataW Unit)=.agg (C9.map PQ):=by rfl
theorem qP:(Rows.laid_wageoffice_parser_operators:DataW Unit)=.agg (opsL.map fun l=>.agg (l.map PQ)):=by rfl
theorem rG:(Rows.laid_wageoffice_parser_roles:DataW Unit)=.agg (l7.map PQ):=by rfl
theorem rE:((begin Tryz.prog (fun _ _=>0) default).world.heap[(7:Nat)]?).bind Obj.row?=some (#[.int .i64 0],3):=by kernel_rfl
theorem gX {W:World} (h:W.ShapedOpen Tryz.prog):∃ m,W.cell? ⟨7,0,none⟩=some (.int .i64 m):=by
 obtain ⟨m,hm⟩:=cell_of_shapedOpen_int h (g:=7) (by decide +kernel) rE rfl (by kernel_rfl) (by kernel_rfl) Tryz.underlying3
 exact ⟨m,hm⟩
theorem MG (c:Cx) (w:World):∀ l:List (List UInt8),Bh c w (l.map Ab) (l.flatMap fun y=>[.string ⟨y.toArray⟩])
 | []=>.nil
 | _::l=>.cons (.sc rfl) (MG c w l)
theorem TO (c:Cx) (w:World):∀ l:List Int,Bh c w (l.map HdU.int) (l.flatMap fun y=>[.int .i64 y])
 | []=>.nil
 | _::l=>.cons (.sc rfl) (TO c w l)
theorem Wj (c:Cx) (w:World):∀ l:List Nat,Bh c w (l.map fun i=>.sc (.int .u8 (Lq i:Nat))) (l.flatMap fun i=>[.int .u8 (Lq i:Nat)])
 | []=>.nil
 | _::l=>.cons (.sc rfl) (Wj c w l)
theorem QU (c:Cx) (w:World):∀ l:List (List (List UInt8)),Bh c w (l.flatMap fun y=>y.map Ab) (l.flatMap fun y=>y.flatMap fun z=>[.string ⟨z.toArray⟩])
 | []=>.nil
 | a::l=>(MG c w a).append (QU c w l)
theorem M9 {W:World} {g:Nat} {l:List AV} {cs:Array Value} (h:∃ t fr,W.heap[g]?=some (.cells cs t fr)) (hr:Bh (Mo.LZ W) W l cs.toList):Az (Mo.LZ W) W g 0 l:=by
 obtain ⟨t,fr,h⟩:=h
 refine Az.Iu hr fun i v hi=>Mo.dV ?_
 rw [Nat.zero_add,cell_of_row W g i cs t fr h]
 rwa [Array.getElem?_toList] at hi
theorem R4 {W:World} (h:laidMetH Tryz.prog Rows.unitsOperandsRow.laid W) (hsh:W.ShapedOpen Tryz.prog):∃ mx,St (HdU.G mx) (Mo.LZ W) W s0:=by
 have h:laidMet Tryz.prog [("math/bits.deBruijn32tab",Rows.laid_math_bits_deBruijn32tab),("math/bits.deBruijn64tab",Rows.laid_math_bits_deBruijn64tab),("internal/strconv.uint64pow10",Rows.laid_internal_strconv_uint64pow10),("unicode/utf8.acceptRanges",Rows.laid_unicode_utf8_acceptRanges),("strconv.ErrRange",Rows.laid_strconv_ErrRange),("strconv.ErrSyntax",Rows.laid_strconv_ErrSyntax),("wageoffice/calendar.before",Rows.laid_wageoffice_calendar_before),("wageoffice/lexer.classes",Rows.laid_wageoffice_lexer_classes),("wageoffice/lexer.symbols",Rows.laid_wageoffice_lexer_symbols),("wageoffice/parser.operators",Rows.laid_wageoffice_parser_operators),("wageoffice/parser.roles",Rows.laid_wageoffice_parser_roles),("unicode/utf8.first",Rows.laid_unicode_utf8_first)] W:=h
 obtain ⟨ps,⟨_,_,_,_,_,_,_,_,_,_,⟨_,_,_,_,_,_,_,_,_,_,⟨_,_,_,_,_,_,_,_,_,_,⟨_,_,_,_,_,_,_,_,_,_,⟨_,_,_,_,_,_,_,_,_,_,⟨_,_,_,_,_,_,_,_,_,_,⟨g7,t7,cs7,f7,p7,q7,hg7,ht7,hv7,hd7,⟨g8,t8,cs8,f8,p8,q8,hg8,ht8,hv8,hd8,⟨g9,t9,cs9,f9,p9,q9,hg9,ht9,hv9,hd9,⟨g10,t10,cs10,f10,p10,q10,hg10,ht10,hv10,hd10,⟨g11,t11,cs11,f11,p11,q11,hg11,ht11,hv11,hd11,_⟩,_⟩,_⟩,_⟩,_⟩,_⟩,_⟩,_⟩,_⟩,_⟩,_⟩,_⟩:=h
 obtain rfl:=Option.some.inj (gB.symm.trans hg7)
 obtain rfl:=Option.some.inj (gC.symm.trans hg8)
 obtain rfl:=Option.some.inj (gS.symm.trans hg9)
 obtain rfl:=Option.some.inj (gO.symm.trans hg10)
 obtain rfl:=Option.some.inj (gR.symm.trans hg11)
 obtain rfl:=Option.some.inj (wR.symm.trans ht7)
 obtain rfl:=Option.some.inj (vK.symm.trans ht8)
 obtain rfl:=Option.some.inj (vH.symm.trans ht9)
 obtain rfl:=Option.some.inj (v7.symm.trans ht10)
 obtain rfl:=Option.some.inj (xF.symm.trans ht11)
 rw [pN] at hd7
 rw [qQ] at hd8
 rw [rA] at hd9
 rw [qP] at hd10
 rw [rG] at hd11
 have e7:=H5 (k:=1) (fun z:Int=>(DataW.lit (.int .i64 z):DataW Unit)) (fun z=>[.int .i64 z]) (fun _=>rfl)
   (fun f c y q hh=>by obtain ⟨z,hc,hz,_⟩:=DataW.trod_int Tryz.underlying3 hh;simp only [Prod.mk.injEq,DataW.lit.injEq,Lit.int.injEq,true_and] at hz;rw [hc,hz.1]) Tryz.underlying195 zI zB hd7
 have e8:=H5 (k:=1) (fun i:Nat=>(DataW.lit (.int .u8 (Lq i:Nat)):DataW Unit)) (fun i=>[.int .u8 (Lq i:Nat)]) (fun _=>rfl)
   (fun f c y q hh=>by obtain ⟨z,hc,hz,_⟩:=DataW.trod_int Tryz.underlying5 hh;simp only [Prod.mk.injEq,DataW.lit.injEq,Lit.int.injEq,true_and] at hz;rw [hc,hz.1]) Tryz.underlying149 zU zC hd8
 have e9:=H5 (k:=1) PQ (fun y=>[.string ⟨y.toArray⟩]) (fun _=>rfl) NN Tryz.underlying142 zS zY hd9
 have pE:=H5 (k:=1) PQ (fun y=>[.string ⟨y.toArray⟩]) (fun _=>rfl) NN Tryz.underlying143 zS zR hd11
 have jS:cs10.toList=opsL.flatMap fun y=>y.flatMap fun z=>[.string ⟨z.toArray⟩]:=by
   obtain ⟨xs,m,_,hx,hl,hxl,hat⟩:=DataW.trod_array Tryz.underlying160 hd10
   have hd:(opsL.map fun l=>(DataW.agg (l.map PQ):DataW Unit))=xs.map (·.1):=by
     have:=congrArg Prod.fst hx
     simpa using this
   rw [zO] at hl
   rw [z6] at hat
   have len6:∀ y∈opsL,(y.flatMap fun z=>[(Value.string ⟨z.toArray⟩:Value)]).length=6:=by decide
   have hget:∀ (i:Nat) y,opsL[i]?=some y→(cs10.toList.drop (i*6)).take 6=y.flatMap fun z=>[.string ⟨z.toArray⟩]:=by
     intro i y hy
     have hi:i < 6:=(List.getElem?_eq_some_iff.1 hy).1
     have h2:=hat i hi
     have hxi:xs[i]?=some xs[i]:=List.getElem?_eq_getElem (by omega)
     rw [hxi] at h2
     have h3:(opsL.map fun l=>(DataW.agg (l.map PQ):DataW Unit))[i]?=(xs.map (·.1))[i]?:=by rw [hd]
     rw [List.getElem?_map,List.getElem?_map,hy,hxi] at h3
     simp only [Option.map_some,Option.some.injEq] at h3
     have h4:xs[i]=(.agg (y.map PQ),xs[i].2):=Prod.ext h3.symm rfl
     rw [h4] at h2
     exact H5 (k:=1) PQ (fun y=>[.string ⟨y.toArray⟩]) (fun _=>rfl) NN Tryz.underlying159 zS z6 h2
   have l6:∀ {l:List (List (List UInt8))} {cs:List Value},(∀ y∈l,(y.flatMap fun z=>[(Value.string ⟨z.toArray⟩:Value)]).length=6)→cs.length=l.length*6→(∀ (i:Nat) y,l[i]?=some y→(cs.drop (i*6)).take 6=y.flatMap fun z=>[.string ⟨z.toArray⟩])→cs=l.flatMap fun y=>y.flatMap fun z=>[.string ⟨z.toArray⟩]:=by
     intro l
     induction l with
     | nil=>intro cs _ h _;exact List.eq_nil_of_length_eq_zero (by simpa using h)
     | cons a l ih =>
       intro cs hq h hc
       have h0:=hc 0 a rfl
       rw [Nat.zero_mul,List.drop_zero] at h0
       have:=ih (cs:=cs.drop 6) (fun y hy=>hq y (by simp [hy])) (by rw [List.length_drop,h,List.length_cons,Nat.succ_mul];omega) fun i y hy=>by
         rw [List.drop_drop]
         have:=hc (i+1) y (by simpa using hy)
         rwa [Nat.succ_mul,Nat.add_comm] at this
       rw [List.flatMap_cons,← h0,← this,List.take_append_drop]
   exact l6 len6 (by rw [hl];rfl) hget
 obtain ⟨mx,hm⟩:=gX hsh
 have hst:=Mo.u7 W
 refine ⟨mx,hst.len,hst.desc,hst.nodup,hst.low,hst.box,hst.rlen,hst.row,hst.rfree,hst.plow,hst.blow,hst.rdist,fun g cs h=>?_,hst.bsz⟩
 unfold HdU.G at h
 split at h
 · rename_i hg;cases h;rw [beq_true hg]
   exact M9 (I9 gO hv10) (by rw [jS];exact QU _ _ opsL)
 · split at h
   · rename_i hg;cases h;rw [beq_true hg]
     exact M9 (I9 gR hv11) (by rw [pE];exact MG _ _ l7)
   · split at h
     · rename_i hg;cases h;rw [beq_true hg]
       exact M9 (I9 gB hv7) (by rw [e7];exact TO _ _ kS)
     · split at h
       · rename_i hg;cases h;rw [beq_true hg]
         exact M9 (I9 gC hv8) (by rw [e8];exact Wj _ _ _)
       · split at h
         · rename_i hg;cases h;rw [beq_true hg]
           exact M9 (I9 gS hv9) (by rw [e9];exact MG _ _ _)
         · split at h
           · rename_i hg;cases h;rw [beq_true hg]
             exact .cons (Mo.dV hm) (.sc rfl) .nil
           · cases h
theorem SA {mx:Int} {f:FuncId} {args:List AV} {vs:List Value} {W:World} (hst:St (HdU.G mx) (Mo.LZ W) W s0) (h:Pure Tryz.prog (HdU.G mx) f args (.sc (.bool true))) (ha:Bh (Mo.LZ W) W args vs):Calls Tryz.prog f vs.toArray W fun e W'=>e=.returned (.bool true)∧Below W.heap.size W W':=by
 refine (h s0 (Mo.LZ W) W vs hst ha).mono ?_
 rintro e w' ⟨c',hx,_,u,rfl,hu⟩
 cases hu
 exact ⟨rfl,hx.below⟩
def gW:DataW Unit→List Value
 | .lit l=>[l.value]
 | _=>[]
def lT:DataW Unit→List Value
 | .agg l=>l.flatMap gW
 | d=>gW d
def J6:DataW Unit→Array Value
 | .agg l=>(l.flatMap lT).toArray
 | d=>(gW d).toArray
def putCells (cs:Array Value):Obj→Obj
 | .cells _ t frozen=>.cells cs t frozen
 | o=>o
noncomputable def low:Nat:=(World.holding Tryz.prog default ⟨#[],#[],[]⟩).heap.size
abbrev oO:ByteArray:={ data:=#[118,97,108,117,101,32,111,117,116,32,111,102,32,114,97,110,103,101] }
abbrev mK:ByteArray:={ data:=#[105,110,118,97,108,105,100,32,115,121,110,116,97,120] }
noncomputable def LN (os:Os):World :=
 let w0:=World.holding Tryz.prog os ⟨#[.cells #[.string oO] 207,.cells #[.string mK] 207],#[],[]⟩
 { w0 with heap:=((((((((((((w0.heap.modify 11 (putCells (J6 Rows.laid_math_bits_deBruijn32tab))).modify
     12 (putCells (J6 Rows.laid_math_bits_deBruijn64tab))).modify
     10 (putCells (J6 Rows.laid_internal_strconv_uint64pow10))).modify
     9 (putCells (J6 Rows.laid_unicode_utf8_acceptRanges))).modify
     5 (putCells #[.iface 205 (.pointer (some ⟨low,0,none⟩))])).modify
     4 (putCells #[.iface 205 (.pointer (some ⟨low+1,0,none⟩))])).modify
     6 (putCells (J6 Rows.laid_wageoffice_calendar_before))).modify
     2 (putCells (J6 Rows.laid_wageoffice_lexer_classes))).modify
     0 (putCells (J6 Rows.laid_wageoffice_lexer_symbols))).modify
     3 (putCells (J6 Rows.laid_wageoffice_parser_operators))).modify
     1 (putCells (J6 Rows.laid_wageoffice_parser_roles))).modify
     8 (putCells (J6 Rows.laid_unicode_utf8_first))) }
theorem WE (os:Os) (args:Array Value):laidMet Tryz.prog Rows.unitsOperandsRow.laid ((LN os).forCall (fun _ _=>0) ⟨#[],args,[]⟩).memory :=
 laidMet_of_run3 8 (by kernel_rfl) (by kernel_rfl) (by kernel_rfl)
end Go.Proofs.YtkfplcngmiljaaaGreatDoor
namespace Go.Proofs.YtkfplcngmiljaaaGreatDoor
open AI
set_option maxRecDepth 100000
set_option maxHeartbeats 4000000
def k0:AV:=Ab [102,97,99,116,32,104,111,117,114,115,32,58,32,109,105,110,117,116,101,115,59,32,102,97,99,116,32,114,97,116,101,32,58,32,69,85,82,59,32,102,97,99,116,32,109,97,114,114,105,101,100,32,58,32,116,114,117,116,104,59,32,108,105,110,101,32,98,97,115,105,99,32,58,32,69,85,82,32,101,97,114,110,59,32,97,114,116,105,99,108,101,32,49,32,102,111,114,32,98,97,115,105,99,32,114,97,110,107,32,49,32,102,114,111,109,32,50,48,50,52,45,48,49,45,48,49,32,107,110,111,119,110,32,50,48,50,52,45,48,49,45,48,49,32,123,32,97,109,111,117,110,116,32,69,85,82,32,49,46,48,48,59,32,125]
def k1:AV:=Ab [109,105,110,117,116,101,115]
def k2:AV:=Ab [109,97,114,114,105,101,100]
def k3:AV:=Ab [97,114,116,105,99,108,101]
def k4:AV:=Ab [50,48,50,52,45,48,49,45,48,49]
def k5:AV:=.sl .lost 37 [(.sc (.int .i64 (.ofNat 1))),(Ab [102,97,99,116]),(.sc (.int .i64 (.ofNat 0))),(.sc (.int .i64 (.ofNat 1))),(Ab [104,111,117,114,115]),(.sc (.int .i64 (.ofNat 5))),(.sc (.int .i64 (.ofNat 6))),(Ab [58]),(.sc (.int .i64 (.ofNat 11))),(.sc (.int .i64 (.ofNat 1))),k1,(.sc (.int .i64 (.ofNat 13))),(.sc (.int .i64 (.ofNat 6))),(Ab [59]),(.sc (.int .i64 (.ofNat 20))),(.sc (.int .i64 (.ofNat 1))),(Ab [102,97,99,116]),(.sc (.int .i64 (.ofNat 22))),(.sc (.int .i64 (.ofNat 1))),(Ab [114,97,116,101]),(.sc (.int .i64 (.ofNat 27))),(.sc (.int .i64 (.ofNat 6))),(Ab [58]),(.sc (.int .i64 (.ofNat 32))),(.sc (.int .i64 (.ofNat 2))),(Ab [69,85,82]),(.sc (.int .i64 (.ofNat 34))),(.sc (.int .i64 (.ofNat 6))),(Ab [59]),(.sc (.int .i64 (.ofNat 37))),(.sc (.int .i64 (.ofNat 1))),(Ab [102,97,99,116]),(.sc (.int .i64 (.ofNat 39))),(.sc (.int .i64 (.ofNat 1))),k2,(.sc (.int .i64 (.ofNat 44))),(.sc (.int .i64 (.ofNat 6))),(Ab [58]),(.sc (.int .i64 (.ofNat 52))),(.sc (.int .i64 (.ofNat 1))),(Ab [116,114,117,116,104]),(.sc (.int .i64 (.ofNat 54))),(.sc (.int .i64 (.ofNat 6))),(Ab [59]),(.sc (.int .i64 (.ofNat 59))),(.sc (.int .i64 (.ofNat 1))),(Ab [108,105,110,101]),(.sc (.int .i64 (.ofNat 61))),(.sc (.int .i64 (.ofNat 1))),(Ab [98,97,115,105,99]),(.sc (.int .i64 (.ofNat 66))),(.sc (.int .i64 (.ofNat 6))),(Ab [58]),(.sc (.int .i64 (.ofNat 72))),(.sc (.int .i64 (.ofNat 2))),(Ab [69,85,82]),(.sc (.int .i64 (.ofNat 74))),(.sc (.int .i64 (.ofNat 1))),(Ab [101,97,114,110]),(.sc (.int .i64 (.ofNat 78))),(.sc (.int .i64 (.ofNat 6))),(Ab [59]),(.sc (.int .i64 (.ofNat 82))),(.sc (.int .i64 (.ofNat 1))),k3,(.sc (.int .i64 (.ofNat 84))),(.sc (.int .i64 (.ofNat 3))),(Ab [49]),(.sc (.int .i64 (.ofNat 92))),(.sc (.int .i64 (.ofNat 1))),(Ab [102,111,114]),(.sc (.int .i64 (.ofNat 94))),(.sc (.int .i64 (.ofNat 1))),(Ab [98,97,115,105,99]),(.sc (.int .i64 (.ofNat 98))),(.sc (.int .i64 (.ofNat 1))),(Ab [114,97,110,107]),(.sc (.int .i64 (.ofNat 104))),(.sc (.int .i64 (.ofNat 3))),(Ab [49]),(.sc (.int .i64 (.ofNat 109))),(.sc (.int .i64 (.ofNat 1))),(Ab [102,114,111,109]),(.sc (.int .i64 (.ofNat 111))),(.sc (.int .i64 (.ofNat 5))),k4,(.sc (.int .i64 (.ofNat 116))),(.sc (.int .i64 (.ofNat 1))),(Ab [107,110,111,119,110]),(.sc (.int .i64 (.ofNat 127))),(.sc (.int .i64 (.ofNat 5))),k4,(.sc (.int .i64 (.ofNat 133))),(.sc (.int .i64 (.ofNat 6))),(Ab [123]),(.sc (.int .i64 (.ofNat 144))),(.sc (.int .i64 (.ofNat 1))),(Ab [97,109,111,117,110,116]),(.sc (.int .i64 (.ofNat 146))),(.sc (.int .i64 (.ofNat 2))),(Ab [69,85,82]),(.sc (.int .i64 (.ofNat 153))),(.sc (.int .i64 (.ofNat 4))),(Ab [49,46,48,48]),(.sc (.int .i64 (.ofNat 157))),(.sc (.int .i64 (.ofNat 6))),(Ab [59]),(.sc (.int .i64 (.ofNat 161))),(.sc (.int .i64 (.ofNat 6))),(Ab [125]),(.sc (.int .i64 (.ofNat 163)))]
def k6:AV:=Ab [104,111,117,114,115,32,97,116,32,114,97,116,101,32,43,32,97,114,116,32,49]
def k7:AV:=.sl .lost 6 [(.sc (.int .i64 (.ofNat 1))),(Ab [104,111,117,114,115]),(.sc (.int .i64 (.ofNat 0))),(.sc (.int .i64 (.ofNat 1))),(Ab [97,116]),(.sc (.int .i64 (.ofNat 6))),(.sc (.int .i64 (.ofNat 1))),(Ab [114,97,116,101]),(.sc (.int .i64 (.ofNat 9))),(.sc (.int .i64 (.ofNat 6))),(Ab [43]),(.sc (.int .i64 (.ofNat 14))),(.sc (.int .i64 (.ofNat 1))),(Ab [97,114,116]),(.sc (.int .i64 (.ofNat 16))),(.sc (.int .i64 (.ofNat 3))),(Ab [49]),(.sc (.int .i64 (.ofNat 20)))]
def k8:AV:=Ab [104,111,117,114,115,32,62,32,56,32,109,105,110,32,97,110,100,32,109,97,114,114,105,101,100]
def k9:AV:=.sl .lost 6 [(.sc (.int .i64 (.ofNat 1))),(Ab [104,111,117,114,115]),(.sc (.int .i64 (.ofNat 0))),(.sc (.int .i64 (.ofNat 6))),(Ab [62]),(.sc (.int .i64 (.ofNat 6))),(.sc (.int .i64 (.ofNat 3))),(Ab [56]),(.sc (.int .i64 (.ofNat 8))),(.sc (.int .i64 (.ofNat 1))),(Ab [109,105,110]),(.sc (.int .i64 (.ofNat 10))),(.sc (.int .i64 (.ofNat 1))),(Ab [97,110,100]),(.sc (.int .i64 (.ofNat 14))),(.sc (.int .i64 (.ofNat 1))),k2,(.sc (.int .i64 (.ofNat 18)))]
def rT:AV:=Ab [110,111,116,32,109,97,114,114,105,101,100,32,61,61,32,116,114,117,101]
def WH:AV:=.sl .lost 4 [(.sc (.int .i64 (.ofNat 1))),(Ab [110,111,116]),(.sc (.int .i64 (.ofNat 0))),(.sc (.int .i64 (.ofNat 1))),k2,(.sc (.int .i64 (.ofNat 4))),(.sc (.int .i64 (.ofNat 6))),(Ab [61,61]),(.sc (.int .i64 (.ofNat 12))),(.sc (.int .i64 (.ofNat 1))),(Ab [116,114,117,101]),(.sc (.int .i64 (.ofNat 15)))]
def Wg:AV:=Ab [114,97,116,101,32,42,32,51,32,47,32,49,48,48]
def V2:AV:=.sl .lost 5 [(.sc (.int .i64 (.ofNat 1))),(Ab [114,97,116,101]),(.sc (.int .i64 (.ofNat 0))),(.sc (.int .i64 (.ofNat 6))),(Ab [42]),(.sc (.int .i64 (.ofNat 5))),(.sc (.int .i64 (.ofNat 3))),(Ab [51]),(.sc (.int .i64 (.ofNat 7))),(.sc (.int .i64 (.ofNat 6))),(Ab [47]),(.sc (.int .i64 (.ofNat 9))),(.sc (.int .i64 (.ofNat 3))),(Ab [49,48,48]),(.sc (.int .i64 (.ofNat 11)))]
def WD:AV:=Ab [50,32,42,32,104,111,117,114,115]
def Ws:AV:=.sl .lost 3 [(.sc (.int .i64 (.ofNat 3))),(Ab [50]),(.sc (.int .i64 (.ofNat 0))),(.sc (.int .i64 (.ofNat 6))),(Ab [42]),(.sc (.int .i64 (.ofNat 2))),(.sc (.int .i64 (.ofNat 1))),(Ab [104,111,117,114,115]),(.sc (.int .i64 (.ofNat 4)))]
def TX:AV:=Ab [114,97,116,101,32,42,32,114,97,116,101]
def XE:AV:=.sl .lost 3 [(.sc (.int .i64 (.ofNat 1))),(Ab [114,97,116,101]),(.sc (.int .i64 (.ofNat 0))),(.sc (.int .i64 (.ofNat 6))),(Ab [42]),(.sc (.int .i64 (.ofNat 5))),(.sc (.int .i64 (.ofNat 1))),(Ab [114,97,116,101]),(.sc (.int .i64 (.ofNat 7)))]
def WJ:AV:=Ab [104,111,117,114,115,32,43,32,49]
def qF:AV:=.sl .lost 3 [(.sc (.int .i64 (.ofNat 1))),(Ab [104,111,117,114,115]),(.sc (.int .i64 (.ofNat 0))),(.sc (.int .i64 (.ofNat 6))),(Ab [43]),(.sc (.int .i64 (.ofNat 6))),(.sc (.int .i64 (.ofNat 3))),(Ab [49]),(.sc (.int .i64 (.ofNat 8)))]
def rL:AV:=.sl .lost 3 [(.sc (.int .i64 (.ofNat 1))),(Ab [120]),(.sc (.int .i64 (.ofNat 0))),(.sc (.int .i64 (.ofNat 6))),(Ab [43]),(.sc (.int .i64 (.ofNat 2))),(.sc (.int .i64 (.ofNat 3))),(Ab [49]),(.sc (.int .i64 (.ofNat 4)))]
def qL:AV:=Ab [116,97,98,108,101,40,104,111,117,114,115,59,32,48,32,58,32,48,32,43,32,49,47,49,48,41]
def qH:AV:=.sl .lost 12 [(.sc (.int .i64 (.ofNat 1))),(Ab [116,97,98,108,101]),(.sc (.int .i64 (.ofNat 0))),(.sc (.int .i64 (.ofNat 6))),(Ab [40]),(.sc (.int .i64 (.ofNat 5))),(.sc (.int .i64 (.ofNat 1))),(Ab [104,111,117,114,115]),(.sc (.int .i64 (.ofNat 6))),(.sc (.int .i64 (.ofNat 6))),(Ab [59]),(.sc (.int .i64 (.ofNat 11))),(.sc (.int .i64 (.ofNat 3))),(Ab [48]),(.sc (.int .i64 (.ofNat 13))),(.sc (.int .i64 (.ofNat 6))),(Ab [58]),(.sc (.int .i64 (.ofNat 15))),(.sc (.int .i64 (.ofNat 3))),(Ab [48]),(.sc (.int .i64 (.ofNat 17))),(.sc (.int .i64 (.ofNat 6))),(Ab [43]),(.sc (.int .i64 (.ofNat 19))),(.sc (.int .i64 (.ofNat 3))),(Ab [49]),(.sc (.int .i64 (.ofNat 21))),(.sc (.int .i64 (.ofNat 6))),(Ab [47]),(.sc (.int .i64 (.ofNat 22))),(.sc (.int .i64 (.ofNat 3))),(Ab [49,48]),(.sc (.int .i64 (.ofNat 23))),(.sc (.int .i64 (.ofNat 6))),(Ab [41]),(.sc (.int .i64 (.ofNat 25)))]
def pI:AV:=Ab [108,101,97,115,116,40,114,97,116,101,44,32,69,85,82,32,49,46,48,48,41]
def rW:AV:=.sl .lost 7 [(.sc (.int .i64 (.ofNat 1))),(Ab [108,101,97,115,116]),(.sc (.int .i64 (.ofNat 0))),(.sc (.int .i64 (.ofNat 6))),(Ab [40]),(.sc (.int .i64 (.ofNat 5))),(.sc (.int .i64 (.ofNat 1))),(Ab [114,97,116,101]),(.sc (.int .i64 (.ofNat 6))),(.sc (.int .i64 (.ofNat 6))),(Ab [44]),(.sc (.int .i64 (.ofNat 10))),(.sc (.int .i64 (.ofNat 2))),(Ab [69,85,82]),(.sc (.int .i64 (.ofNat 12))),(.sc (.int .i64 (.ofNat 4))),(Ab [49,46,48,48]),(.sc (.int .i64 (.ofNat 16))),(.sc (.int .i64 (.ofNat 6))),(Ab [41]),(.sc (.int .i64 (.ofNat 20)))]
def sI:AV:=Ab [102,97,99,116,32,104,111,117,114,115,32,58,32,109,105,110,117,116,101,115,59,32,102,97,99,116,32,114,97,116,101,32,58,32,69,85,82,59,32,102,97,99,116,32,109,97,114,114,105,101,100,32,58,32,116,114,117,116,104,59,32,108,105,110,101,32,98,97,115,105,99,32,58,32,69,85,82,32,101,97,114,110,59,32,97,114,116,105,99,108,101,32,49,32,102,111,114,32,98,97,115,105,99,32,114,97,110,107,32,49,32,102,114,111,109,32,50,48,50,52,45,48,49,45,48,49,32,107,110,111,119,110,32,50,48,50,52,45,48,49,45,48,49,32,123,32,97,109,111,117,110,116,32,69,85,82,32,49,46,48,48,59,32,125,32,108,105,110,101,32,98,97,115,105,99,32,58,32,110,117,109,98,101,114,32,105,110,102,111,59]
def Jo:AV:=.sl .lost 43 [(.sc (.int .i64 (.ofNat 1))),(Ab [102,97,99,116]),(.sc (.int .i64 (.ofNat 0))),(.sc (.int .i64 (.ofNat 1))),(Ab [104,111,117,114,115]),(.sc (.int .i64 (.ofNat 5))),(.sc (.int .i64 (.ofNat 6))),(Ab [58]),(.sc (.int .i64 (.ofNat 11))),(.sc (.int .i64 (.ofNat 1))),k1,(.sc (.int .i64 (.ofNat 13))),(.sc (.int .i64 (.ofNat 6))),(Ab [59]),(.sc (.int .i64 (.ofNat 20))),(.sc (.int .i64 (.ofNat 1))),(Ab [102,97,99,116]),(.sc (.int .i64 (.ofNat 22))),(.sc (.int .i64 (.ofNat 1))),(Ab [114,97,116,101]),(.sc (.int .i64 (.ofNat 27))),(.sc (.int .i64 (.ofNat 6))),(Ab [58]),(.sc (.int .i64 (.ofNat 32))),(.sc (.int .i64 (.ofNat 2))),(Ab [69,85,82]),(.sc (.int .i64 (.ofNat 34))),(.sc (.int .i64 (.ofNat 6))),(Ab [59]),(.sc (.int .i64 (.ofNat 37))),(.sc (.int .i64 (.ofNat 1))),(Ab [102,97,99,116]),(.sc (.int .i64 (.ofNat 39))),(.sc (.int .i64 (.ofNat 1))),k2,(.sc (.int .i64 (.ofNat 44))),(.sc (.int .i64 (.ofNat 6))),(Ab [58]),(.sc (.int .i64 (.ofNat 52))),(.sc (.int .i64 (.ofNat 1))),(Ab [116,114,117,116,104]),(.sc (.int .i64 (.ofNat 54))),(.sc (.int .i64 (.ofNat 6))),(Ab [59]),(.sc (.int .i64 (.ofNat 59))),(.sc (.int .i64 (.ofNat 1))),(Ab [108,105,110,101]),(.sc (.int .i64 (.ofNat 61))),(.sc (.int .i64 (.ofNat 1))),(Ab [98,97,115,105,99]),(.sc (.int .i64 (.ofNat 66))),(.sc (.int .i64 (.ofNat 6))),(Ab [58]),(.sc (.int .i64 (.ofNat 72))),(.sc (.int .i64 (.ofNat 2))),(Ab [69,85,82]),(.sc (.int .i64 (.ofNat 74))),(.sc (.int .i64 (.ofNat 1))),(Ab [101,97,114,110]),(.sc (.int .i64 (.ofNat 78))),(.sc (.int .i64 (.ofNat 6))),(Ab [59]),(.sc (.int .i64 (.ofNat 82))),(.sc (.int .i64 (.ofNat 1))),k3,(.sc (.int .i64 (.ofNat 84))),(.sc (.int .i64 (.ofNat 3))),(Ab [49]),(.sc (.int .i64 (.ofNat 92))),(.sc (.int .i64 (.ofNat 1))),(Ab [102,111,114]),(.sc (.int .i64 (.ofNat 94))),(.sc (.int .i64 (.ofNat 1))),(Ab [98,97,115,105,99]),(.sc (.int .i64 (.ofNat 98))),(.sc (.int .i64 (.ofNat 1))),(Ab [114,97,110,107]),(.sc (.int .i64 (.ofNat 104))),(.sc (.int .i64 (.ofNat 3))),(Ab [49]),(.sc (.int .i64 (.ofNat 109))),(.sc (.int .i64 (.ofNat 1))),(Ab [102,114,111,109]),(.sc (.int .i64 (.ofNat 111))),(.sc (.int .i64 (.ofNat 5))),k4,(.sc (.int .i64 (.ofNat 116))),(.sc (.int .i64 (.ofNat 1))),(Ab [107,110,111,119,110]),(.sc (.int .i64 (.ofNat 127))),(.sc (.int .i64 (.ofNat 5))),k4,(.sc (.int .i64 (.ofNat 133))),(.sc (.int .i64 (.ofNat 6))),(Ab [123]),(.sc (.int .i64 (.ofNat 144))),(.sc (.int .i64 (.ofNat 1))),(Ab [97,109,111,117,110,116]),(.sc (.int .i64 (.ofNat 146))),(.sc (.int .i64 (.ofNat 2))),(Ab [69,85,82]),(.sc (.int .i64 (.ofNat 153))),(.sc (.int .i64 (.ofNat 4))),(Ab [49,46,48,48]),(.sc (.int .i64 (.ofNat 157))),(.sc (.int .i64 (.ofNat 6))),(Ab [59]),(.sc (.int .i64 (.ofNat 161))),(.sc (.int .i64 (.ofNat 6))),(Ab [125]),(.sc (.int .i64 (.ofNat 163))),(.sc (.int .i64 (.ofNat 1))),(Ab [108,105,110,101]),(.sc (.int .i64 (.ofNat 165))),(.sc (.int .i64 (.ofNat 1))),(Ab [98,97,115,105,99]),(.sc (.int .i64 (.ofNat 170))),(.sc (.int .i64 (.ofNat 6))),(Ab [58]),(.sc (.int .i64 (.ofNat 176))),(.sc (.int .i64 (.ofNat 1))),(Ab [110,117,109,98,101,114]),(.sc (.int .i64 (.ofNat 178))),(.sc (.int .i64 (.ofNat 1))),(Ab [105,110,102,111]),(.sc (.int .i64 (.ofNat 185))),(.sc (.int .i64 (.ofNat 6))),(Ab [59]),(.sc (.int .i64 (.ofNat 189)))]
def xD:AV:=.sl .full 2 [(.sc (.int .i64 (.ofNat 12))),(Ab [104,111,117,114,115]),(Ab []),(.sc (.int .i64 (.ofNat 0))),(.sc (.int .i64 (.ofNat 0))),(.sc (.int .i64 (.ofNat 0))),(.sc (.int .i64 (.ofNat 0))),(.sc (.int .i64 (.ofNat 0))),(.sl .full 0 []),(.sl .full 0 []),(.sc (.int .i64 (.ofNat 0))),(.sc (.int .i64 (.ofNat 12))),(Ab [114,97,116,101]),(Ab []),(.sc (.int .i64 (.ofNat 0))),(.sc (.int .i64 (.ofNat 0))),(.sc (.int .i64 (.ofNat 0))),(.sc (.int .i64 (.ofNat 0))),(.sc (.int .i64 (.ofNat 0))),(.sl .full 0 []),(.sl .full 0 []),(.sc (.int .i64 (.ofNat 9)))]
def jP:AV:=.sl .full 2 [(.sc (.int .i64 (.ofNat 16))),(Ab [97,116]),(Ab []),(.sc (.int .i64 (.ofNat 0))),(.sc (.int .i64 (.ofNat 0))),(.sc (.int .i64 (.ofNat 0))),(.sc (.int .i64 (.ofNat 0))),(.sc (.int .i64 (.ofNat 0))),(.sl .full 0 []),xD,(.sc (.int .i64 (.ofNat 0))),(.sc (.int .i64 (.ofNat 13))),(Ab []),(Ab []),(.sc (.int .i64 (.ofNat 1))),(.sc (.int .i64 (.ofNat 0))),(.sc (.int .i64 (.ofNat 0))),(.sc (.int .i64 (.ofNat 0))),(.sc (.int .i64 (.ofNat 0))),(.sl .full 0 []),(.sl .full 0 []),(.sc (.int .i64 (.ofNat 16)))]
def vC:AV:=.sl .full 2 [(.sc (.int .i64 (.ofNat 11))),(Ab []),k1,(.sc (.int .i64 (.ofNat 8))),(.sc (.int .i64 (.ofNat 0))),(.sc (.int .i64 (.ofNat 0))),(.sc (.int .i64 (.ofNat 0))),(.sc (.int .i64 (.ofNat 0))),(.sl .full 0 []),(.sl .full 0 []),(.sc (.int .i64 (.ofNat 8))),(.sc (.int .i64 (.ofNat 12))),(Ab [104,111,117,114,115]),(Ab []),(.sc (.int .i64 (.ofNat 0))),(.sc (.int .i64 (.ofNat 0))),(.sc (.int .i64 (.ofNat 0))),(.sc (.int .i64 (.ofNat 0))),(.sc (.int .i64 (.ofNat 0))),(.sl .full 0 []),(.sl .full 0 []),(.sc (.int .i64 (.ofNat 0)))]
def j3:AV:=.sl .full 2 [(.sc (.int .i64 (.ofNat 16))),(Ab [60]),(Ab []),(.sc (.int .i64 (.ofNat 0))),(.sc (.int .i64 (.ofNat 0))),(.sc (.int .i64 (.ofNat 0))),(.sc (.int .i64 (.ofNat 0))),(.sc (.int .i64 (.ofNat 0))),(.sl .full 0 []),vC,(.sc (.int .i64 (.ofNat 0))),(.sc (.int .i64 (.ofNat 12))),k2,(Ab []),(.sc (.int .i64 (.ofNat 0))),(.sc (.int .i64 (.ofNat 0))),(.sc (.int .i64 (.ofNat 0))),(.sc (.int .i64 (.ofNat 0))),(.sc (.int .i64 (.ofNat 0))),(.sl .full 0 []),(.sl .full 0 []),(.sc (.int .i64 (.ofNat 18)))]
def xY:AV:=.sl .full 2 [(.sc (.int .i64 (.ofNat 12))),k2,(Ab []),(.sc (.int .i64 (.ofNat 0))),(.sc (.int .i64 (.ofNat 0))),(.sc (.int .i64 (.ofNat 0))),(.sc (.int .i64 (.ofNat 0))),(.sc (.int .i64 (.ofNat 0))),(.sl .full 0 []),(.sl .full 0 []),(.sc (.int .i64 (.ofNat 4))),(.sc (.int .i64 (.ofNat 11))),(Ab []),(Ab [116,114,117,116,104]),(.sc (.int .i64 (.ofNat 1))),(.sc (.int .i64 (.ofNat 0))),(.sc (.int .i64 (.ofNat 0))),(.sc (.int .i64 (.ofNat 0))),(.sc (.int .i64 (.ofNat 0))),(.sl .full 0 []),(.sl .full 0 []),(.sc (.int .i64 (.ofNat 15)))]
def kC:AV:=.sl .full 1 [(.sc (.int .i64 (.ofNat 16))),(Ab [61,61]),(Ab []),(.sc (.int .i64 (.ofNat 0))),(.sc (.int .i64 (.ofNat 0))),(.sc (.int .i64 (.ofNat 0))),(.sc (.int .i64 (.ofNat 0))),(.sc (.int .i64 (.ofNat 0))),(.sl .full 0 []),xY,(.sc (.int .i64 (.ofNat 4)))]
def uX:AV:=.sl .full 2 [(.sc (.int .i64 (.ofNat 12))),(Ab [114,97,116,101]),(Ab []),(.sc (.int .i64 (.ofNat 0))),(.sc (.int .i64 (.ofNat 0))),(.sc (.int .i64 (.ofNat 0))),(.sc (.int .i64 (.ofNat 0))),(.sc (.int .i64 (.ofNat 0))),(.sl .full 0 []),(.sl .full 0 []),(.sc (.int .i64 (.ofNat 0))),(.sc (.int .i64 (.ofNat 11))),(Ab []),(Ab [110,117,109,98,101,114]),(.sc (.int .i64 (.ofNat 3))),(.sc (.int .i64 (.ofNat 0))),(.sc (.int .i64 (.ofNat 0))),(.sc (.int .i64 (.ofNat 0))),(.sc (.int .i64 (.ofNat 0))),(.sl .full 0 []),(.sl .full 0 []),(.sc (.int .i64 (.ofNat 7)))]
def j8:AV:=.sl .full 2 [(.sc (.int .i64 (.ofNat 16))),(Ab [42]),(Ab []),(.sc (.int .i64 (.ofNat 0))),(.sc (.int .i64 (.ofNat 0))),(.sc (.int .i64 (.ofNat 0))),(.sc (.int .i64 (.ofNat 0))),(.sc (.int .i64 (.ofNat 0))),(.sl .full 0 []),uX,(.sc (.int .i64 (.ofNat 0))),(.sc (.int .i64 (.ofNat 11))),(Ab []),(Ab [110,117,109,98,101,114]),(.sc (.int .i64 (.ofNat 100))),(.sc (.int .i64 (.ofNat 0))),(.sc (.int .i64 (.ofNat 0))),(.sc (.int .i64 (.ofNat 0))),(.sc (.int .i64 (.ofNat 0))),(.sl .full 0 []),(.sl .full 0 []),(.sc (.int .i64 (.ofNat 11)))]
def e0:BB:=⟨43,[k0],none,(.Bq [k5,(.sc (.int .i64 (.ofNat 0))),(.sc (.int .i64 (.ofNat 0)))])⟩
theorem nT {mx:Int}:Ap Tryz.prog (HdU.G mx) e0:=HdU.Ez _ _ (by kernel_rfl)
def e1:BB:=⟨143,[(Ab [49,46,48,48]),(Ab [46]),(Ab []),(.sc (.int .i64 (.ofNat 1)))],none,(Ab [49,48,48])⟩
theorem GM {mx:Int}:Ap Tryz.prog (HdU.G mx) e1:=HdU.NF _ _ _ _ _ (by kernel_rfl) (by kernel_rfl) (by kernel_rfl)
def e2:BB:=⟨43,[k6],none,(.Bq [k7,(.sc (.int .i64 (.ofNat 0))),(.sc (.int .i64 (.ofNat 0)))])⟩
theorem kJ {mx:Int}:Ap Tryz.prog (HdU.G mx) e2:=HdU.Ez _ _ (by kernel_rfl)
def e3:BB:=⟨43,[k8],none,(.Bq [k9,(.sc (.int .i64 (.ofNat 0))),(.sc (.int .i64 (.ofNat 0)))])⟩
theorem nW {mx:Int}:Ap Tryz.prog (HdU.G mx) e3:=HdU.Ez _ _ (by kernel_rfl)
def e4:BB:=⟨43,[rT],none,(.Bq [WH,(.sc (.int .i64 (.ofNat 0))),(.sc (.int .i64 (.ofNat 0)))])⟩
theorem mU {mx:Int}:Ap Tryz.prog (HdU.G mx) e4:=HdU.Ez _ _ (by kernel_rfl)
def e5:BB:=⟨43,[Wg],none,(.Bq [V2,(.sc (.int .i64 (.ofNat 0))),(.sc (.int .i64 (.ofNat 0)))])⟩
theorem oH {mx:Int}:Ap Tryz.prog (HdU.G mx) e5:=HdU.Ez _ _ (by kernel_rfl)
def e6:BB:=⟨43,[WD],none,(.Bq [Ws,(.sc (.int .i64 (.ofNat 0))),(.sc (.int .i64 (.ofNat 0)))])⟩
theorem nJ {mx:Int}:Ap Tryz.prog (HdU.G mx) e6:=HdU.Ez _ _ (by kernel_rfl)
def e7:BB:=⟨43,[TX],none,(.Bq [XE,(.sc (.int .i64 (.ofNat 0))),(.sc (.int .i64 (.ofNat 0)))])⟩
theorem lE {mx:Int}:Ap Tryz.prog (HdU.G mx) e7:=HdU.Ez _ _ (by kernel_rfl)
def e8:BB:=⟨43,[WJ],none,(.Bq [qF,(.sc (.int .i64 (.ofNat 0))),(.sc (.int .i64 (.ofNat 0)))])⟩
theorem oI {mx:Int}:Ap Tryz.prog (HdU.G mx) e8:=HdU.Ez _ _ (by kernel_rfl)
def e9:BB:=⟨43,[(Ab [120,32,43,32,49])],none,(.Bq [rL,(.sc (.int .i64 (.ofNat 0))),(.sc (.int .i64 (.ofNat 0)))])⟩
theorem kH {mx:Int}:Ap Tryz.prog (HdU.G mx) e9:=HdU.Ez _ _ (by kernel_rfl)
def jS:BB:=⟨43,[(Ab [97,114,116,32,50])],none,(.Bq [(.sl .lost 2 [(.sc (.int .i64 (.ofNat 1))),(Ab [97,114,116]),(.sc (.int .i64 (.ofNat 0))),(.sc (.int .i64 (.ofNat 3))),(Ab [50]),(.sc (.int .i64 (.ofNat 4)))]),(.sc (.int .i64 (.ofNat 0))),(.sc (.int .i64 (.ofNat 0)))])⟩
theorem eC {mx:Int}:Ap Tryz.prog (HdU.G mx) jS:=HdU.Ez _ _ (by kernel_rfl)
def pE:BB:=⟨43,[qL],none,(.Bq [qH,(.sc (.int .i64 (.ofNat 0))),(.sc (.int .i64 (.ofNat 0)))])⟩
theorem jB {mx:Int}:Ap Tryz.prog (HdU.G mx) pE:=HdU.Ez _ _ (by kernel_rfl)
def sN:BB:=⟨43,[pI],none,(.Bq [rW,(.sc (.int .i64 (.ofNat 0))),(.sc (.int .i64 (.ofNat 0)))])⟩
theorem hH {mx:Int}:Ap Tryz.prog (HdU.G mx) sN:=HdU.Ez _ _ (by kernel_rfl)
def sM:BB:=⟨43,[sI],none,(.Bq [Jo,(.sc (.int .i64 (.ofNat 0))),(.sc (.int .i64 (.ofNat 0)))])⟩
theorem dW {mx:Int}:Ap Tryz.prog (HdU.G mx) sM:=HdU.Ez _ _ (by kernel_rfl)
def Pw:BB:=⟨137,[(Ab [48])],none,(.Bq [(.sc (.int .i64 (.ofNat 0))),(.sc .nilIface)])⟩
theorem DL {mx:Int}:Ap Tryz.prog (HdU.G mx) Pw:=HdU.GI _ _ (by kernel_rfl) (by kernel_rfl)
def Pb:BB:=⟨137,[(Ab [49])],none,(.Bq [(.sc (.int .i64 (.ofNat 1))),(.sc .nilIface)])⟩
theorem DE {mx:Int}:Ap Tryz.prog (HdU.G mx) Pb:=HdU.GI _ _ (by kernel_rfl) (by kernel_rfl)
def O6:BB:=⟨137,[(Ab [49,48])],none,(.Bq [(.sc (.int .i64 (.ofNat 10))),(.sc .nilIface)])⟩
theorem DM {mx:Int}:Ap Tryz.prog (HdU.G mx) O6:=HdU.GI _ _ (by kernel_rfl) (by kernel_rfl)
def O5:BB:=⟨137,[(Ab [49,48,48])],none,(.Bq [(.sc (.int .i64 (.ofNat 100))),(.sc .nilIface)])⟩
theorem DP {mx:Int}:Ap Tryz.prog (HdU.G mx) O5:=HdU.GI _ _ (by kernel_rfl) (by kernel_rfl)
def Pn:BB:=⟨137,[(Ab [50])],none,(.Bq [(.sc (.int .i64 (.ofNat 2))),(.sc .nilIface)])⟩
theorem DJ {mx:Int}:Ap Tryz.prog (HdU.G mx) Pn:=HdU.GI _ _ (by kernel_rfl) (by kernel_rfl)
def OT:BB:=⟨137,[(Ab [51])],none,(.Bq [(.sc (.int .i64 (.ofNat 3))),(.sc .nilIface)])⟩
theorem DO {mx:Int}:Ap Tryz.prog (HdU.G mx) OT:=HdU.GI _ _ (by kernel_rfl) (by kernel_rfl)
def OJ:BB:=⟨137,[(Ab [56])],none,(.Bq [(.sc (.int .i64 (.ofNat 8))),(.sc .nilIface)])⟩
theorem DR {mx:Int}:Ap Tryz.prog (HdU.G mx) OJ:=HdU.GI _ _ (by kernel_rfl) (by kernel_rfl)
def RI:BB:=⟨143,[(Ab [62]),(Ab [62]),(Ab [60]),(.sc (.int .i64 (.ofNat 1)))],none,(Ab [60])⟩
theorem EZ {mx:Int}:Ap Tryz.prog (HdU.G mx) RI:=HdU.NF _ _ _ _ _ (by kernel_rfl) (by kernel_rfl) (by kernel_rfl)
def RL:BB:=⟨143,[(Ab [48]),(Ab [46]),(Ab []),(.sc (.int .i64 (.ofNat 1)))],none,(Ab [48])⟩
theorem EY {mx:Int}:Ap Tryz.prog (HdU.G mx) RL:=HdU.NF _ _ _ _ _ (by kernel_rfl) (by kernel_rfl) (by kernel_rfl)
def uH:BB:=⟨75,[],(some ([k7,(.sc (.int .i64 (.ofNat 0))),(.sc (.int .i64 (.ofNat 21)))],[k7,(.sc (.int .i64 (.ofNat 6))),(.sc (.int .i64 (.ofNat 21)))])),(.agg [(.sc (.int .i64 (.ofNat 16))),(Ab [43]),(Ab []),(.sc (.int .i64 (.ofNat 0))),(.sc (.int .i64 (.ofNat 0))),(.sc (.int .i64 (.ofNat 0))),(.sc (.int .i64 (.ofNat 0))),(.sc (.int .i64 (.ofNat 0))),(.sl .full 0 []),jP,(.sc (.int .i64 (.ofNat 0)))])⟩
theorem eN {mx:Int}:Ap Tryz.prog (HdU.G mx) uH:=HdU.entry (l:=[e1,Pw,Pb,O6,O5,Pn,OT,OJ,RI,RL]) (m:=1000000) (Aa.cons GM (Aa.cons DL (Aa.cons DE (Aa.cons DM (Aa.cons DP (Aa.cons DJ (Aa.cons DO (Aa.cons DR (Aa.cons EZ (Aa.cons EY HdU.none)))))))))) (by kernel_rfl) (by kernel_rfl)
def Vc:BB:=⟨47,[(.agg [(.sc (.int .i64 (.ofNat 16))),(Ab [43]),(Ab []),(.sc (.int .i64 (.ofNat 0))),(.sc (.int .i64 (.ofNat 0))),(.sc (.int .i64 (.ofNat 0))),(.sc (.int .i64 (.ofNat 0))),(.sc (.int .i64 (.ofNat 0))),(.sl .full 0 []),jP,(.sc (.int .i64 (.ofNat 0)))])],none,(.Bq [(.agg [(.sc (.int .i64 (.ofNat 16))),(Ab [43]),(Ab []),(.sc (.int .i64 (.ofNat 0))),(.sc (.int .i64 (.ofNat 0))),(.sc (.int .i64 (.ofNat 0))),(.sc (.int .i64 (.ofNat 0))),(.sc (.int .i64 (.ofNat 0))),(.sl .full 0 []),jP,(.sc (.int .i64 (.ofNat 0)))]),(.sl .full 0 [])])⟩
theorem G8 {mx:Int}:Ap Tryz.prog (HdU.G mx) Vc:=HdU.entry (l:=[]) (m:=1000000) HdU.none (by kernel_rfl) (by kernel_rfl)
def sK:BB:=⟨48,[k6],none,(.Bq [(.agg [(.sc (.int .i64 (.ofNat 16))),(Ab [43]),(Ab []),(.sc (.int .i64 (.ofNat 0))),(.sc (.int .i64 (.ofNat 0))),(.sc (.int .i64 (.ofNat 0))),(.sc (.int .i64 (.ofNat 0))),(.sc (.int .i64 (.ofNat 0))),(.sl .full 0 []),jP,(.sc (.int .i64 (.ofNat 0)))]),(.sl .full 0 [])])⟩
theorem eL {mx:Int}:Ap Tryz.prog (HdU.G mx) sK:=HdU.entry (l:=[e2,uH,Vc]) (m:=1000000) (Aa.cons kJ (Aa.cons eN (Aa.cons G8 HdU.none))) (by kernel_rfl) (by kernel_rfl)
def tJ:BB:=⟨75,[],(some ([k9,(.sc (.int .i64 (.ofNat 0))),(.sc (.int .i64 (.ofNat 25)))],[k9,(.sc (.int .i64 (.ofNat 6))),(.sc (.int .i64 (.ofNat 25)))])),(.agg [(.sc (.int .i64 (.ofNat 16))),(Ab [97,110,100]),(Ab []),(.sc (.int .i64 (.ofNat 0))),(.sc (.int .i64 (.ofNat 0))),(.sc (.int .i64 (.ofNat 0))),(.sc (.int .i64 (.ofNat 0))),(.sc (.int .i64 (.ofNat 0))),(.sl .full 0 []),j3,(.sc (.int .i64 (.ofNat 0)))])⟩
theorem iE {mx:Int}:Ap Tryz.prog (HdU.G mx) tJ:=HdU.entry (l:=[e1,Pw,Pb,O6,O5,Pn,OT,OJ,RI,RL]) (m:=1000000) (Aa.cons GM (Aa.cons DL (Aa.cons DE (Aa.cons DM (Aa.cons DP (Aa.cons DJ (Aa.cons DO (Aa.cons DR (Aa.cons EZ (Aa.cons EY HdU.none)))))))))) (by kernel_rfl) (by kernel_rfl)
def Vk:BB:=⟨47,[(.agg [(.sc (.int .i64 (.ofNat 16))),(Ab [97,110,100]),(Ab []),(.sc (.int .i64 (.ofNat 0))),(.sc (.int .i64 (.ofNat 0))),(.sc (.int .i64 (.ofNat 0))),(.sc (.int .i64 (.ofNat 0))),(.sc (.int .i64 (.ofNat 0))),(.sl .full 0 []),j3,(.sc (.int .i64 (.ofNat 0)))])],none,(.Bq [(.agg [(.sc (.int .i64 (.ofNat 16))),(Ab [97,110,100]),(Ab []),(.sc (.int .i64 (.ofNat 0))),(.sc (.int .i64 (.ofNat 0))),(.sc (.int .i64 (.ofNat 0))),(.sc (.int .i64 (.ofNat 0))),(.sc (.int .i64 (.ofNat 0))),(.sl .full 0 []),j3,(.sc (.int .i64 (.ofNat 0)))]),(.sl .full 0 [])])⟩
theorem Hs {mx:Int}:Ap Tryz.prog (HdU.G mx) Vk:=HdU.entry (l:=[]) (m:=1000000) HdU.none (by kernel_rfl) (by kernel_rfl)
def tD:BB:=⟨48,[k8],none,(.Bq [(.agg [(.sc (.int .i64 (.ofNat 16))),(Ab [97,110,100]),(Ab []),(.sc (.int .i64 (.ofNat 0))),(.sc (.int .i64 (.ofNat 0))),(.sc (.int .i64 (.ofNat 0))),(.sc (.int .i64 (.ofNat 0))),(.sc (.int .i64 (.ofNat 0))),(.sl .full 0 []),j3,(.sc (.int .i64 (.ofNat 0)))]),(.sl .full 0 [])])⟩
theorem dH {mx:Int}:Ap Tryz.prog (HdU.G mx) tD:=HdU.entry (l:=[e3,Vc,tJ,Vk]) (m:=1000000) (Aa.cons nW (Aa.cons G8 (Aa.cons iE (Aa.cons Hs HdU.none)))) (by kernel_rfl) (by kernel_rfl)
def sR:BB:=⟨75,[],(some ([WH,(.sc (.int .i64 (.ofNat 0))),(.sc (.int .i64 (.ofNat 19)))],[WH,(.sc (.int .i64 (.ofNat 4))),(.sc (.int .i64 (.ofNat 19)))])),(.agg [(.sc (.int .i64 (.ofNat 15))),(Ab []),(Ab []),(.sc (.int .i64 (.ofNat 0))),(.sc (.int .i64 (.ofNat 0))),(.sc (.int .i64 (.ofNat 0))),(.sc (.int .i64 (.ofNat 0))),(.sc (.int .i64 (.ofNat 0))),(.sl .full 0 []),kC,(.sc (.int .i64 (.ofNat 0)))])⟩
theorem jI {mx:Int}:Ap Tryz.prog (HdU.G mx) sR:=HdU.entry (l:=[e1,Pw,Pb,O6,O5,Pn,OT,OJ,RI,RL]) (m:=1000000) (Aa.cons GM (Aa.cons DL (Aa.cons DE (Aa.cons DM (Aa.cons DP (Aa.cons DJ (Aa.cons DO (Aa.cons DR (Aa.cons EZ (Aa.cons EY HdU.none)))))))))) (by kernel_rfl) (by kernel_rfl)
def XU:BB:=⟨47,[(.agg [(.sc (.int .i64 (.ofNat 15))),(Ab []),(Ab []),(.sc (.int .i64 (.ofNat 0))),(.sc (.int .i64 (.ofNat 0))),(.sc (.int .i64 (.ofNat 0))),(.sc (.int .i64 (.ofNat 0))),(.sc (.int .i64 (.ofNat 0))),(.sl .full 0 []),kC,(.sc (.int .i64 (.ofNat 0)))])],none,(.Bq [(.agg [(.sc (.int .i64 (.ofNat 15))),(Ab []),(Ab []),(.sc (.int .i64 (.ofNat 0))),(.sc (.int .i64 (.ofNat 0))),(.sc (.int .i64 (.ofNat 0))),(.sc (.int .i64 (.ofNat 0))),(.sc (.int .i64 (.ofNat 0))),(.sl .full 0 []),kC,(.sc (.int .i64 (.ofNat 0)))]),(.sl .full 0 [])])⟩
theorem Io {mx:Int}:Ap Tryz.prog (HdU.G mx) XU:=HdU.entry (l:=[]) (m:=1000000) HdU.none (by kernel_rfl) (by kernel_rfl)
def uC:BB:=⟨48,[rT],none,(.Bq [(.agg [(.sc (.int .i64 (.ofNat 15))),(Ab []),(Ab []),(.sc (.int .i64 (.ofNat 0))),(.sc (.int .i64 (.ofNat 0))),(.sc (.int .i64 (.ofNat 0))),(.sc (.int .i64 (.ofNat 0))),(.sc (.int .i64 (.ofNat 0))),(.sl .full 0 []),kC,(.sc (.int .i64 (.ofNat 0)))]),(.sl .full 0 [])])⟩
theorem jF {mx:Int}:Ap Tryz.prog (HdU.G mx) uC:=HdU.entry (l:=[e4,Vc,Vk,sR,XU]) (m:=1000000) (Aa.cons mU (Aa.cons G8 (Aa.cons Hs (Aa.cons jI (Aa.cons Io HdU.none))))) (by kernel_rfl) (by kernel_rfl)
def tL:BB:=⟨75,[],(some ([V2,(.sc (.int .i64 (.ofNat 0))),(.sc (.int .i64 (.ofNat 14)))],[V2,(.sc (.int .i64 (.ofNat 5))),(.sc (.int .i64 (.ofNat 14)))])),(.agg [(.sc (.int .i64 (.ofNat 16))),(Ab [47]),(Ab []),(.sc (.int .i64 (.ofNat 0))),(.sc (.int .i64 (.ofNat 0))),(.sc (.int .i64 (.ofNat 0))),(.sc (.int .i64 (.ofNat 0))),(.sc (.int .i64 (.ofNat 0))),(.sl .full 0 []),j8,(.sc (.int .i64 (.ofNat 0)))])⟩
theorem cT {mx:Int}:Ap Tryz.prog (HdU.G mx) tL:=HdU.entry (l:=[e1,Pw,Pb,O6,O5,Pn,OT,OJ,RI,RL]) (m:=1000000) (Aa.cons GM (Aa.cons DL (Aa.cons DE (Aa.cons DM (Aa.cons DP (Aa.cons DJ (Aa.cons DO (Aa.cons DR (Aa.cons EZ (Aa.cons EY HdU.none)))))))))) (by kernel_rfl) (by kernel_rfl)
end Go.Proofs.YtkfplcngmiljaaaGreatDoor
namespace Go.Proofs.YtkfplcngmiljaaaGreatDoor
open AI
set_option maxRecDepth 100000
set_option maxHeartbeats 4000000
def j4:AV:=.sl .full 2 [(.sc (.int .i64 (.ofNat 11))),(Ab []),(Ab [110,117,109,98,101,114]),(.sc (.int .i64 (.ofNat 2))),(.sc (.int .i64 (.ofNat 0))),(.sc (.int .i64 (.ofNat 0))),(.sc (.int .i64 (.ofNat 0))),(.sc (.int .i64 (.ofNat 0))),(.sl .full 0 []),(.sl .full 0 []),(.sc (.int .i64 (.ofNat 0))),(.sc (.int .i64 (.ofNat 12))),(Ab [104,111,117,114,115]),(Ab []),(.sc (.int .i64 (.ofNat 0))),(.sc (.int .i64 (.ofNat 0))),(.sc (.int .i64 (.ofNat 0))),(.sc (.int .i64 (.ofNat 0))),(.sc (.int .i64 (.ofNat 0))),(.sl .full 0 []),(.sl .full 0 []),(.sc (.int .i64 (.ofNat 4)))]
def jR:AV:=.sl .full 2 [(.sc (.int .i64 (.ofNat 12))),(Ab [114,97,116,101]),(Ab []),(.sc (.int .i64 (.ofNat 0))),(.sc (.int .i64 (.ofNat 0))),(.sc (.int .i64 (.ofNat 0))),(.sc (.int .i64 (.ofNat 0))),(.sc (.int .i64 (.ofNat 0))),(.sl .full 0 []),(.sl .full 0 []),(.sc (.int .i64 (.ofNat 0))),(.sc (.int .i64 (.ofNat 12))),(Ab [114,97,116,101]),(Ab []),(.sc (.int .i64 (.ofNat 0))),(.sc (.int .i64 (.ofNat 0))),(.sc (.int .i64 (.ofNat 0))),(.sc (.int .i64 (.ofNat 0))),(.sc (.int .i64 (.ofNat 0))),(.sl .full 0 []),(.sl .full 0 []),(.sc (.int .i64 (.ofNat 7)))]
def kA:AV:=.sl .full 2 [(.sc (.int .i64 (.ofNat 12))),(Ab [104,111,117,114,115]),(Ab []),(.sc (.int .i64 (.ofNat 0))),(.sc (.int .i64 (.ofNat 0))),(.sc (.int .i64 (.ofNat 0))),(.sc (.int .i64 (.ofNat 0))),(.sc (.int .i64 (.ofNat 0))),(.sl .full 0 []),(.sl .full 0 []),(.sc (.int .i64 (.ofNat 0))),(.sc (.int .i64 (.ofNat 11))),(Ab []),(Ab [110,117,109,98,101,114]),(.sc (.int .i64 (.ofNat 1))),(.sc (.int .i64 (.ofNat 0))),(.sc (.int .i64 (.ofNat 0))),(.sc (.int .i64 (.ofNat 0))),(.sc (.int .i64 (.ofNat 0))),(.sl .full 0 []),(.sl .full 0 []),(.sc (.int .i64 (.ofNat 8)))]
def kE:AV:=.sl .full 2 [(.sc (.int .i64 (.ofNat 12))),(Ab [120]),(Ab []),(.sc (.int .i64 (.ofNat 0))),(.sc (.int .i64 (.ofNat 0))),(.sc (.int .i64 (.ofNat 0))),(.sc (.int .i64 (.ofNat 0))),(.sc (.int .i64 (.ofNat 0))),(.sl .full 0 []),(.sl .full 0 []),(.sc (.int .i64 (.ofNat 0))),(.sc (.int .i64 (.ofNat 11))),(Ab []),(Ab [110,117,109,98,101,114]),(.sc (.int .i64 (.ofNat 1))),(.sc (.int .i64 (.ofNat 0))),(.sc (.int .i64 (.ofNat 0))),(.sc (.int .i64 (.ofNat 0))),(.sc (.int .i64 (.ofNat 0))),(.sl .full 0 []),(.sl .full 0 []),(.sc (.int .i64 (.ofNat 4)))]
def jQ:AV:=.sl .full 1 [(.sc (.int .i64 (.ofNat 12))),(Ab [104,111,117,114,115]),(Ab []),(.sc (.int .i64 (.ofNat 0))),(.sc (.int .i64 (.ofNat 0))),(.sc (.int .i64 (.ofNat 0))),(.sc (.int .i64 (.ofNat 0))),(.sc (.int .i64 (.ofNat 0))),(.sl .full 0 []),(.sl .full 0 []),(.sc (.int .i64 (.ofNat 6)))]
def Yr:BB:=⟨47,[(.agg [(.sc (.int .i64 (.ofNat 16))),(Ab [47]),(Ab []),(.sc (.int .i64 (.ofNat 0))),(.sc (.int .i64 (.ofNat 0))),(.sc (.int .i64 (.ofNat 0))),(.sc (.int .i64 (.ofNat 0))),(.sc (.int .i64 (.ofNat 0))),(.sl .full 0 []),j8,(.sc (.int .i64 (.ofNat 0)))])],none,(.Bq [(.agg [(.sc (.int .i64 (.ofNat 16))),(Ab [47]),(Ab []),(.sc (.int .i64 (.ofNat 0))),(.sc (.int .i64 (.ofNat 0))),(.sc (.int .i64 (.ofNat 0))),(.sc (.int .i64 (.ofNat 0))),(.sc (.int .i64 (.ofNat 0))),(.sl .full 0 []),j8,(.sc (.int .i64 (.ofNat 0)))]),(.sl .full 0 [])])⟩
theorem Jz {mx:Int}:Ap Tryz.prog (HdU.G mx) Yr:=HdU.entry (l:=[]) (m:=1000000) HdU.none (by kernel_rfl) (by kernel_rfl)
def uM:BB:=⟨48,[Wg],none,(.Bq [(.agg [(.sc (.int .i64 (.ofNat 16))),(Ab [47]),(Ab []),(.sc (.int .i64 (.ofNat 0))),(.sc (.int .i64 (.ofNat 0))),(.sc (.int .i64 (.ofNat 0))),(.sc (.int .i64 (.ofNat 0))),(.sc (.int .i64 (.ofNat 0))),(.sl .full 0 []),j8,(.sc (.int .i64 (.ofNat 0)))]),(.sl .full 0 [])])⟩
theorem jD {mx:Int}:Ap Tryz.prog (HdU.G mx) uM:=HdU.entry (l:=[e5,Vc,Vk,XU,tL,Yr]) (m:=1000000) (Aa.cons oH (Aa.cons G8 (Aa.cons Hs (Aa.cons Io (Aa.cons cT (Aa.cons Jz HdU.none)))))) (by kernel_rfl) (by kernel_rfl)
def sF:BB:=⟨75,[],(some ([Ws,(.sc (.int .i64 (.ofNat 0))),(.sc (.int .i64 (.ofNat 9)))],[Ws,(.sc (.int .i64 (.ofNat 3))),(.sc (.int .i64 (.ofNat 9)))])),(.agg [(.sc (.int .i64 (.ofNat 16))),(Ab [42]),(Ab []),(.sc (.int .i64 (.ofNat 0))),(.sc (.int .i64 (.ofNat 0))),(.sc (.int .i64 (.ofNat 0))),(.sc (.int .i64 (.ofNat 0))),(.sc (.int .i64 (.ofNat 0))),(.sl .full 0 []),j4,(.sc (.int .i64 (.ofNat 0)))])⟩
theorem hZ {mx:Int}:Ap Tryz.prog (HdU.G mx) sF:=HdU.entry (l:=[e1,Pw,Pb,O6,O5,Pn,OT,OJ,RI,RL]) (m:=1000000) (Aa.cons GM (Aa.cons DL (Aa.cons DE (Aa.cons DM (Aa.cons DP (Aa.cons DJ (Aa.cons DO (Aa.cons DR (Aa.cons EZ (Aa.cons EY HdU.none)))))))))) (by kernel_rfl) (by kernel_rfl)
def bB:BB:=⟨47,[(.agg [(.sc (.int .i64 (.ofNat 16))),(Ab [42]),(Ab []),(.sc (.int .i64 (.ofNat 0))),(.sc (.int .i64 (.ofNat 0))),(.sc (.int .i64 (.ofNat 0))),(.sc (.int .i64 (.ofNat 0))),(.sc (.int .i64 (.ofNat 0))),(.sl .full 0 []),j4,(.sc (.int .i64 (.ofNat 0)))])],none,(.Bq [(.agg [(.sc (.int .i64 (.ofNat 16))),(Ab [42]),(Ab []),(.sc (.int .i64 (.ofNat 0))),(.sc (.int .i64 (.ofNat 0))),(.sc (.int .i64 (.ofNat 0))),(.sc (.int .i64 (.ofNat 0))),(.sc (.int .i64 (.ofNat 0))),(.sl .full 0 []),j4,(.sc (.int .i64 (.ofNat 0)))]),(.sl .full 0 [])])⟩
theorem Kv {mx:Int}:Ap Tryz.prog (HdU.G mx) bB:=HdU.entry (l:=[]) (m:=1000000) HdU.none (by kernel_rfl) (by kernel_rfl)
def tB:BB:=⟨48,[WD],none,(.Bq [(.agg [(.sc (.int .i64 (.ofNat 16))),(Ab [42]),(Ab []),(.sc (.int .i64 (.ofNat 0))),(.sc (.int .i64 (.ofNat 0))),(.sc (.int .i64 (.ofNat 0))),(.sc (.int .i64 (.ofNat 0))),(.sc (.int .i64 (.ofNat 0))),(.sl .full 0 []),j4,(.sc (.int .i64 (.ofNat 0)))]),(.sl .full 0 [])])⟩
theorem hJ {mx:Int}:Ap Tryz.prog (HdU.G mx) tB:=HdU.entry (l:=[e6,Vc,Vk,XU,Yr,sF,bB]) (m:=1000000) (Aa.cons nJ (Aa.cons G8 (Aa.cons Hs (Aa.cons Io (Aa.cons Jz (Aa.cons hZ (Aa.cons Kv HdU.none))))))) (by kernel_rfl) (by kernel_rfl)
def s8:BB:=⟨75,[],(some ([XE,(.sc (.int .i64 (.ofNat 0))),(.sc (.int .i64 (.ofNat 11)))],[XE,(.sc (.int .i64 (.ofNat 3))),(.sc (.int .i64 (.ofNat 11)))])),(.agg [(.sc (.int .i64 (.ofNat 16))),(Ab [42]),(Ab []),(.sc (.int .i64 (.ofNat 0))),(.sc (.int .i64 (.ofNat 0))),(.sc (.int .i64 (.ofNat 0))),(.sc (.int .i64 (.ofNat 0))),(.sc (.int .i64 (.ofNat 0))),(.sl .full 0 []),jR,(.sc (.int .i64 (.ofNat 0)))])⟩
theorem cY {mx:Int}:Ap Tryz.prog (HdU.G mx) s8:=HdU.entry (l:=[e1,Pw,Pb,O6,O5,Pn,OT,OJ,RI,RL]) (m:=1000000) (Aa.cons GM (Aa.cons DL (Aa.cons DE (Aa.cons DM (Aa.cons DP (Aa.cons DJ (Aa.cons DO (Aa.cons DR (Aa.cons EZ (Aa.cons EY HdU.none)))))))))) (by kernel_rfl) (by kernel_rfl)
def eM:BB:=⟨47,[(.agg [(.sc (.int .i64 (.ofNat 16))),(Ab [42]),(Ab []),(.sc (.int .i64 (.ofNat 0))),(.sc (.int .i64 (.ofNat 0))),(.sc (.int .i64 (.ofNat 0))),(.sc (.int .i64 (.ofNat 0))),(.sc (.int .i64 (.ofNat 0))),(.sl .full 0 []),jR,(.sc (.int .i64 (.ofNat 0)))])],none,(.Bq [(.agg [(.sc (.int .i64 (.ofNat 16))),(Ab [42]),(Ab []),(.sc (.int .i64 (.ofNat 0))),(.sc (.int .i64 (.ofNat 0))),(.sc (.int .i64 (.ofNat 0))),(.sc (.int .i64 (.ofNat 0))),(.sc (.int .i64 (.ofNat 0))),(.sl .full 0 []),jR,(.sc (.int .i64 (.ofNat 0)))]),(.sl .full 0 [])])⟩
theorem Lw {mx:Int}:Ap Tryz.prog (HdU.G mx) eM:=HdU.entry (l:=[]) (m:=1000000) HdU.none (by kernel_rfl) (by kernel_rfl)
def sO:BB:=⟨48,[TX],none,(.Bq [(.agg [(.sc (.int .i64 (.ofNat 16))),(Ab [42]),(Ab []),(.sc (.int .i64 (.ofNat 0))),(.sc (.int .i64 (.ofNat 0))),(.sc (.int .i64 (.ofNat 0))),(.sc (.int .i64 (.ofNat 0))),(.sc (.int .i64 (.ofNat 0))),(.sl .full 0 []),jR,(.sc (.int .i64 (.ofNat 0)))]),(.sl .full 0 [])])⟩
theorem fH {mx:Int}:Ap Tryz.prog (HdU.G mx) sO:=HdU.entry (l:=[e7,Vc,Vk,XU,Yr,bB,s8,eM]) (m:=1000000) (Aa.cons lE (Aa.cons G8 (Aa.cons Hs (Aa.cons Io (Aa.cons Jz (Aa.cons Kv (Aa.cons cY (Aa.cons Lw HdU.none)))))))) (by kernel_rfl) (by kernel_rfl)
def sB:BB:=⟨75,[],(some ([qF,(.sc (.int .i64 (.ofNat 0))),(.sc (.int .i64 (.ofNat 9)))],[qF,(.sc (.int .i64 (.ofNat 3))),(.sc (.int .i64 (.ofNat 9)))])),(.agg [(.sc (.int .i64 (.ofNat 16))),(Ab [43]),(Ab []),(.sc (.int .i64 (.ofNat 0))),(.sc (.int .i64 (.ofNat 0))),(.sc (.int .i64 (.ofNat 0))),(.sc (.int .i64 (.ofNat 0))),(.sc (.int .i64 (.ofNat 0))),(.sl .full 0 []),kA,(.sc (.int .i64 (.ofNat 0)))])⟩
theorem hP {mx:Int}:Ap Tryz.prog (HdU.G mx) sB:=HdU.entry (l:=[e1,Pw,Pb,O6,O5,Pn,OT,OJ,RI,RL]) (m:=1000000) (Aa.cons GM (Aa.cons DL (Aa.cons DE (Aa.cons DM (Aa.cons DP (Aa.cons DJ (Aa.cons DO (Aa.cons DR (Aa.cons EZ (Aa.cons EY HdU.none)))))))))) (by kernel_rfl) (by kernel_rfl)
def kB:BB:=⟨47,[(.agg [(.sc (.int .i64 (.ofNat 16))),(Ab [43]),(Ab []),(.sc (.int .i64 (.ofNat 0))),(.sc (.int .i64 (.ofNat 0))),(.sc (.int .i64 (.ofNat 0))),(.sc (.int .i64 (.ofNat 0))),(.sc (.int .i64 (.ofNat 0))),(.sl .full 0 []),kA,(.sc (.int .i64 (.ofNat 0)))])],none,(.Bq [(.agg [(.sc (.int .i64 (.ofNat 16))),(Ab [43]),(Ab []),(.sc (.int .i64 (.ofNat 0))),(.sc (.int .i64 (.ofNat 0))),(.sc (.int .i64 (.ofNat 0))),(.sc (.int .i64 (.ofNat 0))),(.sc (.int .i64 (.ofNat 0))),(.sl .full 0 []),kA,(.sc (.int .i64 (.ofNat 0)))]),(.sl .full 0 [])])⟩
theorem No {mx:Int}:Ap Tryz.prog (HdU.G mx) kB:=HdU.entry (l:=[]) (m:=1000000) HdU.none (by kernel_rfl) (by kernel_rfl)
def uA:BB:=⟨48,[WJ],none,(.Bq [(.agg [(.sc (.int .i64 (.ofNat 16))),(Ab [43]),(Ab []),(.sc (.int .i64 (.ofNat 0))),(.sc (.int .i64 (.ofNat 0))),(.sc (.int .i64 (.ofNat 0))),(.sc (.int .i64 (.ofNat 0))),(.sc (.int .i64 (.ofNat 0))),(.sl .full 0 []),kA,(.sc (.int .i64 (.ofNat 0)))]),(.sl .full 0 [])])⟩
theorem dI {mx:Int}:Ap Tryz.prog (HdU.G mx) uA:=HdU.entry (l:=[e8,Vc,Vk,XU,Yr,bB,eM,sB,kB]) (m:=1000000) (Aa.cons oI (Aa.cons G8 (Aa.cons Hs (Aa.cons Io (Aa.cons Jz (Aa.cons Kv (Aa.cons Lw (Aa.cons hP (Aa.cons No HdU.none))))))))) (by kernel_rfl) (by kernel_rfl)
def sZ:BB:=⟨75,[],(some ([rL,(.sc (.int .i64 (.ofNat 0))),(.sc (.int .i64 (.ofNat 5)))],[rL,(.sc (.int .i64 (.ofNat 3))),(.sc (.int .i64 (.ofNat 5)))])),(.agg [(.sc (.int .i64 (.ofNat 16))),(Ab [43]),(Ab []),(.sc (.int .i64 (.ofNat 0))),(.sc (.int .i64 (.ofNat 0))),(.sc (.int .i64 (.ofNat 0))),(.sc (.int .i64 (.ofNat 0))),(.sc (.int .i64 (.ofNat 0))),(.sl .full 0 []),kE,(.sc (.int .i64 (.ofNat 0)))])⟩
theorem fW {mx:Int}:Ap Tryz.prog (HdU.G mx) sZ:=HdU.entry (l:=[e1,Pw,Pb,O6,O5,Pn,OT,OJ,RI,RL]) (m:=1000000) (Aa.cons GM (Aa.cons DL (Aa.cons DE (Aa.cons DM (Aa.cons DP (Aa.cons DJ (Aa.cons DO (Aa.cons DR (Aa.cons EZ (Aa.cons EY HdU.none)))))))))) (by kernel_rfl) (by kernel_rfl)
def lZ:BB:=⟨47,[(.agg [(.sc (.int .i64 (.ofNat 16))),(Ab [43]),(Ab []),(.sc (.int .i64 (.ofNat 0))),(.sc (.int .i64 (.ofNat 0))),(.sc (.int .i64 (.ofNat 0))),(.sc (.int .i64 (.ofNat 0))),(.sc (.int .i64 (.ofNat 0))),(.sl .full 0 []),kE,(.sc (.int .i64 (.ofNat 0)))])],none,(.Bq [(.agg [(.sc (.int .i64 (.ofNat 16))),(Ab [43]),(Ab []),(.sc (.int .i64 (.ofNat 0))),(.sc (.int .i64 (.ofNat 0))),(.sc (.int .i64 (.ofNat 0))),(.sc (.int .i64 (.ofNat 0))),(.sc (.int .i64 (.ofNat 0))),(.sl .full 0 []),kE,(.sc (.int .i64 (.ofNat 0)))]),(.sl .full 0 [])])⟩
theorem Qc {mx:Int}:Ap Tryz.prog (HdU.G mx) lZ:=HdU.entry (l:=[]) (m:=1000000) HdU.none (by kernel_rfl) (by kernel_rfl)
def uG:BB:=⟨48,[(Ab [120,32,43,32,49])],none,(.Bq [(.agg [(.sc (.int .i64 (.ofNat 16))),(Ab [43]),(Ab []),(.sc (.int .i64 (.ofNat 0))),(.sc (.int .i64 (.ofNat 0))),(.sc (.int .i64 (.ofNat 0))),(.sc (.int .i64 (.ofNat 0))),(.sc (.int .i64 (.ofNat 0))),(.sl .full 0 []),kE,(.sc (.int .i64 (.ofNat 0)))]),(.sl .full 0 [])])⟩
theorem eH {mx:Int}:Ap Tryz.prog (HdU.G mx) uG:=HdU.entry (l:=[e9,Vc,Vk,XU,Yr,bB,eM,kB,sZ,lZ]) (m:=1000000) (Aa.cons kH (Aa.cons G8 (Aa.cons Hs (Aa.cons Io (Aa.cons Jz (Aa.cons Kv (Aa.cons Lw (Aa.cons No (Aa.cons fW (Aa.cons Qc HdU.none)))))))))) (by kernel_rfl) (by kernel_rfl)
def tX:BB:=⟨75,[],(some ([(.sl .lost 2 [(.sc (.int .i64 (.ofNat 1))),(Ab [97,114,116]),(.sc (.int .i64 (.ofNat 0))),(.sc (.int .i64 (.ofNat 3))),(Ab [50]),(.sc (.int .i64 (.ofNat 4)))]),(.sc (.int .i64 (.ofNat 0))),(.sc (.int .i64 (.ofNat 5)))],[(.sl .lost 2 [(.sc (.int .i64 (.ofNat 1))),(Ab [97,114,116]),(.sc (.int .i64 (.ofNat 0))),(.sc (.int .i64 (.ofNat 3))),(Ab [50]),(.sc (.int .i64 (.ofNat 4)))]),(.sc (.int .i64 (.ofNat 2))),(.sc (.int .i64 (.ofNat 5)))])),(.agg [(.sc (.int .i64 (.ofNat 13))),(Ab []),(Ab []),(.sc (.int .i64 (.ofNat 2))),(.sc (.int .i64 (.ofNat 0))),(.sc (.int .i64 (.ofNat 0))),(.sc (.int .i64 (.ofNat 0))),(.sc (.int .i64 (.ofNat 0))),(.sl .full 0 []),(.sl .full 0 []),(.sc (.int .i64 (.ofNat 0)))])⟩
theorem eT {mx:Int}:Ap Tryz.prog (HdU.G mx) tX:=HdU.entry (l:=[e1,Pw,Pb,O6,O5,Pn,OT,OJ,RI,RL]) (m:=1000000) (Aa.cons GM (Aa.cons DL (Aa.cons DE (Aa.cons DM (Aa.cons DP (Aa.cons DJ (Aa.cons DO (Aa.cons DR (Aa.cons EZ (Aa.cons EY HdU.none)))))))))) (by kernel_rfl) (by kernel_rfl)
def oY:BB:=⟨47,[(.agg [(.sc (.int .i64 (.ofNat 13))),(Ab []),(Ab []),(.sc (.int .i64 (.ofNat 2))),(.sc (.int .i64 (.ofNat 0))),(.sc (.int .i64 (.ofNat 0))),(.sc (.int .i64 (.ofNat 0))),(.sc (.int .i64 (.ofNat 0))),(.sl .full 0 []),(.sl .full 0 []),(.sc (.int .i64 (.ofNat 0)))])],none,(.Bq [(.agg [(.sc (.int .i64 (.ofNat 13))),(Ab []),(Ab []),(.sc (.int .i64 (.ofNat 2))),(.sc (.int .i64 (.ofNat 0))),(.sc (.int .i64 (.ofNat 0))),(.sc (.int .i64 (.ofNat 0))),(.sc (.int .i64 (.ofNat 0))),(.sl .full 0 []),(.sl .full 0 []),(.sc (.int .i64 (.ofNat 0)))]),(.sl .full 0 [])])⟩
theorem Sx {mx:Int}:Ap Tryz.prog (HdU.G mx) oY:=HdU.entry (l:=[]) (m:=1000000) HdU.none (by kernel_rfl) (by kernel_rfl)
def sL:BB:=⟨48,[(Ab [97,114,116,32,50])],none,(.Bq [(.agg [(.sc (.int .i64 (.ofNat 13))),(Ab []),(Ab []),(.sc (.int .i64 (.ofNat 2))),(.sc (.int .i64 (.ofNat 0))),(.sc (.int .i64 (.ofNat 0))),(.sc (.int .i64 (.ofNat 0))),(.sc (.int .i64 (.ofNat 0))),(.sl .full 0 []),(.sl .full 0 []),(.sc (.int .i64 (.ofNat 0)))]),(.sl .full 0 [])])⟩
theorem fB {mx:Int}:Ap Tryz.prog (HdU.G mx) sL:=HdU.entry (l:=[jS,Vc,Vk,XU,Yr,bB,eM,kB,lZ,tX,oY]) (m:=1000000) (Aa.cons eC (Aa.cons G8 (Aa.cons Hs (Aa.cons Io (Aa.cons Jz (Aa.cons Kv (Aa.cons Lw (Aa.cons No (Aa.cons Qc (Aa.cons eT (Aa.cons Sx HdU.none))))))))))) (by kernel_rfl) (by kernel_rfl)
def sS:BB:=⟨75,[],(some ([qH,(.sc (.int .i64 (.ofNat 0))),(.sc (.int .i64 (.ofNat 26)))],[qH,(.sc (.int .i64 (.ofNat 12))),(.sc (.int .i64 (.ofNat 26)))])),(.agg [(.sc (.int .i64 (.ofNat 18))),(Ab []),(Ab []),(.sc (.int .i64 (.ofNat 0))),(.sc (.int .i64 (.ofNat 0))),(.sc (.int .i64 (.ofNat 0))),(.sc (.int .i64 (.ofNat 0))),(.sc (.int .i64 (.ofNat 10))),(.sl .lost 1 [(.sc (.int .i64 (.ofNat 0))),(.sc (.int .i64 (.ofNat 0))),(.sc (.int .i64 (.ofNat 1)))]),jQ,(.sc (.int .i64 (.ofNat 0)))])⟩
theorem iR {mx:Int}:Ap Tryz.prog (HdU.G mx) sS:=HdU.entry (l:=[e1,Pw,Pb,O6,O5,Pn,OT,OJ,RI,RL]) (m:=1000000) (Aa.cons GM (Aa.cons DL (Aa.cons DE (Aa.cons DM (Aa.cons DP (Aa.cons DJ (Aa.cons DO (Aa.cons DR (Aa.cons EZ (Aa.cons EY HdU.none)))))))))) (by kernel_rfl) (by kernel_rfl)
def qY:BB:=⟨47,[(.agg [(.sc (.int .i64 (.ofNat 18))),(Ab []),(Ab []),(.sc (.int .i64 (.ofNat 0))),(.sc (.int .i64 (.ofNat 0))),(.sc (.int .i64 (.ofNat 0))),(.sc (.int .i64 (.ofNat 0))),(.sc (.int .i64 (.ofNat 10))),(.sl .lost 1 [(.sc (.int .i64 (.ofNat 0))),(.sc (.int .i64 (.ofNat 0))),(.sc (.int .i64 (.ofNat 1)))]),jQ,(.sc (.int .i64 (.ofNat 0)))])],none,(.Bq [(.agg [(.sc (.int .i64 (.ofNat 18))),(Ab []),(Ab []),(.sc (.int .i64 (.ofNat 0))),(.sc (.int .i64 (.ofNat 0))),(.sc (.int .i64 (.ofNat 0))),(.sc (.int .i64 (.ofNat 0))),(.sc (.int .i64 (.ofNat 10))),(.sl .lost 1 [(.sc (.int .i64 (.ofNat 0))),(.sc (.int .i64 (.ofNat 0))),(.sc (.int .i64 (.ofNat 1)))]),jQ,(.sc (.int .i64 (.ofNat 0)))]),(.sl .full 0 [])])⟩
theorem W9 {mx:Int}:Ap Tryz.prog (HdU.G mx) qY:=HdU.entry (l:=[]) (m:=1000000) HdU.none (by kernel_rfl) (by kernel_rfl)
def sX:BB:=⟨48,[qL],none,(.Bq [(.agg [(.sc (.int .i64 (.ofNat 18))),(Ab []),(Ab []),(.sc (.int .i64 (.ofNat 0))),(.sc (.int .i64 (.ofNat 0))),(.sc (.int .i64 (.ofNat 0))),(.sc (.int .i64 (.ofNat 0))),(.sc (.int .i64 (.ofNat 10))),(.sl .lost 1 [(.sc (.int .i64 (.ofNat 0))),(.sc (.int .i64 (.ofNat 0))),(.sc (.int .i64 (.ofNat 1)))]),jQ,(.sc (.int .i64 (.ofNat 0)))]),(.sl .full 0 [])])⟩
theorem eF {mx:Int}:Ap Tryz.prog (HdU.G mx) sX:=HdU.entry (l:=[pE,Vc,Vk,XU,Yr,bB,eM,kB,lZ,oY,sS,qY]) (m:=1000000) (Aa.cons jB (Aa.cons G8 (Aa.cons Hs (Aa.cons Io (Aa.cons Jz (Aa.cons Kv (Aa.cons Lw (Aa.cons No (Aa.cons Qc (Aa.cons Sx (Aa.cons iR (Aa.cons W9 HdU.none)))))))))))) (by kernel_rfl) (by kernel_rfl)
end Go.Proofs.YtkfplcngmiljaaaGreatDoor
namespace Go.Proofs.YtkfplcngmiljaaaGreatDoor
open AI
set_option maxRecDepth 100000
set_option maxHeartbeats 4000000
def jW:AV:=.sl .lost 2 [(.sc (.int .i64 (.ofNat 12))),(Ab [114,97,116,101]),(Ab []),(.sc (.int .i64 (.ofNat 0))),(.sc (.int .i64 (.ofNat 0))),(.sc (.int .i64 (.ofNat 0))),(.sc (.int .i64 (.ofNat 0))),(.sc (.int .i64 (.ofNat 0))),(.sl .full 0 []),(.sl .full 0 []),(.sc (.int .i64 (.ofNat 6))),(.sc (.int .i64 (.ofNat 11))),(Ab []),(Ab [69,85,82]),(.sc (.int .i64 (.ofNat 100))),(.sc (.int .i64 (.ofNat 0))),(.sc (.int .i64 (.ofNat 0))),(.sc (.int .i64 (.ofNat 0))),(.sc (.int .i64 (.ofNat 0))),(.sl .full 0 []),(.sl .full 0 []),(.sc (.int .i64 (.ofNat 12)))]
def qK:AV:=.sl .full 1 [(.sc (.int .i64 (.ofNat 11))),(Ab []),(Ab [69,85,82]),(.sc (.int .i64 (.ofNat 100))),(.sc (.int .i64 (.ofNat 0))),(.sc (.int .i64 (.ofNat 0))),(.sc (.int .i64 (.ofNat 0))),(.sc (.int .i64 (.ofNat 0))),(.sl .full 0 []),(.sl .full 0 []),(.sc (.int .i64 (.ofNat 153)))]
def jN:AV:=.sl .lost 2 [(.sc (.int .i64 (.ofNat 5))),(Ab []),(Ab []),(.sc (.int .i64 (.ofNat 1))),(.sc (.int .i64 (.ofNat 8766))),(.sc (.int .i64 (.ofNat 36525))),(.sc (.int .i64 (.ofNat 8766))),(.sc (.int .i64 (.ofNat 0))),(.sl .full 0 []),(.sl .full 0 []),(.sc (.int .i64 (.ofNat 104))),(.sc (.int .i64 (.ofNat 8))),(Ab []),(Ab []),(.sc (.int .i64 (.ofNat 0))),(.sc (.int .i64 (.ofNat 0))),(.sc (.int .i64 (.ofNat 0))),(.sc (.int .i64 (.ofNat 0))),(.sc (.int .i64 (.ofNat 0))),(.sl .full 0 []),qK,(.sc (.int .i64 (.ofNat 146)))]
def MB:AV:=.sl .lost 5 [(.sc (.int .i64 (.ofNat 2))),(Ab [104,111,117,114,115]),k1,(.sc (.int .i64 (.ofNat 0))),(.sc (.int .i64 (.ofNat 0))),(.sc (.int .i64 (.ofNat 0))),(.sc (.int .i64 (.ofNat 0))),(.sc (.int .i64 (.ofNat 0))),(.sl .full 0 []),(.sl .full 0 []),(.sc (.int .i64 (.ofNat 0))),(.sc (.int .i64 (.ofNat 2))),(Ab [114,97,116,101]),(Ab [69,85,82]),(.sc (.int .i64 (.ofNat 0))),(.sc (.int .i64 (.ofNat 0))),(.sc (.int .i64 (.ofNat 0))),(.sc (.int .i64 (.ofNat 0))),(.sc (.int .i64 (.ofNat 0))),(.sl .full 0 []),(.sl .full 0 []),(.sc (.int .i64 (.ofNat 22))),(.sc (.int .i64 (.ofNat 2))),k2,(Ab [116,114,117,116,104]),(.sc (.int .i64 (.ofNat 0))),(.sc (.int .i64 (.ofNat 0))),(.sc (.int .i64 (.ofNat 0))),(.sc (.int .i64 (.ofNat 0))),(.sc (.int .i64 (.ofNat 0))),(.sl .full 0 []),(.sl .full 0 []),(.sc (.int .i64 (.ofNat 39))),(.sc (.int .i64 (.ofNat 3))),(Ab [98,97,115,105,99]),(Ab [69,85,82]),(.sc (.int .i64 (.ofNat 1))),(.sc (.int .i64 (.ofNat 0))),(.sc (.int .i64 (.ofNat 0))),(.sc (.int .i64 (.ofNat 0))),(.sc (.int .i64 (.ofNat 0))),(.sl .full 0 []),(.sl .full 0 []),(.sc (.int .i64 (.ofNat 61))),(.sc (.int .i64 (.ofNat 4))),(Ab [98,97,115,105,99]),(Ab []),(.sc (.int .i64 (.ofNat 1))),(.sc (.int .i64 (.ofNat 0))),(.sc (.int .i64 (.ofNat 0))),(.sc (.int .i64 (.ofNat 0))),(.sc (.int .i64 (.ofNat 0))),(.sl .full 0 []),jN,(.sc (.int .i64 (.ofNat 84)))]
def sA:BB:=⟨75,[],(some ([rW,(.sc (.int .i64 (.ofNat 0))),(.sc (.int .i64 (.ofNat 21)))],[rW,(.sc (.int .i64 (.ofNat 7))),(.sc (.int .i64 (.ofNat 21)))])),(.agg [(.sc (.int .i64 (.ofNat 17))),(Ab [108,101,97,115,116]),(Ab []),(.sc (.int .i64 (.ofNat 0))),(.sc (.int .i64 (.ofNat 0))),(.sc (.int .i64 (.ofNat 0))),(.sc (.int .i64 (.ofNat 0))),(.sc (.int .i64 (.ofNat 0))),(.sl .full 0 []),jW,(.sc (.int .i64 (.ofNat 0)))])⟩
theorem cS {mx:Int}:Ap Tryz.prog (HdU.G mx) sA:=HdU.entry (l:=[e1,Pw,Pb,O6,O5,Pn,OT,OJ,RI,RL]) (m:=1000000) (Aa.cons GM (Aa.cons DL (Aa.cons DE (Aa.cons DM (Aa.cons DP (Aa.cons DJ (Aa.cons DO (Aa.cons DR (Aa.cons EZ (Aa.cons EY HdU.none)))))))))) (by kernel_rfl) (by kernel_rfl)
def uI:BB:=⟨47,[(.agg [(.sc (.int .i64 (.ofNat 17))),(Ab [108,101,97,115,116]),(Ab []),(.sc (.int .i64 (.ofNat 0))),(.sc (.int .i64 (.ofNat 0))),(.sc (.int .i64 (.ofNat 0))),(.sc (.int .i64 (.ofNat 0))),(.sc (.int .i64 (.ofNat 0))),(.sl .full 0 []),jW,(.sc (.int .i64 (.ofNat 0)))])],none,(.Bq [(.agg [(.sc (.int .i64 (.ofNat 17))),(Ab [108,101,97,115,116]),(Ab []),(.sc (.int .i64 (.ofNat 0))),(.sc (.int .i64 (.ofNat 0))),(.sc (.int .i64 (.ofNat 0))),(.sc (.int .i64 (.ofNat 0))),(.sc (.int .i64 (.ofNat 0))),(.sl .full 0 []),jW,(.sc (.int .i64 (.ofNat 0)))]),(.sl .full 0 [])])⟩
theorem eQ {mx:Int}:Ap Tryz.prog (HdU.G mx) uI:=HdU.entry (l:=[]) (m:=1000000) HdU.none (by kernel_rfl) (by kernel_rfl)
def sH:BB:=⟨48,[pI],none,(.Bq [(.agg [(.sc (.int .i64 (.ofNat 17))),(Ab [108,101,97,115,116]),(Ab []),(.sc (.int .i64 (.ofNat 0))),(.sc (.int .i64 (.ofNat 0))),(.sc (.int .i64 (.ofNat 0))),(.sc (.int .i64 (.ofNat 0))),(.sc (.int .i64 (.ofNat 0))),(.sl .full 0 []),jW,(.sc (.int .i64 (.ofNat 0)))]),(.sl .full 0 [])])⟩
theorem jE {mx:Int}:Ap Tryz.prog (HdU.G mx) sH:=HdU.entry (l:=[sN,Vc,Vk,XU,Yr,bB,eM,kB,lZ,oY,qY,sA,uI]) (m:=1000000) (Aa.cons hH (Aa.cons G8 (Aa.cons Hs (Aa.cons Io (Aa.cons Jz (Aa.cons Kv (Aa.cons Lw (Aa.cons No (Aa.cons Qc (Aa.cons Sx (Aa.cons W9 (Aa.cons cS (Aa.cons eQ HdU.none))))))))))))) (by kernel_rfl) (by kernel_rfl)
def jV:BB:=⟨70,[],(some ([k5,(.sc (.int .i64 (.ofNat 0))),(.sc (.int .i64 (.ofNat 164)))],[k5,(.sc (.int .i64 (.ofNat 5))),(.sc (.int .i64 (.ofNat 164)))])),(.agg [(.sc (.int .i64 (.ofNat 2))),(Ab [104,111,117,114,115]),k1,(.sc (.int .i64 (.ofNat 0))),(.sc (.int .i64 (.ofNat 0))),(.sc (.int .i64 (.ofNat 0))),(.sc (.int .i64 (.ofNat 0))),(.sc (.int .i64 (.ofNat 0))),(.sl .full 0 []),(.sl .full 0 []),(.sc (.int .i64 (.ofNat 0)))])⟩
theorem Oe {mx:Int}:Ap Tryz.prog (HdU.G mx) jV:=HdU.entry (l:=[]) (m:=1000000) HdU.none (by kernel_rfl) (by kernel_rfl)
def sU:BB:=⟨45,[],(some ([k5,(.sc (.int .i64 (.ofNat 0))),(.sc (.int .i64 (.ofNat 164)))],[k5,(.sc (.int .i64 (.ofNat 5))),(.sc (.int .i64 (.ofNat 164)))])),(.agg [(.sc (.int .i64 (.ofNat 2))),(Ab [104,111,117,114,115]),k1,(.sc (.int .i64 (.ofNat 0))),(.sc (.int .i64 (.ofNat 0))),(.sc (.int .i64 (.ofNat 0))),(.sc (.int .i64 (.ofNat 0))),(.sc (.int .i64 (.ofNat 0))),(.sl .full 0 []),(.sl .full 0 []),(.sc (.int .i64 (.ofNat 0)))])⟩
theorem jM {mx:Int}:Ap Tryz.prog (HdU.G mx) sU:=HdU.entry (l:=[jV]) (m:=1000000) (Aa.cons Oe HdU.none) (by kernel_rfl) (by kernel_rfl)
def mV:BB:=⟨70,[],(some ([k5,(.sc (.int .i64 (.ofNat 5))),(.sc (.int .i64 (.ofNat 164)))],[k5,(.sc (.int .i64 (.ofNat 10))),(.sc (.int .i64 (.ofNat 164)))])),(.agg [(.sc (.int .i64 (.ofNat 2))),(Ab [114,97,116,101]),(Ab [69,85,82]),(.sc (.int .i64 (.ofNat 0))),(.sc (.int .i64 (.ofNat 0))),(.sc (.int .i64 (.ofNat 0))),(.sc (.int .i64 (.ofNat 0))),(.sc (.int .i64 (.ofNat 0))),(.sl .full 0 []),(.sl .full 0 []),(.sc (.int .i64 (.ofNat 22)))])⟩
theorem PA {mx:Int}:Ap Tryz.prog (HdU.G mx) mV:=HdU.entry (l:=[]) (m:=1000000) HdU.none (by kernel_rfl) (by kernel_rfl)
def tN:BB:=⟨45,[],(some ([k5,(.sc (.int .i64 (.ofNat 5))),(.sc (.int .i64 (.ofNat 164)))],[k5,(.sc (.int .i64 (.ofNat 10))),(.sc (.int .i64 (.ofNat 164)))])),(.agg [(.sc (.int .i64 (.ofNat 2))),(Ab [114,97,116,101]),(Ab [69,85,82]),(.sc (.int .i64 (.ofNat 0))),(.sc (.int .i64 (.ofNat 0))),(.sc (.int .i64 (.ofNat 0))),(.sc (.int .i64 (.ofNat 0))),(.sc (.int .i64 (.ofNat 0))),(.sl .full 0 []),(.sl .full 0 []),(.sc (.int .i64 (.ofNat 22)))])⟩
theorem eO {mx:Int}:Ap Tryz.prog (HdU.G mx) tN:=HdU.entry (l:=[jV,mV]) (m:=1000000) (Aa.cons Oe (Aa.cons PA HdU.none)) (by kernel_rfl) (by kernel_rfl)
def oV:BB:=⟨70,[],(some ([k5,(.sc (.int .i64 (.ofNat 10))),(.sc (.int .i64 (.ofNat 164)))],[k5,(.sc (.int .i64 (.ofNat 15))),(.sc (.int .i64 (.ofNat 164)))])),(.agg [(.sc (.int .i64 (.ofNat 2))),k2,(Ab [116,114,117,116,104]),(.sc (.int .i64 (.ofNat 0))),(.sc (.int .i64 (.ofNat 0))),(.sc (.int .i64 (.ofNat 0))),(.sc (.int .i64 (.ofNat 0))),(.sc (.int .i64 (.ofNat 0))),(.sl .full 0 []),(.sl .full 0 []),(.sc (.int .i64 (.ofNat 39)))])⟩
theorem SC {mx:Int}:Ap Tryz.prog (HdU.G mx) oV:=HdU.entry (l:=[]) (m:=1000000) HdU.none (by kernel_rfl) (by kernel_rfl)
def uK:BB:=⟨45,[],(some ([k5,(.sc (.int .i64 (.ofNat 10))),(.sc (.int .i64 (.ofNat 164)))],[k5,(.sc (.int .i64 (.ofNat 15))),(.sc (.int .i64 (.ofNat 164)))])),(.agg [(.sc (.int .i64 (.ofNat 2))),k2,(Ab [116,114,117,116,104]),(.sc (.int .i64 (.ofNat 0))),(.sc (.int .i64 (.ofNat 0))),(.sc (.int .i64 (.ofNat 0))),(.sc (.int .i64 (.ofNat 0))),(.sc (.int .i64 (.ofNat 0))),(.sl .full 0 []),(.sl .full 0 []),(.sc (.int .i64 (.ofNat 39)))])⟩
theorem iY {mx:Int}:Ap Tryz.prog (HdU.G mx) uK:=HdU.entry (l:=[jV,mV,oV]) (m:=1000000) (Aa.cons Oe (Aa.cons PA (Aa.cons SC HdU.none))) (by kernel_rfl) (by kernel_rfl)
def pH:BB:=⟨70,[],(some ([k5,(.sc (.int .i64 (.ofNat 15))),(.sc (.int .i64 (.ofNat 164)))],[k5,(.sc (.int .i64 (.ofNat 21))),(.sc (.int .i64 (.ofNat 164)))])),(.agg [(.sc (.int .i64 (.ofNat 3))),(Ab [98,97,115,105,99]),(Ab [69,85,82]),(.sc (.int .i64 (.ofNat 1))),(.sc (.int .i64 (.ofNat 0))),(.sc (.int .i64 (.ofNat 0))),(.sc (.int .i64 (.ofNat 0))),(.sc (.int .i64 (.ofNat 0))),(.sl .full 0 []),(.sl .full 0 []),(.sc (.int .i64 (.ofNat 61)))])⟩
theorem WZ {mx:Int}:Ap Tryz.prog (HdU.G mx) pH:=HdU.entry (l:=[]) (m:=1000000) HdU.none (by kernel_rfl) (by kernel_rfl)
def sW:BB:=⟨45,[],(some ([k5,(.sc (.int .i64 (.ofNat 15))),(.sc (.int .i64 (.ofNat 164)))],[k5,(.sc (.int .i64 (.ofNat 21))),(.sc (.int .i64 (.ofNat 164)))])),(.agg [(.sc (.int .i64 (.ofNat 3))),(Ab [98,97,115,105,99]),(Ab [69,85,82]),(.sc (.int .i64 (.ofNat 1))),(.sc (.int .i64 (.ofNat 0))),(.sc (.int .i64 (.ofNat 0))),(.sc (.int .i64 (.ofNat 0))),(.sc (.int .i64 (.ofNat 0))),(.sl .full 0 []),(.sl .full 0 []),(.sc (.int .i64 (.ofNat 61)))])⟩
theorem c8 {mx:Int}:Ap Tryz.prog (HdU.G mx) sW:=HdU.entry (l:=[jV,mV,oV,pH]) (m:=1000000) (Aa.cons Oe (Aa.cons PA (Aa.cons SC (Aa.cons WZ HdU.none)))) (by kernel_rfl) (by kernel_rfl)
def kQ:BB:=⟨139,[k4],none,(.Bq [(.sc (.int .i64 (.ofNat 8766))),(.sc (.int .i64 (.ofNat 0)))])⟩
theorem PV {mx:Int}:Ap Tryz.prog (HdU.G mx) kQ:=HdU.entry (l:=[]) (m:=1000000) HdU.none (by kernel_rfl) (by kernel_rfl)
def tQ:BB:=⟨128,[(.sc (.int .i64 (.ofNat 0)))],(some ([k5,(.sc (.int .i64 (.ofNat 28))),(.sc (.int .i64 (.ofNat 164)))],[k5,(.sc (.int .i64 (.ofNat 29))),(.sc (.int .i64 (.ofNat 164)))])),(.sc (.int .i64 (.ofNat 8766)))⟩
theorem dR {mx:Int}:Ap Tryz.prog (HdU.G mx) tQ:=HdU.entry (l:=[kQ]) (m:=1000000) (Aa.cons PV HdU.none) (by kernel_rfl) (by kernel_rfl)
def sJ:BB:=⟨128,[(.sc (.int .i64 (.ofNat 0)))],(some ([k5,(.sc (.int .i64 (.ofNat 30))),(.sc (.int .i64 (.ofNat 164)))],[k5,(.sc (.int .i64 (.ofNat 31))),(.sc (.int .i64 (.ofNat 164)))])),(.sc (.int .i64 (.ofNat 8766)))⟩
theorem gH {mx:Int}:Ap Tryz.prog (HdU.G mx) sJ:=HdU.entry (l:=[kQ]) (m:=1000000) (Aa.cons PV HdU.none) (by kernel_rfl) (by kernel_rfl)
def tH:BB:=⟨110,[],(some ([k5,(.sc (.int .i64 (.ofNat 25))),(.sc (.int .i64 (.ofNat 164)))],[k5,(.sc (.int .i64 (.ofNat 31))),(.sc (.int .i64 (.ofNat 164)))])),(.agg [(.sc (.int .i64 (.ofNat 5))),(Ab []),(Ab []),(.sc (.int .i64 (.ofNat 1))),(.sc (.int .i64 (.ofNat 8766))),(.sc (.int .i64 (.ofNat 36525))),(.sc (.int .i64 (.ofNat 8766))),(.sc (.int .i64 (.ofNat 0))),(.sl .full 0 []),(.sl .full 0 []),(.sc (.int .i64 (.ofNat 104)))])⟩
theorem eK {mx:Int}:Ap Tryz.prog (HdU.G mx) tH:=HdU.entry (l:=[Pw,Pb,O6,O5,Pn,OT,OJ,tQ,sJ]) (m:=1000000) (Aa.cons DL (Aa.cons DE (Aa.cons DM (Aa.cons DP (Aa.cons DJ (Aa.cons DO (Aa.cons DR (Aa.cons dR (Aa.cons gH HdU.none))))))))) (by kernel_rfl) (by kernel_rfl)
def uP:BB:=⟨75,[],(some ([k5,(.sc (.int .i64 (.ofNat 33))),(.sc (.int .i64 (.ofNat 164)))],[k5,(.sc (.int .i64 (.ofNat 35))),(.sc (.int .i64 (.ofNat 164)))])),(.agg [(.sc (.int .i64 (.ofNat 11))),(Ab []),(Ab [69,85,82]),(.sc (.int .i64 (.ofNat 100))),(.sc (.int .i64 (.ofNat 0))),(.sc (.int .i64 (.ofNat 0))),(.sc (.int .i64 (.ofNat 0))),(.sc (.int .i64 (.ofNat 0))),(.sl .full 0 []),(.sl .full 0 []),(.sc (.int .i64 (.ofNat 153)))])⟩
theorem iH {mx:Int}:Ap Tryz.prog (HdU.G mx) uP:=HdU.entry (l:=[e1,Pw,Pb,O6,O5,Pn,OT,OJ,RI,RL]) (m:=1000000) (Aa.cons GM (Aa.cons DL (Aa.cons DE (Aa.cons DM (Aa.cons DP (Aa.cons DJ (Aa.cons DO (Aa.cons DR (Aa.cons EZ (Aa.cons EY HdU.none)))))))))) (by kernel_rfl) (by kernel_rfl)
def sQ:BB:=⟨111,[(.sc (.int .i64 (.ofNat 8)))],(some ([k5,(.sc (.int .i64 (.ofNat 32))),(.sc (.int .i64 (.ofNat 164)))],[k5,(.sc (.int .i64 (.ofNat 36))),(.sc (.int .i64 (.ofNat 164)))])),(.agg [(.sc (.int .i64 (.ofNat 8))),(Ab []),(Ab []),(.sc (.int .i64 (.ofNat 0))),(.sc (.int .i64 (.ofNat 0))),(.sc (.int .i64 (.ofNat 0))),(.sc (.int .i64 (.ofNat 0))),(.sc (.int .i64 (.ofNat 0))),(.sl .full 0 []),qK,(.sc (.int .i64 (.ofNat 146)))])⟩
theorem iT {mx:Int}:Ap Tryz.prog (HdU.G mx) sQ:=HdU.entry (l:=[e1,Pw,Pb,O6,O5,Pn,OT,OJ,RI,RL,uP]) (m:=1000000) (Aa.cons GM (Aa.cons DL (Aa.cons DE (Aa.cons DM (Aa.cons DP (Aa.cons DJ (Aa.cons DO (Aa.cons DR (Aa.cons EZ (Aa.cons EY (Aa.cons iH HdU.none))))))))))) (by kernel_rfl) (by kernel_rfl)
def uQ:BB:=⟨71,[],(some ([k5,(.sc (.int .i64 (.ofNat 21))),(.sc (.int .i64 (.ofNat 164)))],[k5,(.sc (.int .i64 (.ofNat 37))),(.sc (.int .i64 (.ofNat 164)))])),(.agg [(.sc (.int .i64 (.ofNat 4))),(Ab [98,97,115,105,99]),(Ab []),(.sc (.int .i64 (.ofNat 1))),(.sc (.int .i64 (.ofNat 0))),(.sc (.int .i64 (.ofNat 0))),(.sc (.int .i64 (.ofNat 0))),(.sc (.int .i64 (.ofNat 0))),(.sl .full 0 []),jN,(.sc (.int .i64 (.ofNat 84)))])⟩
theorem jJ {mx:Int}:Ap Tryz.prog (HdU.G mx) uQ:=HdU.entry (l:=[Pw,Pb,O6,O5,Pn,OT,OJ,tH,sQ]) (m:=1000000) (Aa.cons DL (Aa.cons DE (Aa.cons DM (Aa.cons DP (Aa.cons DJ (Aa.cons DO (Aa.cons DR (Aa.cons eK (Aa.cons iT HdU.none))))))))) (by kernel_rfl) (by kernel_rfl)
def tP:BB:=⟨45,[],(some ([k5,(.sc (.int .i64 (.ofNat 21))),(.sc (.int .i64 (.ofNat 164)))],[k5,(.sc (.int .i64 (.ofNat 37))),(.sc (.int .i64 (.ofNat 164)))])),(.agg [(.sc (.int .i64 (.ofNat 4))),(Ab [98,97,115,105,99]),(Ab []),(.sc (.int .i64 (.ofNat 1))),(.sc (.int .i64 (.ofNat 0))),(.sc (.int .i64 (.ofNat 0))),(.sc (.int .i64 (.ofNat 0))),(.sc (.int .i64 (.ofNat 0))),(.sl .full 0 []),jN,(.sc (.int .i64 (.ofNat 84)))])⟩
theorem gK {mx:Int}:Ap Tryz.prog (HdU.G mx) tP:=HdU.entry (l:=[jV,mV,oV,pH,uQ]) (m:=1000000) (Aa.cons Oe (Aa.cons PA (Aa.cons SC (Aa.cons WZ (Aa.cons jJ HdU.none))))) (by kernel_rfl) (by kernel_rfl)
def tK:BB:=⟨27,[k0],none,(.Bq [(.agg [(.sc (.int .i64 (.ofNat 1))),(Ab []),(Ab []),(.sc (.int .i64 (.ofNat 0))),(.sc (.int .i64 (.ofNat 0))),(.sc (.int .i64 (.ofNat 0))),(.sc (.int .i64 (.ofNat 0))),(.sc (.int .i64 (.ofNat 0))),(.sl .full 0 []),MB,(.sc (.int .i64 (.ofNat 0)))]),(.sl .full 0 [])])⟩
theorem eA {mx:Int}:Ap Tryz.prog (HdU.G mx) tK:=HdU.entry (l:=[e0,sU,tN,uK,sW,tP]) (m:=1000000) (Aa.cons nT (Aa.cons jM (Aa.cons eO (Aa.cons iY (Aa.cons c8 (Aa.cons gK HdU.none)))))) (by kernel_rfl) (by kernel_rfl)
def jH:BB:=⟨70,[],(some ([Jo,(.sc (.int .i64 (.ofNat 0))),(.sc (.int .i64 (.ofNat 190)))],[Jo,(.sc (.int .i64 (.ofNat 5))),(.sc (.int .i64 (.ofNat 190)))])),(.agg [(.sc (.int .i64 (.ofNat 2))),(Ab [104,111,117,114,115]),k1,(.sc (.int .i64 (.ofNat 0))),(.sc (.int .i64 (.ofNat 0))),(.sc (.int .i64 (.ofNat 0))),(.sc (.int .i64 (.ofNat 0))),(.sc (.int .i64 (.ofNat 0))),(.sl .full 0 []),(.sl .full 0 []),(.sc (.int .i64 (.ofNat 0)))])⟩
theorem LB {mx:Int}:Ap Tryz.prog (HdU.G mx) jH:=HdU.entry (l:=[]) (m:=1000000) HdU.none (by kernel_rfl) (by kernel_rfl)
def sE:BB:=⟨45,[],(some ([Jo,(.sc (.int .i64 (.ofNat 0))),(.sc (.int .i64 (.ofNat 190)))],[Jo,(.sc (.int .i64 (.ofNat 5))),(.sc (.int .i64 (.ofNat 190)))])),(.agg [(.sc (.int .i64 (.ofNat 2))),(Ab [104,111,117,114,115]),k1,(.sc (.int .i64 (.ofNat 0))),(.sc (.int .i64 (.ofNat 0))),(.sc (.int .i64 (.ofNat 0))),(.sc (.int .i64 (.ofNat 0))),(.sc (.int .i64 (.ofNat 0))),(.sl .full 0 []),(.sl .full 0 []),(.sc (.int .i64 (.ofNat 0)))])⟩
theorem dK {mx:Int}:Ap Tryz.prog (HdU.G mx) sE:=HdU.entry (l:=[jH]) (m:=1000000) (Aa.cons LB HdU.none) (by kernel_rfl) (by kernel_rfl)
def j1:BB:=⟨70,[],(some ([Jo,(.sc (.int .i64 (.ofNat 5))),(.sc (.int .i64 (.ofNat 190)))],[Jo,(.sc (.int .i64 (.ofNat 10))),(.sc (.int .i64 (.ofNat 190)))])),(.agg [(.sc (.int .i64 (.ofNat 2))),(Ab [114,97,116,101]),(Ab [69,85,82]),(.sc (.int .i64 (.ofNat 0))),(.sc (.int .i64 (.ofNat 0))),(.sc (.int .i64 (.ofNat 0))),(.sc (.int .i64 (.ofNat 0))),(.sc (.int .i64 (.ofNat 0))),(.sl .full 0 []),(.sl .full 0 []),(.sc (.int .i64 (.ofNat 22)))])⟩
theorem Nz {mx:Int}:Ap Tryz.prog (HdU.G mx) j1:=HdU.entry (l:=[]) (m:=1000000) HdU.none (by kernel_rfl) (by kernel_rfl)
def s6:BB:=⟨45,[],(some ([Jo,(.sc (.int .i64 (.ofNat 5))),(.sc (.int .i64 (.ofNat 190)))],[Jo,(.sc (.int .i64 (.ofNat 10))),(.sc (.int .i64 (.ofNat 190)))])),(.agg [(.sc (.int .i64 (.ofNat 2))),(Ab [114,97,116,101]),(Ab [69,85,82]),(.sc (.int .i64 (.ofNat 0))),(.sc (.int .i64 (.ofNat 0))),(.sc (.int .i64 (.ofNat 0))),(.sc (.int .i64 (.ofNat 0))),(.sc (.int .i64 (.ofNat 0))),(.sl .full 0 []),(.sl .full 0 []),(.sc (.int .i64 (.ofNat 22)))])⟩
theorem fX {mx:Int}:Ap Tryz.prog (HdU.G mx) s6:=HdU.entry (l:=[jH,j1]) (m:=1000000) (Aa.cons LB (Aa.cons Nz HdU.none)) (by kernel_rfl) (by kernel_rfl)
def kZ:BB:=⟨70,[],(some ([Jo,(.sc (.int .i64 (.ofNat 10))),(.sc (.int .i64 (.ofNat 190)))],[Jo,(.sc (.int .i64 (.ofNat 15))),(.sc (.int .i64 (.ofNat 190)))])),(.agg [(.sc (.int .i64 (.ofNat 2))),k2,(Ab [116,114,117,116,104]),(.sc (.int .i64 (.ofNat 0))),(.sc (.int .i64 (.ofNat 0))),(.sc (.int .i64 (.ofNat 0))),(.sc (.int .i64 (.ofNat 0))),(.sc (.int .i64 (.ofNat 0))),(.sl .full 0 []),(.sl .full 0 []),(.sc (.int .i64 (.ofNat 39)))])⟩
theorem PX {mx:Int}:Ap Tryz.prog (HdU.G mx) kZ:=HdU.entry (l:=[]) (m:=1000000) HdU.none (by kernel_rfl) (by kernel_rfl)
end Go.Proofs.YtkfplcngmiljaaaGreatDoor
namespace Go.Proofs.YtkfplcngmiljaaaGreatDoor
open AI
set_option maxRecDepth 100000
set_option maxHeartbeats 4000000
def qR:AV:=.sl .lost 6 [(.sc (.int .i64 (.ofNat 2))),(Ab [104,111,117,114,115]),k1,(.sc (.int .i64 (.ofNat 0))),(.sc (.int .i64 (.ofNat 0))),(.sc (.int .i64 (.ofNat 0))),(.sc (.int .i64 (.ofNat 0))),(.sc (.int .i64 (.ofNat 0))),(.sl .full 0 []),(.sl .full 0 []),(.sc (.int .i64 (.ofNat 0))),(.sc (.int .i64 (.ofNat 2))),(Ab [114,97,116,101]),(Ab [69,85,82]),(.sc (.int .i64 (.ofNat 0))),(.sc (.int .i64 (.ofNat 0))),(.sc (.int .i64 (.ofNat 0))),(.sc (.int .i64 (.ofNat 0))),(.sc (.int .i64 (.ofNat 0))),(.sl .full 0 []),(.sl .full 0 []),(.sc (.int .i64 (.ofNat 22))),(.sc (.int .i64 (.ofNat 2))),k2,(Ab [116,114,117,116,104]),(.sc (.int .i64 (.ofNat 0))),(.sc (.int .i64 (.ofNat 0))),(.sc (.int .i64 (.ofNat 0))),(.sc (.int .i64 (.ofNat 0))),(.sc (.int .i64 (.ofNat 0))),(.sl .full 0 []),(.sl .full 0 []),(.sc (.int .i64 (.ofNat 39))),(.sc (.int .i64 (.ofNat 3))),(Ab [98,97,115,105,99]),(Ab [69,85,82]),(.sc (.int .i64 (.ofNat 1))),(.sc (.int .i64 (.ofNat 0))),(.sc (.int .i64 (.ofNat 0))),(.sc (.int .i64 (.ofNat 0))),(.sc (.int .i64 (.ofNat 0))),(.sl .full 0 []),(.sl .full 0 []),(.sc (.int .i64 (.ofNat 61))),(.sc (.int .i64 (.ofNat 4))),(Ab [98,97,115,105,99]),(Ab []),(.sc (.int .i64 (.ofNat 1))),(.sc (.int .i64 (.ofNat 0))),(.sc (.int .i64 (.ofNat 0))),(.sc (.int .i64 (.ofNat 0))),(.sc (.int .i64 (.ofNat 0))),(.sl .full 0 []),jN,(.sc (.int .i64 (.ofNat 84))),(.sc (.int .i64 (.ofNat 3))),(Ab [98,97,115,105,99]),(Ab [110,117,109,98,101,114]),(.sc (.int .i64 (.ofNat 4))),(.sc (.int .i64 (.ofNat 0))),(.sc (.int .i64 (.ofNat 0))),(.sc (.int .i64 (.ofNat 0))),(.sc (.int .i64 (.ofNat 0))),(.sl .full 0 []),(.sl .full 0 []),(.sc (.int .i64 (.ofNat 165)))]
def uR:BB:=⟨45,[],(some ([Jo,(.sc (.int .i64 (.ofNat 10))),(.sc (.int .i64 (.ofNat 190)))],[Jo,(.sc (.int .i64 (.ofNat 15))),(.sc (.int .i64 (.ofNat 190)))])),(.agg [(.sc (.int .i64 (.ofNat 2))),k2,(Ab [116,114,117,116,104]),(.sc (.int .i64 (.ofNat 0))),(.sc (.int .i64 (.ofNat 0))),(.sc (.int .i64 (.ofNat 0))),(.sc (.int .i64 (.ofNat 0))),(.sc (.int .i64 (.ofNat 0))),(.sl .full 0 []),(.sl .full 0 []),(.sc (.int .i64 (.ofNat 39)))])⟩
theorem fG {mx:Int}:Ap Tryz.prog (HdU.G mx) uR:=HdU.entry (l:=[jH,j1,kZ]) (m:=1000000) (Aa.cons LB (Aa.cons Nz (Aa.cons PX HdU.none))) (by kernel_rfl) (by kernel_rfl)
def pD:BB:=⟨70,[],(some ([Jo,(.sc (.int .i64 (.ofNat 15))),(.sc (.int .i64 (.ofNat 190)))],[Jo,(.sc (.int .i64 (.ofNat 21))),(.sc (.int .i64 (.ofNat 190)))])),(.agg [(.sc (.int .i64 (.ofNat 3))),(Ab [98,97,115,105,99]),(Ab [69,85,82]),(.sc (.int .i64 (.ofNat 1))),(.sc (.int .i64 (.ofNat 0))),(.sc (.int .i64 (.ofNat 0))),(.sc (.int .i64 (.ofNat 0))),(.sc (.int .i64 (.ofNat 0))),(.sl .full 0 []),(.sl .full 0 []),(.sc (.int .i64 (.ofNat 61)))])⟩
theorem Sl {mx:Int}:Ap Tryz.prog (HdU.G mx) pD:=HdU.entry (l:=[]) (m:=1000000) HdU.none (by kernel_rfl) (by kernel_rfl)
def tR:BB:=⟨45,[],(some ([Jo,(.sc (.int .i64 (.ofNat 15))),(.sc (.int .i64 (.ofNat 190)))],[Jo,(.sc (.int .i64 (.ofNat 21))),(.sc (.int .i64 (.ofNat 190)))])),(.agg [(.sc (.int .i64 (.ofNat 3))),(Ab [98,97,115,105,99]),(Ab [69,85,82]),(.sc (.int .i64 (.ofNat 1))),(.sc (.int .i64 (.ofNat 0))),(.sc (.int .i64 (.ofNat 0))),(.sc (.int .i64 (.ofNat 0))),(.sc (.int .i64 (.ofNat 0))),(.sl .full 0 []),(.sl .full 0 []),(.sc (.int .i64 (.ofNat 61)))])⟩
theorem iO {mx:Int}:Ap Tryz.prog (HdU.G mx) tR:=HdU.entry (l:=[jH,j1,kZ,pD]) (m:=1000000) (Aa.cons LB (Aa.cons Nz (Aa.cons PX (Aa.cons Sl HdU.none)))) (by kernel_rfl) (by kernel_rfl)
def tO:BB:=⟨128,[(.sc (.int .i64 (.ofNat 0)))],(some ([Jo,(.sc (.int .i64 (.ofNat 28))),(.sc (.int .i64 (.ofNat 190)))],[Jo,(.sc (.int .i64 (.ofNat 29))),(.sc (.int .i64 (.ofNat 190)))])),(.sc (.int .i64 (.ofNat 8766)))⟩
theorem iX {mx:Int}:Ap Tryz.prog (HdU.G mx) tO:=HdU.entry (l:=[kQ]) (m:=1000000) (Aa.cons PV HdU.none) (by kernel_rfl) (by kernel_rfl)
def tM:BB:=⟨128,[(.sc (.int .i64 (.ofNat 0)))],(some ([Jo,(.sc (.int .i64 (.ofNat 30))),(.sc (.int .i64 (.ofNat 190)))],[Jo,(.sc (.int .i64 (.ofNat 31))),(.sc (.int .i64 (.ofNat 190)))])),(.sc (.int .i64 (.ofNat 8766)))⟩
theorem fZ {mx:Int}:Ap Tryz.prog (HdU.G mx) tM:=HdU.entry (l:=[kQ]) (m:=1000000) (Aa.cons PV HdU.none) (by kernel_rfl) (by kernel_rfl)
def tI:BB:=⟨110,[],(some ([Jo,(.sc (.int .i64 (.ofNat 25))),(.sc (.int .i64 (.ofNat 190)))],[Jo,(.sc (.int .i64 (.ofNat 31))),(.sc (.int .i64 (.ofNat 190)))])),(.agg [(.sc (.int .i64 (.ofNat 5))),(Ab []),(Ab []),(.sc (.int .i64 (.ofNat 1))),(.sc (.int .i64 (.ofNat 8766))),(.sc (.int .i64 (.ofNat 36525))),(.sc (.int .i64 (.ofNat 8766))),(.sc (.int .i64 (.ofNat 0))),(.sl .full 0 []),(.sl .full 0 []),(.sc (.int .i64 (.ofNat 104)))])⟩
theorem fV {mx:Int}:Ap Tryz.prog (HdU.G mx) tI:=HdU.entry (l:=[Pw,Pb,O6,O5,Pn,OT,OJ,tO,tM]) (m:=1000000) (Aa.cons DL (Aa.cons DE (Aa.cons DM (Aa.cons DP (Aa.cons DJ (Aa.cons DO (Aa.cons DR (Aa.cons iX (Aa.cons fZ HdU.none))))))))) (by kernel_rfl) (by kernel_rfl)
def uF:BB:=⟨75,[],(some ([Jo,(.sc (.int .i64 (.ofNat 33))),(.sc (.int .i64 (.ofNat 190)))],[Jo,(.sc (.int .i64 (.ofNat 35))),(.sc (.int .i64 (.ofNat 190)))])),(.agg [(.sc (.int .i64 (.ofNat 11))),(Ab []),(Ab [69,85,82]),(.sc (.int .i64 (.ofNat 100))),(.sc (.int .i64 (.ofNat 0))),(.sc (.int .i64 (.ofNat 0))),(.sc (.int .i64 (.ofNat 0))),(.sc (.int .i64 (.ofNat 0))),(.sl .full 0 []),(.sl .full 0 []),(.sc (.int .i64 (.ofNat 153)))])⟩
theorem fR {mx:Int}:Ap Tryz.prog (HdU.G mx) uF:=HdU.entry (l:=[e1,Pw,Pb,O6,O5,Pn,OT,OJ,RI,RL]) (m:=1000000) (Aa.cons GM (Aa.cons DL (Aa.cons DE (Aa.cons DM (Aa.cons DP (Aa.cons DJ (Aa.cons DO (Aa.cons DR (Aa.cons EZ (Aa.cons EY HdU.none)))))))))) (by kernel_rfl) (by kernel_rfl)
def tA:BB:=⟨111,[(.sc (.int .i64 (.ofNat 8)))],(some ([Jo,(.sc (.int .i64 (.ofNat 32))),(.sc (.int .i64 (.ofNat 190)))],[Jo,(.sc (.int .i64 (.ofNat 36))),(.sc (.int .i64 (.ofNat 190)))])),(.agg [(.sc (.int .i64 (.ofNat 8))),(Ab []),(Ab []),(.sc (.int .i64 (.ofNat 0))),(.sc (.int .i64 (.ofNat 0))),(.sc (.int .i64 (.ofNat 0))),(.sc (.int .i64 (.ofNat 0))),(.sc (.int .i64 (.ofNat 0))),(.sl .full 0 []),qK,(.sc (.int .i64 (.ofNat 146)))])⟩
theorem eE {mx:Int}:Ap Tryz.prog (HdU.G mx) tA:=HdU.entry (l:=[e1,Pw,Pb,O6,O5,Pn,OT,OJ,RI,RL,uF]) (m:=1000000) (Aa.cons GM (Aa.cons DL (Aa.cons DE (Aa.cons DM (Aa.cons DP (Aa.cons DJ (Aa.cons DO (Aa.cons DR (Aa.cons EZ (Aa.cons EY (Aa.cons fR HdU.none))))))))))) (by kernel_rfl) (by kernel_rfl)
def qA:BB:=⟨71,[],(some ([Jo,(.sc (.int .i64 (.ofNat 21))),(.sc (.int .i64 (.ofNat 190)))],[Jo,(.sc (.int .i64 (.ofNat 37))),(.sc (.int .i64 (.ofNat 190)))])),(.agg [(.sc (.int .i64 (.ofNat 4))),(Ab [98,97,115,105,99]),(Ab []),(.sc (.int .i64 (.ofNat 1))),(.sc (.int .i64 (.ofNat 0))),(.sc (.int .i64 (.ofNat 0))),(.sc (.int .i64 (.ofNat 0))),(.sc (.int .i64 (.ofNat 0))),(.sl .full 0 []),jN,(.sc (.int .i64 (.ofNat 84)))])⟩
theorem Wk {mx:Int}:Ap Tryz.prog (HdU.G mx) qA:=HdU.entry (l:=[Pw,Pb,O6,O5,Pn,OT,OJ,tI,tA]) (m:=1000000) (Aa.cons DL (Aa.cons DE (Aa.cons DM (Aa.cons DP (Aa.cons DJ (Aa.cons DO (Aa.cons DR (Aa.cons fV (Aa.cons eE HdU.none))))))))) (by kernel_rfl) (by kernel_rfl)
def tS:BB:=⟨45,[],(some ([Jo,(.sc (.int .i64 (.ofNat 21))),(.sc (.int .i64 (.ofNat 190)))],[Jo,(.sc (.int .i64 (.ofNat 37))),(.sc (.int .i64 (.ofNat 190)))])),(.agg [(.sc (.int .i64 (.ofNat 4))),(Ab [98,97,115,105,99]),(Ab []),(.sc (.int .i64 (.ofNat 1))),(.sc (.int .i64 (.ofNat 0))),(.sc (.int .i64 (.ofNat 0))),(.sc (.int .i64 (.ofNat 0))),(.sc (.int .i64 (.ofNat 0))),(.sl .full 0 []),jN,(.sc (.int .i64 (.ofNat 84)))])⟩
theorem dJ {mx:Int}:Ap Tryz.prog (HdU.G mx) tS:=HdU.entry (l:=[jH,j1,kZ,pD,qA]) (m:=1000000) (Aa.cons LB (Aa.cons Nz (Aa.cons PX (Aa.cons Sl (Aa.cons Wk HdU.none))))) (by kernel_rfl) (by kernel_rfl)
def tE:BB:=⟨70,[],(some ([Jo,(.sc (.int .i64 (.ofNat 37))),(.sc (.int .i64 (.ofNat 190)))],[Jo,(.sc (.int .i64 (.ofNat 43))),(.sc (.int .i64 (.ofNat 190)))])),(.agg [(.sc (.int .i64 (.ofNat 3))),(Ab [98,97,115,105,99]),(Ab [110,117,109,98,101,114]),(.sc (.int .i64 (.ofNat 4))),(.sc (.int .i64 (.ofNat 0))),(.sc (.int .i64 (.ofNat 0))),(.sc (.int .i64 (.ofNat 0))),(.sc (.int .i64 (.ofNat 0))),(.sl .full 0 []),(.sl .full 0 []),(.sc (.int .i64 (.ofNat 165)))])⟩
theorem fM {mx:Int}:Ap Tryz.prog (HdU.G mx) tE:=HdU.entry (l:=[]) (m:=1000000) HdU.none (by kernel_rfl) (by kernel_rfl)
def tZ:BB:=⟨45,[],(some ([Jo,(.sc (.int .i64 (.ofNat 37))),(.sc (.int .i64 (.ofNat 190)))],[Jo,(.sc (.int .i64 (.ofNat 43))),(.sc (.int .i64 (.ofNat 190)))])),(.agg [(.sc (.int .i64 (.ofNat 3))),(Ab [98,97,115,105,99]),(Ab [110,117,109,98,101,114]),(.sc (.int .i64 (.ofNat 4))),(.sc (.int .i64 (.ofNat 0))),(.sc (.int .i64 (.ofNat 0))),(.sc (.int .i64 (.ofNat 0))),(.sc (.int .i64 (.ofNat 0))),(.sl .full 0 []),(.sl .full 0 []),(.sc (.int .i64 (.ofNat 165)))])⟩
theorem gT {mx:Int}:Ap Tryz.prog (HdU.G mx) tZ:=HdU.entry (l:=[jH,j1,kZ,pD,qA,tE]) (m:=1000000) (Aa.cons LB (Aa.cons Nz (Aa.cons PX (Aa.cons Sl (Aa.cons Wk (Aa.cons fM HdU.none)))))) (by kernel_rfl) (by kernel_rfl)
def uE:BB:=⟨27,[sI],none,(.Bq [(.agg [(.sc (.int .i64 (.ofNat 1))),(Ab []),(Ab []),(.sc (.int .i64 (.ofNat 0))),(.sc (.int .i64 (.ofNat 0))),(.sc (.int .i64 (.ofNat 0))),(.sc (.int .i64 (.ofNat 0))),(.sc (.int .i64 (.ofNat 0))),(.sl .full 0 []),qR,(.sc (.int .i64 (.ofNat 0)))]),(.sl .full 0 [])])⟩
theorem eB {mx:Int}:Ap Tryz.prog (HdU.G mx) uE:=HdU.entry (l:=[sM,sE,s6,uR,tR,tS,tZ]) (m:=1000000) (Aa.cons dW (Aa.cons dK (Aa.cons fX (Aa.cons fG (Aa.cons iO (Aa.cons dJ (Aa.cons gT HdU.none))))))) (by kernel_rfl) (by kernel_rfl)
def UE:BB:=⟨29,[(.agg [(.sc (.int .i64 (.ofNat 1))),(Ab []),(Ab []),(.sc (.int .i64 (.ofNat 0))),(.sc (.int .i64 (.ofNat 0))),(.sc (.int .i64 (.ofNat 0))),(.sc (.int .i64 (.ofNat 0))),(.sc (.int .i64 (.ofNat 0))),(.sl .full 0 []),MB,(.sc (.int .i64 (.ofNat 0)))])],none,(.sc (.bool true))⟩
theorem Gj {mx:Int}:Ap Tryz.prog (HdU.G mx) UE:=HdU.entry (l:=[]) (m:=1000000) HdU.none (by kernel_rfl) (by kernel_rfl)
def sC:BB:=⟨16,[(.agg [(.sc (.int .i64 (.ofNat 1))),(Ab []),(Ab []),(.sc (.int .i64 (.ofNat 0))),(.sc (.int .i64 (.ofNat 0))),(.sc (.int .i64 (.ofNat 0))),(.sc (.int .i64 (.ofNat 0))),(.sc (.int .i64 (.ofNat 0))),(.sl .full 0 []),MB,(.sc (.int .i64 (.ofNat 0)))])],none,(.sl .full 0 [])⟩
theorem fY {mx:Int}:Ap Tryz.prog (HdU.G mx) sC:=HdU.entry (l:=[UE]) (m:=1000000) (Aa.cons Gj HdU.none) (by kernel_rfl) (by kernel_rfl)
def sV:BB:=⟨29,[(.agg [(.sc (.int .i64 (.ofNat 16))),(Ab [43]),(Ab []),(.sc (.int .i64 (.ofNat 0))),(.sc (.int .i64 (.ofNat 0))),(.sc (.int .i64 (.ofNat 0))),(.sc (.int .i64 (.ofNat 0))),(.sc (.int .i64 (.ofNat 0))),(.sl .full 0 []),jP,(.sc (.int .i64 (.ofNat 0)))])],none,(.sc (.bool true))⟩
theorem iZ {mx:Int}:Ap Tryz.prog (HdU.G mx) sV:=HdU.entry (l:=[]) (m:=1000000) HdU.none (by kernel_rfl) (by kernel_rfl)
def sG:BB:=⟨13,[(.agg [(.sc (.int .i64 (.ofNat 1))),(Ab []),(Ab []),(.sc (.int .i64 (.ofNat 0))),(.sc (.int .i64 (.ofNat 0))),(.sc (.int .i64 (.ofNat 0))),(.sc (.int .i64 (.ofNat 0))),(.sc (.int .i64 (.ofNat 0))),(.sl .full 0 []),MB,(.sc (.int .i64 (.ofNat 0)))]),(.agg [(.sc (.int .i64 (.ofNat 16))),(Ab [43]),(Ab []),(.sc (.int .i64 (.ofNat 0))),(.sc (.int .i64 (.ofNat 0))),(.sc (.int .i64 (.ofNat 0))),(.sc (.int .i64 (.ofNat 0))),(.sc (.int .i64 (.ofNat 0))),(.sl .full 0 []),jP,(.sc (.int .i64 (.ofNat 0)))])],none,(.Bq [(Ab [69,85,82]),(.sl .full 0 [])])⟩
theorem dB {mx:Int}:Ap Tryz.prog (HdU.G mx) sG:=HdU.entry (l:=[UE,sV]) (m:=1000000) (Aa.cons Gj (Aa.cons iZ HdU.none)) (by kernel_rfl) (by kernel_rfl)
def uL:BB:=⟨28,[(.agg [(.sc (.int .i64 (.ofNat 1))),(Ab []),(Ab []),(.sc (.int .i64 (.ofNat 0))),(.sc (.int .i64 (.ofNat 0))),(.sc (.int .i64 (.ofNat 0))),(.sc (.int .i64 (.ofNat 0))),(.sc (.int .i64 (.ofNat 0))),(.sl .full 0 []),MB,(.sc (.int .i64 (.ofNat 0)))]),k6,(Ab [69,85,82]),(.sc (.int .i64 (.ofNat 0)))],none,(.sc (.bool true))⟩
theorem jL {mx:Int}:Ap Tryz.prog (HdU.G mx) uL:=HdU.entry (l:=[sK,sG]) (m:=1000000) (Aa.cons eL (Aa.cons dB HdU.none)) (by kernel_rfl) (by kernel_rfl)
def tU:BB:=⟨29,[(.agg [(.sc (.int .i64 (.ofNat 16))),(Ab [97,110,100]),(Ab []),(.sc (.int .i64 (.ofNat 0))),(.sc (.int .i64 (.ofNat 0))),(.sc (.int .i64 (.ofNat 0))),(.sc (.int .i64 (.ofNat 0))),(.sc (.int .i64 (.ofNat 0))),(.sl .full 0 []),j3,(.sc (.int .i64 (.ofNat 0)))])],none,(.sc (.bool true))⟩
theorem gV {mx:Int}:Ap Tryz.prog (HdU.G mx) tU:=HdU.entry (l:=[]) (m:=1000000) HdU.none (by kernel_rfl) (by kernel_rfl)
def tG:BB:=⟨13,[(.agg [(.sc (.int .i64 (.ofNat 1))),(Ab []),(Ab []),(.sc (.int .i64 (.ofNat 0))),(.sc (.int .i64 (.ofNat 0))),(.sc (.int .i64 (.ofNat 0))),(.sc (.int .i64 (.ofNat 0))),(.sc (.int .i64 (.ofNat 0))),(.sl .full 0 []),MB,(.sc (.int .i64 (.ofNat 0)))]),(.agg [(.sc (.int .i64 (.ofNat 16))),(Ab [97,110,100]),(Ab []),(.sc (.int .i64 (.ofNat 0))),(.sc (.int .i64 (.ofNat 0))),(.sc (.int .i64 (.ofNat 0))),(.sc (.int .i64 (.ofNat 0))),(.sc (.int .i64 (.ofNat 0))),(.sl .full 0 []),j3,(.sc (.int .i64 (.ofNat 0)))])],none,(.Bq [(Ab [116,114,117,116,104]),(.sl .full 0 [])])⟩
theorem gF {mx:Int}:Ap Tryz.prog (HdU.G mx) tG:=HdU.entry (l:=[UE,tU]) (m:=1000000) (Aa.cons Gj (Aa.cons gV HdU.none)) (by kernel_rfl) (by kernel_rfl)
end Go.Proofs.YtkfplcngmiljaaaGreatDoor
namespace Go.Proofs.YtkfplcngmiljaaaGreatDoor
open AI
set_option maxRecDepth 100000
set_option maxHeartbeats 4000000
def tY:BB:=⟨28,[(.agg [(.sc (.int .i64 (.ofNat 1))),(Ab []),(Ab []),(.sc (.int .i64 (.ofNat 0))),(.sc (.int .i64 (.ofNat 0))),(.sc (.int .i64 (.ofNat 0))),(.sc (.int .i64 (.ofNat 0))),(.sc (.int .i64 (.ofNat 0))),(.sl .full 0 []),MB,(.sc (.int .i64 (.ofNat 0)))]),k8,(Ab [116,114,117,116,104]),(.sc (.int .i64 (.ofNat 0)))],none,(.sc (.bool true))⟩
theorem gE {mx:Int}:Ap Tryz.prog (HdU.G mx) tY:=HdU.entry (l:=[tD,tG]) (m:=1000000) (Aa.cons dH (Aa.cons gF HdU.none)) (by kernel_rfl) (by kernel_rfl)
def uJ:BB:=⟨29,[(.agg [(.sc (.int .i64 (.ofNat 15))),(Ab []),(Ab []),(.sc (.int .i64 (.ofNat 0))),(.sc (.int .i64 (.ofNat 0))),(.sc (.int .i64 (.ofNat 0))),(.sc (.int .i64 (.ofNat 0))),(.sc (.int .i64 (.ofNat 0))),(.sl .full 0 []),kC,(.sc (.int .i64 (.ofNat 0)))])],none,(.sc (.bool true))⟩
theorem gA {mx:Int}:Ap Tryz.prog (HdU.G mx) uJ:=HdU.entry (l:=[]) (m:=1000000) HdU.none (by kernel_rfl) (by kernel_rfl)
def kK:BB:=⟨13,[(.agg [(.sc (.int .i64 (.ofNat 1))),(Ab []),(Ab []),(.sc (.int .i64 (.ofNat 0))),(.sc (.int .i64 (.ofNat 0))),(.sc (.int .i64 (.ofNat 0))),(.sc (.int .i64 (.ofNat 0))),(.sc (.int .i64 (.ofNat 0))),(.sl .full 0 []),MB,(.sc (.int .i64 (.ofNat 0)))]),(.agg [(.sc (.int .i64 (.ofNat 15))),(Ab []),(Ab []),(.sc (.int .i64 (.ofNat 0))),(.sc (.int .i64 (.ofNat 0))),(.sc (.int .i64 (.ofNat 0))),(.sc (.int .i64 (.ofNat 0))),(.sc (.int .i64 (.ofNat 0))),(.sl .full 0 []),kC,(.sc (.int .i64 (.ofNat 0)))])],none,(.Bq [(Ab [116,114,117,116,104]),(.sl .full 0 [])])⟩
theorem X7 {mx:Int}:Ap Tryz.prog (HdU.G mx) kK:=HdU.entry (l:=[UE,uJ]) (m:=1000000) (Aa.cons Gj (Aa.cons gA HdU.none)) (by kernel_rfl) (by kernel_rfl)
def oF:BB:=⟨28,[(.agg [(.sc (.int .i64 (.ofNat 1))),(Ab []),(Ab []),(.sc (.int .i64 (.ofNat 0))),(.sc (.int .i64 (.ofNat 0))),(.sc (.int .i64 (.ofNat 0))),(.sc (.int .i64 (.ofNat 0))),(.sc (.int .i64 (.ofNat 0))),(.sl .full 0 []),MB,(.sc (.int .i64 (.ofNat 0)))]),rT,(Ab [116,114,117,116,104]),(.sc (.int .i64 (.ofNat 0)))],none,(.sc (.bool true))⟩
theorem ZV {mx:Int}:Ap Tryz.prog (HdU.G mx) oF:=HdU.entry (l:=[uC,kK]) (m:=1000000) (Aa.cons jF (Aa.cons X7 HdU.none)) (by kernel_rfl) (by kernel_rfl)
def nN:BB:=⟨29,[(.agg [(.sc (.int .i64 (.ofNat 16))),(Ab [47]),(Ab []),(.sc (.int .i64 (.ofNat 0))),(.sc (.int .i64 (.ofNat 0))),(.sc (.int .i64 (.ofNat 0))),(.sc (.int .i64 (.ofNat 0))),(.sc (.int .i64 (.ofNat 0))),(.sl .full 0 []),j8,(.sc (.int .i64 (.ofNat 0)))])],none,(.sc (.bool true))⟩
theorem YX {mx:Int}:Ap Tryz.prog (HdU.G mx) nN:=HdU.entry (l:=[]) (m:=1000000) HdU.none (by kernel_rfl) (by kernel_rfl)
def kF:BB:=⟨13,[(.agg [(.sc (.int .i64 (.ofNat 1))),(Ab []),(Ab []),(.sc (.int .i64 (.ofNat 0))),(.sc (.int .i64 (.ofNat 0))),(.sc (.int .i64 (.ofNat 0))),(.sc (.int .i64 (.ofNat 0))),(.sc (.int .i64 (.ofNat 0))),(.sl .full 0 []),MB,(.sc (.int .i64 (.ofNat 0)))]),(.agg [(.sc (.int .i64 (.ofNat 16))),(Ab [47]),(Ab []),(.sc (.int .i64 (.ofNat 0))),(.sc (.int .i64 (.ofNat 0))),(.sc (.int .i64 (.ofNat 0))),(.sc (.int .i64 (.ofNat 0))),(.sc (.int .i64 (.ofNat 0))),(.sl .full 0 []),j8,(.sc (.int .i64 (.ofNat 0)))])],none,(.Bq [(Ab [69,85,82]),(.sl .full 0 [])])⟩
theorem Yk {mx:Int}:Ap Tryz.prog (HdU.G mx) kF:=HdU.entry (l:=[UE,nN]) (m:=1000000) (Aa.cons Gj (Aa.cons YX HdU.none)) (by kernel_rfl) (by kernel_rfl)
def lB:BB:=⟨28,[(.agg [(.sc (.int .i64 (.ofNat 1))),(Ab []),(Ab []),(.sc (.int .i64 (.ofNat 0))),(.sc (.int .i64 (.ofNat 0))),(.sc (.int .i64 (.ofNat 0))),(.sc (.int .i64 (.ofNat 0))),(.sc (.int .i64 (.ofNat 0))),(.sl .full 0 []),MB,(.sc (.int .i64 (.ofNat 0)))]),Wg,(Ab [69,85,82]),(.sc (.int .i64 (.ofNat 0)))],none,(.sc (.bool true))⟩
theorem Yv {mx:Int}:Ap Tryz.prog (HdU.G mx) lB:=HdU.entry (l:=[uM,kF]) (m:=1000000) (Aa.cons jD (Aa.cons Yk HdU.none)) (by kernel_rfl) (by kernel_rfl)
def mC:BB:=⟨29,[(.agg [(.sc (.int .i64 (.ofNat 16))),(Ab [42]),(Ab []),(.sc (.int .i64 (.ofNat 0))),(.sc (.int .i64 (.ofNat 0))),(.sc (.int .i64 (.ofNat 0))),(.sc (.int .i64 (.ofNat 0))),(.sc (.int .i64 (.ofNat 0))),(.sl .full 0 []),j4,(.sc (.int .i64 (.ofNat 0)))])],none,(.sc (.bool true))⟩
theorem YS {mx:Int}:Ap Tryz.prog (HdU.G mx) mC:=HdU.entry (l:=[]) (m:=1000000) HdU.none (by kernel_rfl) (by kernel_rfl)
def nP:BB:=⟨13,[(.agg [(.sc (.int .i64 (.ofNat 1))),(Ab []),(Ab []),(.sc (.int .i64 (.ofNat 0))),(.sc (.int .i64 (.ofNat 0))),(.sc (.int .i64 (.ofNat 0))),(.sc (.int .i64 (.ofNat 0))),(.sc (.int .i64 (.ofNat 0))),(.sl .full 0 []),MB,(.sc (.int .i64 (.ofNat 0)))]),(.agg [(.sc (.int .i64 (.ofNat 16))),(Ab [42]),(Ab []),(.sc (.int .i64 (.ofNat 0))),(.sc (.int .i64 (.ofNat 0))),(.sc (.int .i64 (.ofNat 0))),(.sc (.int .i64 (.ofNat 0))),(.sc (.int .i64 (.ofNat 0))),(.sl .full 0 []),j4,(.sc (.int .i64 (.ofNat 0)))])],none,(.Bq [k1,(.sl .full 0 [])])⟩
theorem YM {mx:Int}:Ap Tryz.prog (HdU.G mx) nP:=HdU.entry (l:=[UE,mC]) (m:=1000000) (Aa.cons Gj (Aa.cons YS HdU.none)) (by kernel_rfl) (by kernel_rfl)
def kR:BB:=⟨28,[(.agg [(.sc (.int .i64 (.ofNat 1))),(Ab []),(Ab []),(.sc (.int .i64 (.ofNat 0))),(.sc (.int .i64 (.ofNat 0))),(.sc (.int .i64 (.ofNat 0))),(.sc (.int .i64 (.ofNat 0))),(.sc (.int .i64 (.ofNat 0))),(.sl .full 0 []),MB,(.sc (.int .i64 (.ofNat 0)))]),WD,k1,(.sc (.int .i64 (.ofNat 0)))],none,(.sc (.bool true))⟩
theorem Z8 {mx:Int}:Ap Tryz.prog (HdU.G mx) kR:=HdU.entry (l:=[tB,nP]) (m:=1000000) (Aa.cons hJ (Aa.cons YM HdU.none)) (by kernel_rfl) (by kernel_rfl)
def lR:BB:=⟨29,[(.agg [(.sc (.int .i64 (.ofNat 16))),(Ab [42]),(Ab []),(.sc (.int .i64 (.ofNat 0))),(.sc (.int .i64 (.ofNat 0))),(.sc (.int .i64 (.ofNat 0))),(.sc (.int .i64 (.ofNat 0))),(.sc (.int .i64 (.ofNat 0))),(.sl .full 0 []),jR,(.sc (.int .i64 (.ofNat 0)))])],none,(.sc (.bool true))⟩
theorem Zp {mx:Int}:Ap Tryz.prog (HdU.G mx) lR:=HdU.entry (l:=[]) (m:=1000000) HdU.none (by kernel_rfl) (by kernel_rfl)
def l9:BB:=⟨13,[(.agg [(.sc (.int .i64 (.ofNat 1))),(Ab []),(Ab []),(.sc (.int .i64 (.ofNat 0))),(.sc (.int .i64 (.ofNat 0))),(.sc (.int .i64 (.ofNat 0))),(.sc (.int .i64 (.ofNat 0))),(.sc (.int .i64 (.ofNat 0))),(.sl .full 0 []),MB,(.sc (.int .i64 (.ofNat 0)))]),(.agg [(.sc (.int .i64 (.ofNat 16))),(Ab [42]),(Ab []),(.sc (.int .i64 (.ofNat 0))),(.sc (.int .i64 (.ofNat 0))),(.sc (.int .i64 (.ofNat 0))),(.sc (.int .i64 (.ofNat 0))),(.sc (.int .i64 (.ofNat 0))),(.sl .full 0 []),jR,(.sc (.int .i64 (.ofNat 0)))])],none,(.Bq [(Ab []),(.sl .lost 1 [(.sc (.int .i64 (.ofNat 11))),(.sc (.int .i64 (.ofNat 0)))])])⟩
theorem Zo {mx:Int}:Ap Tryz.prog (HdU.G mx) l9:=HdU.entry (l:=[UE,lR]) (m:=1000000) (Aa.cons Gj (Aa.cons Zp HdU.none)) (by kernel_rfl) (by kernel_rfl)
def lN:BB:=⟨28,[(.agg [(.sc (.int .i64 (.ofNat 1))),(Ab []),(Ab []),(.sc (.int .i64 (.ofNat 0))),(.sc (.int .i64 (.ofNat 0))),(.sc (.int .i64 (.ofNat 0))),(.sc (.int .i64 (.ofNat 0))),(.sc (.int .i64 (.ofNat 0))),(.sl .full 0 []),MB,(.sc (.int .i64 (.ofNat 0)))]),TX,(Ab []),(.sc (.int .i64 (.ofNat 11)))],none,(.sc (.bool true))⟩
theorem Yw {mx:Int}:Ap Tryz.prog (HdU.G mx) lN:=HdU.entry (l:=[sO,l9]) (m:=1000000) (Aa.cons fH (Aa.cons Zo HdU.none)) (by kernel_rfl) (by kernel_rfl)
def n9:BB:=⟨29,[(.agg [(.sc (.int .i64 (.ofNat 16))),(Ab [43]),(Ab []),(.sc (.int .i64 (.ofNat 0))),(.sc (.int .i64 (.ofNat 0))),(.sc (.int .i64 (.ofNat 0))),(.sc (.int .i64 (.ofNat 0))),(.sc (.int .i64 (.ofNat 0))),(.sl .full 0 []),kA,(.sc (.int .i64 (.ofNat 0)))])],none,(.sc (.bool true))⟩
theorem Zn {mx:Int}:Ap Tryz.prog (HdU.G mx) n9:=HdU.entry (l:=[]) (m:=1000000) HdU.none (by kernel_rfl) (by kernel_rfl)
def oL:BB:=⟨13,[(.agg [(.sc (.int .i64 (.ofNat 1))),(Ab []),(Ab []),(.sc (.int .i64 (.ofNat 0))),(.sc (.int .i64 (.ofNat 0))),(.sc (.int .i64 (.ofNat 0))),(.sc (.int .i64 (.ofNat 0))),(.sc (.int .i64 (.ofNat 0))),(.sl .full 0 []),MB,(.sc (.int .i64 (.ofNat 0)))]),(.agg [(.sc (.int .i64 (.ofNat 16))),(Ab [43]),(Ab []),(.sc (.int .i64 (.ofNat 0))),(.sc (.int .i64 (.ofNat 0))),(.sc (.int .i64 (.ofNat 0))),(.sc (.int .i64 (.ofNat 0))),(.sc (.int .i64 (.ofNat 0))),(.sl .full 0 []),kA,(.sc (.int .i64 (.ofNat 0)))])],none,(.Bq [(Ab []),(.sl .lost 1 [(.sc (.int .i64 (.ofNat 11))),(.sc (.int .i64 (.ofNat 0)))])])⟩
theorem Yo {mx:Int}:Ap Tryz.prog (HdU.G mx) oL:=HdU.entry (l:=[UE,n9]) (m:=1000000) (Aa.cons Gj (Aa.cons Zn HdU.none)) (by kernel_rfl) (by kernel_rfl)
def nO:BB:=⟨28,[(.agg [(.sc (.int .i64 (.ofNat 1))),(Ab []),(Ab []),(.sc (.int .i64 (.ofNat 0))),(.sc (.int .i64 (.ofNat 0))),(.sc (.int .i64 (.ofNat 0))),(.sc (.int .i64 (.ofNat 0))),(.sc (.int .i64 (.ofNat 0))),(.sl .full 0 []),MB,(.sc (.int .i64 (.ofNat 0)))]),WJ,(Ab []),(.sc (.int .i64 (.ofNat 11)))],none,(.sc (.bool true))⟩
theorem Yx {mx:Int}:Ap Tryz.prog (HdU.G mx) nO:=HdU.entry (l:=[uA,oL]) (m:=1000000) (Aa.cons dI (Aa.cons Yo HdU.none)) (by kernel_rfl) (by kernel_rfl)
def mM:BB:=⟨29,[(.agg [(.sc (.int .i64 (.ofNat 16))),(Ab [43]),(Ab []),(.sc (.int .i64 (.ofNat 0))),(.sc (.int .i64 (.ofNat 0))),(.sc (.int .i64 (.ofNat 0))),(.sc (.int .i64 (.ofNat 0))),(.sc (.int .i64 (.ofNat 0))),(.sl .full 0 []),kE,(.sc (.int .i64 (.ofNat 0)))])],none,(.sc (.bool true))⟩
theorem YT {mx:Int}:Ap Tryz.prog (HdU.G mx) mM:=HdU.entry (l:=[]) (m:=1000000) HdU.none (by kernel_rfl) (by kernel_rfl)
def nH:BB:=⟨13,[(.agg [(.sc (.int .i64 (.ofNat 1))),(Ab []),(Ab []),(.sc (.int .i64 (.ofNat 0))),(.sc (.int .i64 (.ofNat 0))),(.sc (.int .i64 (.ofNat 0))),(.sc (.int .i64 (.ofNat 0))),(.sc (.int .i64 (.ofNat 0))),(.sl .full 0 []),MB,(.sc (.int .i64 (.ofNat 0)))]),(.agg [(.sc (.int .i64 (.ofNat 16))),(Ab [43]),(Ab []),(.sc (.int .i64 (.ofNat 0))),(.sc (.int .i64 (.ofNat 0))),(.sc (.int .i64 (.ofNat 0))),(.sc (.int .i64 (.ofNat 0))),(.sc (.int .i64 (.ofNat 0))),(.sl .full 0 []),kE,(.sc (.int .i64 (.ofNat 0)))])],none,(.Bq [(Ab []),(.sl .lost 1 [(.sc (.int .i64 (.ofNat 91))),(.sc (.int .i64 (.ofNat 0)))])])⟩
theorem Yj {mx:Int}:Ap Tryz.prog (HdU.G mx) nH:=HdU.entry (l:=[UE,mM]) (m:=1000000) (Aa.cons Gj (Aa.cons YT HdU.none)) (by kernel_rfl) (by kernel_rfl)
end Go.Proofs.YtkfplcngmiljaaaGreatDoor
namespace Go.Proofs.YtkfplcngmiljaaaGreatDoor
open AI
set_option maxRecDepth 100000
set_option maxHeartbeats 4000000
def oQ:BB:=⟨28,[(.agg [(.sc (.int .i64 (.ofNat 1))),(Ab []),(Ab []),(.sc (.int .i64 (.ofNat 0))),(.sc (.int .i64 (.ofNat 0))),(.sc (.int .i64 (.ofNat 0))),(.sc (.int .i64 (.ofNat 0))),(.sc (.int .i64 (.ofNat 0))),(.sl .full 0 []),MB,(.sc (.int .i64 (.ofNat 0)))]),(Ab [120,32,43,32,49]),(Ab []),(.sc (.int .i64 (.ofNat 91)))],none,(.sc (.bool true))⟩
theorem Z2 {mx:Int}:Ap Tryz.prog (HdU.G mx) oQ:=HdU.entry (l:=[uG,nH]) (m:=1000000) (Aa.cons eH (Aa.cons Yj HdU.none)) (by kernel_rfl) (by kernel_rfl)
def oM:BB:=⟨29,[(.agg [(.sc (.int .i64 (.ofNat 13))),(Ab []),(Ab []),(.sc (.int .i64 (.ofNat 2))),(.sc (.int .i64 (.ofNat 0))),(.sc (.int .i64 (.ofNat 0))),(.sc (.int .i64 (.ofNat 0))),(.sc (.int .i64 (.ofNat 0))),(.sl .full 0 []),(.sl .full 0 []),(.sc (.int .i64 (.ofNat 0)))])],none,(.sc (.bool true))⟩
theorem YF {mx:Int}:Ap Tryz.prog (HdU.G mx) oM:=HdU.entry (l:=[]) (m:=1000000) HdU.none (by kernel_rfl) (by kernel_rfl)
def oE:BB:=⟨13,[(.agg [(.sc (.int .i64 (.ofNat 1))),(Ab []),(Ab []),(.sc (.int .i64 (.ofNat 0))),(.sc (.int .i64 (.ofNat 0))),(.sc (.int .i64 (.ofNat 0))),(.sc (.int .i64 (.ofNat 0))),(.sc (.int .i64 (.ofNat 0))),(.sl .full 0 []),MB,(.sc (.int .i64 (.ofNat 0)))]),(.agg [(.sc (.int .i64 (.ofNat 13))),(Ab []),(Ab []),(.sc (.int .i64 (.ofNat 2))),(.sc (.int .i64 (.ofNat 0))),(.sc (.int .i64 (.ofNat 0))),(.sc (.int .i64 (.ofNat 0))),(.sc (.int .i64 (.ofNat 0))),(.sl .full 0 []),(.sl .full 0 []),(.sc (.int .i64 (.ofNat 0)))])],none,(.Bq [(Ab []),(.sl .lost 1 [(.sc (.int .i64 (.ofNat 91))),(.sc (.int .i64 (.ofNat 0)))])])⟩
theorem aA {mx:Int}:Ap Tryz.prog (HdU.G mx) oE:=HdU.entry (l:=[UE,oM]) (m:=1000000) (Aa.cons Gj (Aa.cons YF HdU.none)) (by kernel_rfl) (by kernel_rfl)
def mY:BB:=⟨28,[(.agg [(.sc (.int .i64 (.ofNat 1))),(Ab []),(Ab []),(.sc (.int .i64 (.ofNat 0))),(.sc (.int .i64 (.ofNat 0))),(.sc (.int .i64 (.ofNat 0))),(.sc (.int .i64 (.ofNat 0))),(.sc (.int .i64 (.ofNat 0))),(.sl .full 0 []),MB,(.sc (.int .i64 (.ofNat 0)))]),(Ab [97,114,116,32,50]),(Ab []),(.sc (.int .i64 (.ofNat 91)))],none,(.sc (.bool true))⟩
theorem YA {mx:Int}:Ap Tryz.prog (HdU.G mx) mY:=HdU.entry (l:=[sL,oE]) (m:=1000000) (Aa.cons fB (Aa.cons aA HdU.none)) (by kernel_rfl) (by kernel_rfl)
def mL:BB:=⟨29,[(.agg [(.sc (.int .i64 (.ofNat 18))),(Ab []),(Ab []),(.sc (.int .i64 (.ofNat 0))),(.sc (.int .i64 (.ofNat 0))),(.sc (.int .i64 (.ofNat 0))),(.sc (.int .i64 (.ofNat 0))),(.sc (.int .i64 (.ofNat 10))),(.sl .lost 1 [(.sc (.int .i64 (.ofNat 0))),(.sc (.int .i64 (.ofNat 0))),(.sc (.int .i64 (.ofNat 1)))]),jQ,(.sc (.int .i64 (.ofNat 0)))])],none,(.sc (.bool true))⟩
theorem Zr {mx:Int}:Ap Tryz.prog (HdU.G mx) mL:=HdU.entry (l:=[]) (m:=1000000) HdU.none (by kernel_rfl) (by kernel_rfl)
def lX:BB:=⟨13,[(.agg [(.sc (.int .i64 (.ofNat 1))),(Ab []),(Ab []),(.sc (.int .i64 (.ofNat 0))),(.sc (.int .i64 (.ofNat 0))),(.sc (.int .i64 (.ofNat 0))),(.sc (.int .i64 (.ofNat 0))),(.sc (.int .i64 (.ofNat 0))),(.sl .full 0 []),MB,(.sc (.int .i64 (.ofNat 0)))]),(.agg [(.sc (.int .i64 (.ofNat 18))),(Ab []),(Ab []),(.sc (.int .i64 (.ofNat 0))),(.sc (.int .i64 (.ofNat 0))),(.sc (.int .i64 (.ofNat 0))),(.sc (.int .i64 (.ofNat 0))),(.sc (.int .i64 (.ofNat 10))),(.sl .lost 1 [(.sc (.int .i64 (.ofNat 0))),(.sc (.int .i64 (.ofNat 0))),(.sc (.int .i64 (.ofNat 1)))]),jQ,(.sc (.int .i64 (.ofNat 0)))])],none,(.Bq [(Ab []),(.sl .lost 1 [(.sc (.int .i64 (.ofNat 11))),(.sc (.int .i64 (.ofNat 0)))])])⟩
theorem aR {mx:Int}:Ap Tryz.prog (HdU.G mx) lX:=HdU.entry (l:=[UE,mL]) (m:=1000000) (Aa.cons Gj (Aa.cons Zr HdU.none)) (by kernel_rfl) (by kernel_rfl)
def lC:BB:=⟨28,[(.agg [(.sc (.int .i64 (.ofNat 1))),(Ab []),(Ab []),(.sc (.int .i64 (.ofNat 0))),(.sc (.int .i64 (.ofNat 0))),(.sc (.int .i64 (.ofNat 0))),(.sc (.int .i64 (.ofNat 0))),(.sc (.int .i64 (.ofNat 0))),(.sl .full 0 []),MB,(.sc (.int .i64 (.ofNat 0)))]),qL,(Ab []),(.sc (.int .i64 (.ofNat 11)))],none,(.sc (.bool true))⟩
theorem Zl {mx:Int}:Ap Tryz.prog (HdU.G mx) lC:=HdU.entry (l:=[sX,lX]) (m:=1000000) (Aa.cons eF (Aa.cons aR HdU.none)) (by kernel_rfl) (by kernel_rfl)
def lH:BB:=⟨29,[(.agg [(.sc (.int .i64 (.ofNat 17))),(Ab [108,101,97,115,116]),(Ab []),(.sc (.int .i64 (.ofNat 0))),(.sc (.int .i64 (.ofNat 0))),(.sc (.int .i64 (.ofNat 0))),(.sc (.int .i64 (.ofNat 0))),(.sc (.int .i64 (.ofNat 0))),(.sl .full 0 []),jW,(.sc (.int .i64 (.ofNat 0)))])],none,(.sc (.bool true))⟩
theorem YB {mx:Int}:Ap Tryz.prog (HdU.G mx) lH:=HdU.entry (l:=[]) (m:=1000000) HdU.none (by kernel_rfl) (by kernel_rfl)
def lU:BB:=⟨13,[(.agg [(.sc (.int .i64 (.ofNat 1))),(Ab []),(Ab []),(.sc (.int .i64 (.ofNat 0))),(.sc (.int .i64 (.ofNat 0))),(.sc (.int .i64 (.ofNat 0))),(.sc (.int .i64 (.ofNat 0))),(.sc (.int .i64 (.ofNat 0))),(.sl .full 0 []),MB,(.sc (.int .i64 (.ofNat 0)))]),(.agg [(.sc (.int .i64 (.ofNat 17))),(Ab [108,101,97,115,116]),(Ab []),(.sc (.int .i64 (.ofNat 0))),(.sc (.int .i64 (.ofNat 0))),(.sc (.int .i64 (.ofNat 0))),(.sc (.int .i64 (.ofNat 0))),(.sc (.int .i64 (.ofNat 0))),(.sl .full 0 []),jW,(.sc (.int .i64 (.ofNat 0)))])],none,(.Bq [(Ab [69,85,82]),(.sl .full 0 [])])⟩
theorem Y2 {mx:Int}:Ap Tryz.prog (HdU.G mx) lU:=HdU.entry (l:=[UE,lH]) (m:=1000000) (Aa.cons Gj (Aa.cons YB HdU.none)) (by kernel_rfl) (by kernel_rfl)
def mZ:BB:=⟨28,[(.agg [(.sc (.int .i64 (.ofNat 1))),(Ab []),(Ab []),(.sc (.int .i64 (.ofNat 0))),(.sc (.int .i64 (.ofNat 0))),(.sc (.int .i64 (.ofNat 0))),(.sc (.int .i64 (.ofNat 0))),(.sc (.int .i64 (.ofNat 0))),(.sl .full 0 []),MB,(.sc (.int .i64 (.ofNat 0)))]),pI,(Ab [69,85,82]),(.sc (.int .i64 (.ofNat 0)))],none,(.sc (.bool true))⟩
theorem Zi {mx:Int}:Ap Tryz.prog (HdU.G mx) mZ:=HdU.entry (l:=[sH,lU]) (m:=1000000) (Aa.cons jE (Aa.cons Y2 HdU.none)) (by kernel_rfl) (by kernel_rfl)
def mW:BB:=⟨29,[(.agg [(.sc (.int .i64 (.ofNat 1))),(Ab []),(Ab []),(.sc (.int .i64 (.ofNat 0))),(.sc (.int .i64 (.ofNat 0))),(.sc (.int .i64 (.ofNat 0))),(.sc (.int .i64 (.ofNat 0))),(.sc (.int .i64 (.ofNat 0))),(.sl .full 0 []),qR,(.sc (.int .i64 (.ofNat 0)))])],none,(.sc (.bool true))⟩
theorem Yg {mx:Int}:Ap Tryz.prog (HdU.G mx) mW:=HdU.entry (l:=[]) (m:=1000000) HdU.none (by kernel_rfl) (by kernel_rfl)
def nE:BB:=⟨16,[(.agg [(.sc (.int .i64 (.ofNat 1))),(Ab []),(Ab []),(.sc (.int .i64 (.ofNat 0))),(.sc (.int .i64 (.ofNat 0))),(.sc (.int .i64 (.ofNat 0))),(.sc (.int .i64 (.ofNat 0))),(.sc (.int .i64 (.ofNat 0))),(.sl .full 0 []),qR,(.sc (.int .i64 (.ofNat 0)))])],none,(.sl .lost 1 [(.sc (.int .i64 (.ofNat 5))),(.sc (.int .i64 (.ofNat 165)))])⟩
theorem ZL {mx:Int}:Ap Tryz.prog (HdU.G mx) nE:=HdU.entry (l:=[mW]) (m:=1000000) (Aa.cons Yg HdU.none) (by kernel_rfl) (by kernel_rfl)
def n7:BB:=⟨11,[],none,(.sc (.bool true))⟩
theorem Za {mx:Int}:Ap Tryz.prog (HdU.G mx) n7:=HdU.entry (l:=[tK,uE,sC,uL,tY,oF,lB,kR,lN,nO,oQ,mY,lC,mZ,nE]) (m:=1000000) (Aa.cons eA (Aa.cons eB (Aa.cons fY (Aa.cons jL (Aa.cons gE (Aa.cons ZV (Aa.cons Yv (Aa.cons Z8 (Aa.cons Yw (Aa.cons Yx (Aa.cons Z2 (Aa.cons YA (Aa.cons Zl (Aa.cons Zi (Aa.cons ZL HdU.none))))))))))))))) (by kernel_rfl) (by kernel_rfl)
theorem Z4 (mx:Int) (s:AS):Sound Tryz.prog (HdU.G mx) (.call 11 [] s (.ret (.sc (.bool true))) s):=(Za:Ap Tryz.prog (HdU.G mx) n7) s
end Go.Proofs.YtkfplcngmiljaaaGreatDoor
namespace Go.Proofs.YtkfplcngmiljaaaGreatDoor
open AI Go
namespace Mo
set_option maxRecDepth 100000
set_option maxHeartbeats 4000000
abbrev GU (mx:Int):Ay:=HdU.G mx
theorem up {mx:Int} {f:FuncId} {args:List AV} {v:AV} (h:Pure P G f args v):Pure P (GU mx) f args v:=by
 intro s cx w vs hs ha
 have hs0:St G cx w s:=⟨hs.len,hs.desc,hs.nodup,hs.low,hs.box,hs.rlen,hs.row,hs.rfree,hs.plow,hs.blow,hs.rdist,(fun _ _ h=>nomatch h),hs.bsz⟩
 refine (h s cx w vs hs0 ha).mono ?_
 rintro e w' ⟨c',hx,st,hr⟩
 exact ⟨c',hx,⟨st.len,st.desc,st.nodup,st.low,st.box,st.rlen,st.row,st.rfree,st.plow,st.blow,st.rdist,(fun g cs h=>(hs.glob g cs h).mono hx),st.bsz⟩,hr⟩
noncomputable def Lm:Option Bool:=some true
theorem Ov {mx:Int} {yR:Bool} (h:Lm=some yR):Pure P (GU mx) 11 [] (.sc (.bool yR)):=by
 cases h
 exact fun s=>Z4 mx s
variable {mx:Int}
noncomputable def B3:Code:=AU Tryz.f3
theorem b3:Tryz.f3.body=some B3:=by kernel_rfl
noncomputable def B5:Code:=AU Tryz.f5
theorem b5:Tryz.f5.body=some B5:=by kernel_rfl
noncomputable def B6:Code:=AU Tryz.f6
theorem b6:Tryz.f6.body=some B6:=by kernel_rfl
noncomputable def B9:Code:=AU Tryz.f9
theorem b9:Tryz.f9.body=some B9:=by kernel_rfl
noncomputable def DD  (source:Nd) (e:Nd) (path:(List Int)) (part:Nd):Option Bool:=(Lm).bind fun y1=>(F1 source e).bind fun y2=>cond y2 ((CX part 400).bind fun y3=>cond y3 (cond (ES 60 ((path.length:Nat):Int)) (some y1) ((CE e).bind fun y4=>cond y4 ((Jh e path part).bind fun (y5a,y5b)=>(CE y5a).bind fun y6=>cond y6 ((CW source e).bind fun (y7a,y7b)=>(CW source y5b).bind fun (y8a,y8b)=>(CW source part).bind fun (y9a,y9b)=>cond (ES 0 ((y7b.length:Nat):Int)) (some y1) (cond (ES 0 ((y8b.length:Nat):Int)) (some y1) (cond (ES 0 ((y9b.length:Nat):Int)) (some y1) (cond (BT y8a.data.toList y9a.data.toList) ((CW source y5a).bind fun (y10a,y10b)=>cond y1 (cond (BT y7a.data.toList y10a.data.toList) (cond (Bi ((y10b.length:Nat):Int) 0) (some true) (some false)) (some false)) (some false)) (some y1))))) (some y1)) (some y1))) (some y1)) (some y1)
theorem I1   {source:Nd} {e:Nd} {path:(List Int)} {part:Nd} {yR:Bool} (h:DD  source e path part=some yR):Pure P (GU mx) 9 [.agg (BA source),.agg (BA e),.sl .lost path.length (rows QW path),.agg (BA part)] (.sc (.bool yR)):=by
 unfold DD at h
 refine BF Hd.mixed HdU.Ad (AF Tryz.func9 b9 ?_) (Bd (AK.Gt source) (Bd (AK.Gt e) (Bd (Tz.Hx path) (Bd (AK.Gt part) rfl)))) rfl
 revert h
 refine Ai fun y1 hy1=>?_
 refine Ai fun y2 hy2=>?_
 let o1:List (PC P (GU mx)):=[Aj (Ov hy1),Aj (up (N3 hy2))]
 refine Ae (fun hv=>?_) fun hv=>?_
 subst hv
 refine Ai fun y3 hy3=>?_
 let o2:List (PC P (GU mx)):=o1++[Aj (up (DA hy3))]
 refine Ae (fun hv=>?_) fun hv=>?_
 subst hv
 refine Ae (fun hb1=>?_) fun hb1=>?_
 intro h
 have hE:=Option.some.inj h
 subst hE
 exact rS (Ac 300 (o2++[pb hb1])) (by kernel_rfl)
 refine Ai fun y4 hy4=>?_
 let o3:List (PC P (GU mx)):=o2++[pb hb1,Aj (up (Fw hy4))]
 refine Ae (fun hv=>?_) fun hv=>?_
 subst hv
 refine Ai ?_
 rintro ⟨y5a,y5b⟩ hy5
 dsimp only
 refine Ai fun y6 hy6=>?_
 let o4:List (PC P (GU mx)):=o3++[Aj (up (P9 hy5)),Aj (up (Fw hy6))]
 refine Ae (fun hv=>?_) fun hv=>?_
 subst hv
 refine Ai ?_
 rintro ⟨y7a,y7b⟩ hy7
 dsimp only
 refine Ai ?_
 rintro ⟨y8a,y8b⟩ hy8
 dsimp only
 refine Ai ?_
 rintro ⟨y9a,y9b⟩ hy9
 dsimp only
 let o5:List (PC P (GU mx)):=o4++[Aj (up (Es hy7)),Aj (up (Es hy8)),Aj (up (Es hy9))]
 refine Ae (fun hb2=>?_) fun hb2=>?_
 intro h
 have hE:=Option.some.inj h
 subst hE
 exact rS (Ac 300 (o5++[pb hb2])) (by kernel_rfl)
 refine Ae (fun hb3=>?_) fun hb3=>?_
 intro h
 have hE:=Option.some.inj h
 subst hE
 exact rS (Ac 300 (o5++[pb hb2,pb hb3])) (by kernel_rfl)
 let o6:List (PC P (GU mx)):=o5++[pb hb2,pb hb3]
 refine Ae (fun hb4=>?_) fun hb4=>?_
 intro h
 have hE:=Option.some.inj h
 subst hE
 exact rS (Ac 300 (o6++[pb hb4])) (by kernel_rfl)
 refine Ae (fun hb5=>?_) fun hb5=>?_
 refine Ai ?_
 rintro ⟨y10a,y10b⟩ hy10
 dsimp only
 let o7:List (PC P (GU mx)):=o6++[pb hb4,pn hb5,Aj (up (Es hy10))]
 refine Ae (fun hv=>?_) fun hv=>?_
 subst hv
 refine Ae (fun hb6=>?_) fun hb6=>?_
 refine Ae (fun hb7=>?_) fun hb7=>?_
 rintro ⟨⟩
 exact rS (Ac 300 (o7++[pb hb6,pb hb7])) (by kernel_rfl)
 rintro ⟨⟩
 exact rS (Ac 300 (o7++[pb hb6,pb hb7])) (by kernel_rfl)
 rintro ⟨⟩
 exact rS (Ac 300 (o7++[pb hb6])) (by kernel_rfl)
 subst hv
 rintro ⟨⟩
 exact rS (Ac 300 o7) (by kernel_rfl)
 intro h
 have hE:=Option.some.inj h
 subst hE
 exact rS (Ac 300 (o6++[pb hb4,pn hb5])) (by kernel_rfl)
 subst hv
 intro h
 have hE:=Option.some.inj h
 subst hE
 exact rS (Ac 300 o4) (by kernel_rfl)
 subst hv
 intro h
 have hE:=Option.some.inj h
 subst hE
 exact rS (Ac 300 o3) (by kernel_rfl)
 subst hv
 intro h
 have hE:=Option.some.inj h
 subst hE
 exact rS (Ac 300 o2) (by kernel_rfl)
 subst hv
 intro h
 have hE:=Option.some.inj h
 subst hE
 exact rS (Ac 300 o1) (by kernel_rfl)
end Mo
end Go.Proofs.YtkfplcngmiljaaaGreatDoor
namespace Go.Proofs.YtkfplcngmiljaaaGreatDoor
open AI Go
namespace Mo
set_option maxRecDepth 100000
set_option maxHeartbeats 4000000
def IN (part:Nd):List Int→Nd→Nd×Nd
 | [],e=>(part,e)
 | z::path,e=>match e.kids with
   | []=>(part,e)
   | _=>match e.kids[(z.tmod ((e.kids.length:Nat):Int)).toNat]? with
     | none=>(part,e)
     | some c=>(⟨e.kind,e.name,e.unit,e.n,e.fr,e.to,e.known,e.tab,e.kids.set (z.tmod ((e.kids.length:Nat):Int)).toNat (IN part path c).1,e.att⟩,(IN part path c).2)
theorem kX (part:Nd):∀ (q:Nat) (path:List Int) (e:Nd),path.length < q→(∀ x∈path,0≤x∧x≤255)→path.length≤60→D3 e≤2000→DC q e path part=some (IN part path e):=by
 intro q
 induction q with
 | zero=>intro path e h;omega
 | succ q ih =>
   intro path e hq hx h60 hs
   rw [DC,Hp]
   simp only [mJ]
   cases path with
   | nil=>rw [Ah (by simp),IN]
   | cons z path =>
     simp only [List.length_cons] at hq h60
     rw [Af (by simp only [List.length_cons];omega),IN]
     have hkl:=MK e.kids
     have hsz:=Dy e
     obtain ⟨z0,z1⟩:=hx z (by simp)
     cases hk:e.kids with
     | nil=>rw [Ah (by simp)]
     | cons a l =>
       have hlen:0 < e.kids.length:=by rw [hk];simp
       rw [← hk,Af (by omega)]
       have hw:rB z=z:=IntWalk.i64_in _ (by omega)
       have hd:LS (rB z) ((e.kids.length:Nat):Int)=some (z.tmod ((e.kids.length:Nat):Int)):=by unfold LS ZH;rw [if_neg (by omega),hw]
       have r0:0≤z.tmod ((e.kids.length:Nat):Int):=Int.tmod_nonneg _ z0
       have r1:z.tmod ((e.kids.length:Nat):Int) < ((e.kids.length:Nat):Int):=Int.tmod_lt_of_pos _ (by omega)
       rw [List.getElem?_cons_zero]
       simp only [Option.bind_some]
       rw [hd]
       simp only [Option.bind_some]
       generalize z.tmod ((e.kids.length:Nat):Int)=m at *
       have hm:m.toNat < e.kids.length:=by omega
       have hg:LP e.kids m=some e.kids[m.toNat]:=by unfold LP;rw [if_pos r0];exact List.getElem?_eq_getElem hm
       have hi:Iv e.kids.length m=some m.toNat:=by unfold Iv;rw [if_pos ⟨r0,r1⟩]
       have hsub:Jn (z::path) 1 (((z::path).length:Nat):Int)=some path:=by
         unfold Jn
         rw [if_pos ⟨by omega,by simp only [List.length_cons];omega,by omega⟩]
         simp only [List.length_cons]
         rw [show (1:Int).toNat=1 from rfl,List.drop_one,List.tail_cons,List.take_of_length_le (by omega)]
       have hc:=Hl (List.getElem_mem hm)
       rw [hg,hsub,hi]
       simp only [Option.bind_some]
       rw [ih path e.kids[m.toNat] (by omega) (fun x h=>hx x (by simp [h])) (by omega) (by omega)]
       simp only [Option.bind_some]
       rw [Tp (by omega),List.getElem?_eq_getElem hm]
       simp only [Option.bind_some]
       split
       · rename_i h0;rw [h0] at hk;cases hk
       · rfl
theorem oK {part e:Nd} {path:List Int} (hx:∀ x∈path,0≤x∧x≤255) (h60:path.length≤60) (hs:D3 e≤2000):Jh e path part=some (IN part path e) :=
 Lt (path.length+1) fun q hq=>kX part q path e (by omega) hx h60 hs
theorem VU {part:Nd} (hp:C8 part):∀ (path:List Int) (e:Nd),C8 e→C8 (IN part path e).1∧C8 (IN part path e).2
 | [],e,he=>by rw [IN];exact ⟨hp,he⟩
 | z::path,e,he=>by
   rw [IN]
   obtain ⟨p1,p2,p3⟩:=(KR e).1 he
   split
   · exact ⟨hp,he⟩
   · split
     · exact ⟨hp,he⟩
     · rename_i c hc
       obtain ⟨h1,h2⟩:=VU hp path c (p3 c (List.mem_of_getElem? hc))
       refine ⟨(KR _).2 ⟨p1,by simpa using p2,fun y hy=>?_⟩,h2⟩
       rcases List.mem_or_eq_of_mem_set hy with h | rfl
       · exact p3 y h
       · exact h1
theorem KZ {F:ByteArray→ByteArray} {A:Int→ByteArray} {e:Nd} (h:(Jj F A e).2=[]):∀ k∈e.kids,(Jj F A k).2=[]:=by
 have hr:(I3 F A e.kids).2=[]:=by
   rw [PI] at h
   unfold WX at h
   generalize I3 F A e.kids=r at *
   by_cases h1:∀ u∈r.1,u≠eS
   · rw [Ah h1] at h
     by_cases h2:L9 F A e r.1=eS
     · rw [Ah h2] at h;exact absurd h (by simp)
     · rw [Af h2] at h;exact h
   · rw [Af h1] at h;exact h
 intro k hk
 rw [Ln] at hr
 exact List.flatMap_eq_nil_iff.1 hr k hk
theorem Ry {F:ByteArray→ByteArray} {A:Int→ByteArray} {part:Nd} (hp:(Jj F A part).2=[]):∀ (path:List Int) (e:Nd),(Jj F A e).2=[]→(Jj F A (IN part path e).2).1=(Jj F A part).1→Jj F A (IN part path e).1=Jj F A e
 | [],e,he,hu=>by
   rw [IN] at *
   exact Prod.ext hu.symm (hp.trans he.symm)
 | z::path,e,he,hu=>by
   have base:(Jj F A e).1=(Jj F A part).1→Jj F A part=Jj F A e:=fun h=>Prod.ext h.symm (hp.trans he.symm)
   rw [IN] at *
   split at hu
   · rename_i h0;exact base hu
   · rename_i h0
     split at hu
     · rename_i h1;exact base hu
     · rename_i c hc
       have hk:=KZ he c (List.mem_of_getElem? hc)
       have ih:=Ry hp path c hk hu
       dsimp only
       rw [PI,PI F A e]
       have hs:I3 F A (e.kids.set (z.tmod ((e.kids.length:Nat):Int)).toNat (IN part path c).1)=I3 F A e.kids:=by
         rw [Ln,Ln,List.map_set]
         generalize (z.tmod ((e.kids.length:Nat):Int)).toNat=m at *
         have hm:=(List.getElem?_eq_some_iff.1 hc).1
         refine Prod.ext ?_ ?_
         · show (e.kids.map _).set m (Jj F A (IN part path c).1).1=e.kids.map _
           apply List.ext_getElem?
           intro i
           by_cases hi:m=i
           · subst hi
             rw [List.getElem?_set_self (by simpa using hm),List.getElem?_map,hc,ih]
             rfl
           · rw [List.getElem?_set_ne hi]
         · have e1:(e.kids.flatMap fun k=>(Jj F A k).2)=[]:=List.flatMap_eq_nil_iff.2 (KZ he)
           have e2:((e.kids.set m (IN part path c).1).flatMap fun k=>(Jj F A k).2)=[]:=List.flatMap_eq_nil_iff.2 fun k hk=>by
             rcases List.mem_or_eq_of_mem_set hk with h | rfl
             · exact KZ he k h
             · rw [ih];exact KZ he c (List.mem_of_getElem? hc)
           exact e2.trans e1.symm
       show WX F A _ (I3 F A (e.kids.set (z.tmod ((e.kids.length:Nat):Int)).toNat (IN part path c).1))=_
       rw [hs]
       rfl
theorem TZ {n:Nd} (hok:C8 n):CE n=some (mb (¬ n.kind=1∧OE n)):=by
 rw [CE,aQ hok]
 simp only [Option.bind_some,Bs,Bm,ZB]
theorem clean {src n:Nd} (h:(Gm src n).2=[]):((src.kind=1∧n.kind≠1)∧OE src∧OE n)∧(VE src n).2=[]∧(Gm src n).1=(VE src n).1:=by
 rw [OK] at *
 by_cases hc:(src.kind=1∧n.kind≠1)∧OE src∧OE n
 · rw [Ah hc] at *
   refine ⟨hc,?_,rfl⟩
   have:(VE src n).2.take 20=[]:=by simpa [cap] using h
   cases hd:(VE src n).2 with
   | nil=>rfl
   | cons a l=>rw [hd] at this;simp at this
 · rw [Af hc] at h;exact absurd h (by simp)
theorem Nu (src e:Nd) (path:List Int) (part:Nd) (hs:C8 src) (he:C8 e) (hx:∀ x∈path,0≤x∧x≤255) (hl:path.length≤9223372036854775807) (hp:C8 part):DD src e path part=some true:=by
 obtain ⟨b,hb⟩:=nG hs he
 obtain ⟨b2,hb2⟩:=W2 hp 400
 rw [DD,hb,hb2,TZ he]
 show cond b _ _=_
 cases b with
 | false=>rfl
 | true =>
 rw [cond_true]
 show cond b2 _ _=_
 cases b2 with
 | false=>rfl
 | true =>
 rw [cond_true,oJ]
 by_cases h60:(60:Int) < ((path.length:Nat):Int)
 · rw [Ah h60]
 rw [Af h60]
 simp only [Option.bind_some,Bm]
 by_cases v1:¬ e.kind=1∧OE e
 rotate_left
 · rw [Af v1]
 rw [Ah v1,oK hx (by omega) v1.2.2.1]
 obtain ⟨o1,o2⟩:=VU hp path e he
 generalize hxo:IN part path e=xo at *
 obtain ⟨x,old⟩:=xo
 dsimp only at o1 o2
 simp only [Option.bind_some]
 rw [TZ o1]
 simp only [Option.bind_some,Bm]
 by_cases v2:¬ x.kind=1∧OE x
 rotate_left
 · rw [Af v2]
 rw [Ah v2,MW hs he,MW hs o2,MW hs hp,MW hs o1]
 simp only [Option.bind_some,oJ,nY,mJ]
 by_cases d1:(Gm src e).2=[]
 rotate_left
 · rw [Ah (by have:=List.length_pos_iff.2 d1;omega)]
 rw [Af (by rw [d1];simp)]
 by_cases d2:(Gm src old).2=[]
 rotate_left
 · rw [Ah (by have:=List.length_pos_iff.2 d2;omega)]
 rw [Af (by rw [d2];simp)]
 by_cases d3:(Gm src part).2=[]
 rotate_left
 · rw [Ah (by have:=List.length_pos_iff.2 d3;omega)]
 rw [Af (by rw [d3];simp)]
 by_cases hu:(Gm src old).1=(Gm src part).1
 rotate_left
 · rw [Af hu]
 rw [Ah hu]
 obtain ⟨⟨⟨a1,_⟩,a2,_⟩,a4,a5⟩:=clean d1
 obtain ⟨_,b4,b5⟩:=clean d2
 obtain ⟨_,c4,c5⟩:=clean d3
 have key:VE src x=VE src e:=by
   have:=Ry (F:=fact src) (A:=pC src) (part:=part) c4 path e a4 (by rw [hxo];exact (b5.symm.trans hu).trans c5)
   rw [hxo] at this
   exact this
 have hX:Gm src x=((VE src e).1,[]):=by
   rw [OK,Ah ⟨⟨a1,v2.1⟩,a2,v2.2⟩,key,a4]
   rfl
 rw [hX,a5]
 show cond true _ _=_
 rw [cond_true,Ah rfl,Ah (by simp)]
end Mo
end Go.Proofs.YtkfplcngmiljaaaGreatDoor
