/- Part of a proof: see the last text. -/
import Derived.Test.YtkfplcngmiljaaaGreatDoorUoh
import Derived.Test.YtkfplcngmiljaaaGreatDoorRows
import Derived.Test.YtkfplcngmiljaaaGreatDoorChecked
import Derived.ProofKit
import Derived.OpenShut
import Derived.Deep.DeepHandedRow
import Derived.Deep.Slices
set_option linter.unusedVariables false
set_option linter.unusedSimpArgs false
namespace Go.Proofs.YtkfplcngmiljaaaGreatDoor
open AI Go
namespace Mo
open Go.ChangeShapes Go.WideShapes Go.ChangeAt Go.RowKit
set_option maxRecDepth 100000
set_option maxHeartbeats 4000000
theorem VK {z:Int} (h:(Lit.int .i64 z).wf=true):-9223372036854775808≤z∧z≤9223372036854775807:=by
 simp only [Lit.wf,Bool.and_eq_true,decide_eq_true_eq] at h
 exact h
theorem c3:P.cellsOf 3=1:=by kernel_rfl
theorem c9:P.cellsOf 9=1:=by kernel_rfl
theorem wL:P.cellsOf 22=1:=by kernel_rfl
theorem uR:P.cellsOf 24=2:=by kernel_rfl
theorem xC:P.cellsOf 25=1:=by kernel_rfl
theorem sY:P.cellsOf 27=11:=by kernel_rfl
theorem vU:P.cellsOf 80=3:=by kernel_rfl
def K2 (W:World):Cx:=⟨W.heap.size,[],[],fun _ _=>False⟩
theorem fI {W:World} {g i:Nat} {v:Value} (h:W.cell? ⟨g,i,none⟩=some v):EM (K2 W) W g i v:=by
 refine ⟨World.block_lt_of_cell? W _ h,fun hs=>?_,h⟩
 rcases hs with hs | ⟨r,n,cap,sz,hr,_⟩ | hs
 · cases hs
 · simp [K2] at hr
 · exact hs
theorem stW (W:World):St G (K2 W) W s0 :=
 ⟨rfl,trivial,(fun i j g h1=>by simp [K2] at h1),(fun g hg=>by cases hg),(fun id g b h1=>by simp [K2] at h1),rfl,(fun r g n cap sz hr=>by simp [K2] at hr),(fun r n hr=>by cases hr),(fun g hg=>by cases hg),(fun g i hb=>hb.elim),(fun r r' g n cap sz n' cap' sz' hr=>by simp [K2] at hr),(fun g cs hg=>by cases hg),Nat.le_refl _⟩
theorem Vi {w:World} {a:Addr} {v:Value} (h:w.cell? a=some v):a=⟨a.block,a.off,none⟩:=by
 obtain ⟨b,o,s⟩:=a
 cases s with
 | none=>rfl
 | some x =>
   exfalso
   unfold World.cell? at h
   split at h<;>simp at h
section
variable {H:Type} {enc:TypeId×Value→H} {W:World}
noncomputable abbrev Td (enc:TypeId×Value→H) (W:World) (n:Nat) (t:TypeId) (cs:List Value):Option (DataW H×List MemPlace):=DataW.trod enc P W 0 (fun _=>true) true n t cs
theorem PP {c:Cx} {w:World} {g o:Nat} {xs ys:List AV} (h:AA c w g o xs) (k:AA c w g (o+xs.length) ys):AA c w g o (xs++ys):=by
 induction xs generalizing o with
 | nil=>exact k
 | cons a xs ih =>
   cases h with
   | cons hv h1 t=>exact .cons hv h1 (ih t (by rw [List.length_cons] at k;rwa [show o+1+xs.length=o+(xs.length+1) by omega]))
theorem Oj {α:Type} (f:α→List AV) (c:Nat) (hc:0 < c) (hf:∀ a,(f a).length=c) (ok:α→Prop) {ts te:TypeId} (hu:P.underlying ts=some (.slice te)) (hce:P.cellsOf te=c) {fuel:Nat} {v:Value} {x:DataW H×List MemPlace}
   (helem:∀ n cs x,n < fuel→Td enc W n te cs=some x→∃ y:α,ok y∧A6 (K2 W) W (f y) cs)
   (h:Td enc W fuel ts [v]=some x):∃ l:List α,Rp (K2 W) W (.sl .lost l.length (rows f l)) v∧(∀ x∈l,ok x)∧l.length≤9223372036854775807:=by
 rcases DataW.trod_slice hu h with ⟨hcs,_⟩ | ⟨a,len,cap,elems,rest,n,hn,hcs,_,_,hl,hm,hlen,hel,_,_⟩
 · obtain rfl:v=.slice none 0 0:=by simpa using hcs
   exact ⟨[],.sl0 trivial,by simp,by simp⟩
 · obtain rfl:v=.slice (some a) len cap:=by simpa using hcs
   have hlenM:len≤9223372036854775807:=by unfold maxLen at hm;omega
   have hex:∀ i,i < len→∃ y:α,ok y∧∃ cs,A6 (K2 W) W (f y) cs∧cs.length=c∧∀ j,j < c→W.cell? (a.add (i*c+j))=cs[j]?:=by
     intro i hi
     have hi':=hel i hi
     rw [List.getElem?_eq_getElem (by omega)] at hi'
     obtain ⟨cs',h1,h2⟩:=Option.bind_eq_some_iff.1 hi'
     obtain ⟨y,hy,hr⟩:=helem n cs' _ (by omega) h2
     rw [hce] at h1
     obtain ⟨_,hcl,hat⟩:=World.cells?_some h1
     refine ⟨y,hy,cs',hr,hcl,fun j hj=>?_⟩
     rw [← Go.Deep.add_add]
     exact hat j hj
   by_cases h0:len=0
   · subst h0;exact ⟨[],.sl0 trivial,by simp,by simp⟩
   · have ha:a=⟨a.block,a.off,none⟩:=by
       obtain ⟨y,_,cs,_,hcl,hat⟩:=hex 0 (by omega)
       have h1:=hat 0 hc
       rw [List.getElem?_eq_getElem (by omega)] at h1
       have h2:a.add (0*c+0)=a:=by simp [Addr.add]
       rw [h2] at h1
       exact Vi h1
     have hadd:∀ k,a.add k=⟨a.block,a.off+k,none⟩:=by
       intro k
       rw [ha]
       unfold Addr.add
       split
       · rename_i hk;subst hk;rfl
       · rfl
     have key:∀ d k,k+d=len→∃ l:List α,l.length=d∧(∀ x∈l,ok x)∧AA (K2 W) W a.block (a.off+k*c) (rows f l):=by
       intro d
       induction d with
       | zero=>intro k _;exact ⟨[],rfl,by simp,.nil⟩
       | succ d ih =>
         intro k hk
         obtain ⟨y,hy,cs,hr,hcl,hat⟩:=hex k (by omega)
         obtain ⟨l,h1,h2,h3⟩:=ih (k+1) (by omega)
         refine ⟨y::l,by simp [h1],fun x hx=>?_,?_⟩
         · rcases List.mem_cons.1 hx with rfl | hx
           · exact hy
           · exact h2 x hx
         · rw [Dm]
           refine PP (AA.GV hr fun j v hv=>?_) ?_
           · have hj:j < c:=by have:=(List.getElem?_eq_some_iff.1 hv).1;omega
             have:=hat j hj
             rw [hadd,hv] at this
             rw [show a.off+k*c+j=a.off+(k*c+j) by omega]
             exact fI this
           · rw [hf y,show a.off+k*c+c=a.off+(k+1)*c by rw [Nat.add_mul];omega]
             exact h3
     obtain ⟨l,h1,h2,h3⟩:=key len 0 (by omega)
     rw [Nat.zero_mul,Nat.add_zero] at h3
     refine ⟨l,?_,h2,by omega⟩
     rw [ha,h1]
     exact .sl1 hl h3 trivial
theorem o3 (n:Nat) (cs:List Value) (x:DataW H×List MemPlace) (h:Td enc W n 3 cs=some x):∃ y:Int,True∧A6 (K2 W) W (z7 y) cs:=by
 obtain ⟨z,q,_⟩:=DataW.trod_int Tryz.underlying3 h
 subst q
 exact ⟨z,trivial,.cons (.sc rfl) .nil⟩
theorem o9 (n:Nat) (cs:List Value) (x:DataW H×List MemPlace) (h:Td enc W n 9 cs=some x):∃ y:ByteArray,True∧A6 (K2 W) W (Kp y) cs:=by
 obtain ⟨z,q,_⟩:=DataW.trod_string Tryz.underlying9 h
 subst q
 exact ⟨z,trivial,.cons (.sc rfl) .nil⟩
theorem o80:∀ (n:Nat) (cs:List Value) (x:DataW H×List MemPlace),Td enc W n 80 cs=some x→∃ y:Pc,kT y∧A6 (K2 W) W (J4 y) cs:=by
 intro n cs x h
 obtain ⟨xs,m,hm,_,hl,hlen,hf⟩:=DataW.trod_struct Tryz.underlying80 h
 rw [vU] at hl
 match cs,hl with
 | [a0,a1,a2],_ =>
   have h0:Td enc W m 3 (List.take (P.cellsOf 3) (List.drop 0 [a0,a1,a2]))=xs[0]?:=hf 0 _ rfl
   rw [c3,List.getElem?_eq_getElem (by rw [hlen];decide)] at h0
   have h0:Td enc W m 3 [a0]=some _:=h0
   have h1:Td enc W m 3 (List.take (P.cellsOf 3) (List.drop 1 [a0,a1,a2]))=xs[1]?:=hf 1 _ rfl
   rw [c3,List.getElem?_eq_getElem (by rw [hlen];decide)] at h1
   have h1:Td enc W m 3 [a1]=some _:=h1
   have h2:Td enc W m 3 (List.take (P.cellsOf 3) (List.drop 2 [a0,a1,a2]))=xs[2]?:=hf 2 _ rfl
   rw [c3,List.getElem?_eq_getElem (by rw [hlen];decide)] at h2
   have h2:Td enc W m 3 [a2]=some _:=h2
   obtain ⟨z0,q0,_,w0⟩:=DataW.trod_int Tryz.underlying3 h0
   obtain rfl:a0=.int .i64 z0:=by simpa using q0
   obtain ⟨z1,q1,_,w1⟩:=DataW.trod_int Tryz.underlying3 h1
   obtain rfl:a1=.int .i64 z1:=by simpa using q1
   obtain ⟨z2,q2,_,w2⟩:=DataW.trod_int Tryz.underlying3 h2
   obtain rfl:a2=.int .i64 z2:=by simpa using q2
   exact ⟨⟨z0,z1,z2⟩,⟨(VK w0),(VK w1),(VK w2)⟩,(.cons (.sc rfl) (.cons (.sc rfl) (.cons (.sc rfl) .nil)))⟩
theorem oJ:∀ (n:Nat) (cs:List Value) (x:DataW H×List MemPlace),Td enc W n 24 cs=some x→∃ y:Fn,kU y∧A6 (K2 W) W (YV y) cs:=by
 intro n cs x h
 obtain ⟨xs,m,hm,_,hl,hlen,hf⟩:=DataW.trod_struct Tryz.underlying24 h
 rw [uR] at hl
 match cs,hl with
 | [a0,a1],_ =>
   have h0:Td enc W m 3 (List.take (P.cellsOf 3) (List.drop 0 [a0,a1]))=xs[0]?:=hf 0 _ rfl
   rw [c3,List.getElem?_eq_getElem (by rw [hlen];decide)] at h0
   have h0:Td enc W m 3 [a0]=some _:=h0
   have h1:Td enc W m 22 (List.take (P.cellsOf 22) (List.drop 1 [a0,a1]))=xs[1]?:=hf 1 _ rfl
   rw [wL,List.getElem?_eq_getElem (by rw [hlen];decide)] at h1
   have h1:Td enc W m 22 [a1]=some _:=h1
   obtain ⟨z0,q0,_,w0⟩:=DataW.trod_int Tryz.underlying3 h0
   obtain rfl:a0=.int .i64 z0:=by simpa using q0
   obtain ⟨l1,r1,k1,b1⟩:=Oj J4 3 (by decide) (fun _=>rfl) kT Tryz.underlying22 vU (fun k cs x hk ht=>o80 k cs x ht) h1
   exact ⟨⟨z0,l1⟩,⟨b1,k1⟩,(.cons (.sc rfl) (.cons r1 .nil))⟩
theorem xW:∀ (n:Nat) (cs:List Value) (x:DataW H×List MemPlace),Td enc W n 27 cs=some x→∃ y:Nd,DS y∧A6 (K2 W) W (BP y) cs:=by
 intro n
 induction n using Nat.strongRecOn with
 | _ n ih =>
 intro cs x h
 obtain ⟨xs,m,hm,_,hl,hlen,hf⟩:=DataW.trod_struct Tryz.underlying27 h
 rw [sY] at hl
 match cs,hl with
 | [a0,a1,a2,a3,a4,a5,a6,a7,a8,a9,a10],_ =>
   have h0:Td enc W m 3 (List.take (P.cellsOf 3) (List.drop 0 [a0,a1,a2,a3,a4,a5,a6,a7,a8,a9,a10]))=xs[0]?:=hf 0 _ rfl
   rw [c3,List.getElem?_eq_getElem (by rw [hlen];decide)] at h0
   have h0:Td enc W m 3 [a0]=some _:=h0
   have h1:Td enc W m 9 (List.take (P.cellsOf 9) (List.drop 1 [a0,a1,a2,a3,a4,a5,a6,a7,a8,a9,a10]))=xs[1]?:=hf 1 _ rfl
   rw [c9,List.getElem?_eq_getElem (by rw [hlen];decide)] at h1
   have h1:Td enc W m 9 [a1]=some _:=h1
   have h2:Td enc W m 9 (List.take (P.cellsOf 9) (List.drop 2 [a0,a1,a2,a3,a4,a5,a6,a7,a8,a9,a10]))=xs[2]?:=hf 2 _ rfl
   rw [c9,List.getElem?_eq_getElem (by rw [hlen];decide)] at h2
   have h2:Td enc W m 9 [a2]=some _:=h2
   have h3:Td enc W m 3 (List.take (P.cellsOf 3) (List.drop 3 [a0,a1,a2,a3,a4,a5,a6,a7,a8,a9,a10]))=xs[3]?:=hf 3 _ rfl
   rw [c3,List.getElem?_eq_getElem (by rw [hlen];decide)] at h3
   have h3:Td enc W m 3 [a3]=some _:=h3
   have h4:Td enc W m 3 (List.take (P.cellsOf 3) (List.drop 4 [a0,a1,a2,a3,a4,a5,a6,a7,a8,a9,a10]))=xs[4]?:=hf 4 _ rfl
   rw [c3,List.getElem?_eq_getElem (by rw [hlen];decide)] at h4
   have h4:Td enc W m 3 [a4]=some _:=h4
   have h5:Td enc W m 3 (List.take (P.cellsOf 3) (List.drop 5 [a0,a1,a2,a3,a4,a5,a6,a7,a8,a9,a10]))=xs[5]?:=hf 5 _ rfl
   rw [c3,List.getElem?_eq_getElem (by rw [hlen];decide)] at h5
   have h5:Td enc W m 3 [a5]=some _:=h5
   have h6:Td enc W m 3 (List.take (P.cellsOf 3) (List.drop 6 [a0,a1,a2,a3,a4,a5,a6,a7,a8,a9,a10]))=xs[6]?:=hf 6 _ rfl
   rw [c3,List.getElem?_eq_getElem (by rw [hlen];decide)] at h6
   have h6:Td enc W m 3 [a6]=some _:=h6
   have h7:Td enc W m 24 (List.take (P.cellsOf 24) (List.drop 7 [a0,a1,a2,a3,a4,a5,a6,a7,a8,a9,a10]))=xs[7]?:=hf 7 _ rfl
   rw [uR,List.getElem?_eq_getElem (by rw [hlen];decide)] at h7
   have h7:Td enc W m 24 [a7,a8]=some _:=h7
   have h8:Td enc W m 25 (List.take (P.cellsOf 25) (List.drop 9 [a0,a1,a2,a3,a4,a5,a6,a7,a8,a9,a10]))=xs[8]?:=hf 8 _ rfl
   rw [xC,List.getElem?_eq_getElem (by rw [hlen];decide)] at h8
   have h8:Td enc W m 25 [a9]=some _:=h8
   have h9:Td enc W m 3 (List.take (P.cellsOf 3) (List.drop 10 [a0,a1,a2,a3,a4,a5,a6,a7,a8,a9,a10]))=xs[9]?:=hf 9 _ rfl
   rw [c3,List.getElem?_eq_getElem (by rw [hlen];decide)] at h9
   have h9:Td enc W m 3 [a10]=some _:=h9
   obtain ⟨z0,q0,_,w0⟩:=DataW.trod_int Tryz.underlying3 h0
   obtain rfl:a0=.int .i64 z0:=by simpa using q0
   obtain ⟨z1,q1,_⟩:=DataW.trod_string Tryz.underlying9 h1
   obtain rfl:a1=.string z1:=by simpa using q1
   obtain ⟨z2,q2,_⟩:=DataW.trod_string Tryz.underlying9 h2
   obtain rfl:a2=.string z2:=by simpa using q2
   obtain ⟨z3,q3,_,w3⟩:=DataW.trod_int Tryz.underlying3 h3
   obtain rfl:a3=.int .i64 z3:=by simpa using q3
   obtain ⟨z4,q4,_,w4⟩:=DataW.trod_int Tryz.underlying3 h4
   obtain rfl:a4=.int .i64 z4:=by simpa using q4
   obtain ⟨z5,q5,_,w5⟩:=DataW.trod_int Tryz.underlying3 h5
   obtain rfl:a5=.int .i64 z5:=by simpa using q5
   obtain ⟨z6,q6,_,w6⟩:=DataW.trod_int Tryz.underlying3 h6
   obtain rfl:a6=.int .i64 z6:=by simpa using q6
   obtain ⟨y7,k7,r7⟩:=oJ m _ _ h7
   obtain ⟨l8,r8,k8,b8⟩:=Oj BP 11 (by decide) (fun _=>rfl) DS Tryz.underlying25 sY (fun k cs x hk ht=>ih k (by omega) cs x ht) h8
   rw [← ER] at r8
   obtain ⟨z9,q9,_,w9⟩:=DataW.trod_int Tryz.underlying3 h9
   obtain rfl:a10=.int .i64 z9:=by simpa using q9
   exact ⟨⟨z0,z1,z2,z3,z4,z5,z6,y7,l8,z9⟩,by rw [DS];exact ⟨k7,b8,(OX.2 k8)⟩,(.cons (.sc rfl) (.cons (.sc rfl) (.cons (.sc rfl) (.cons (.sc rfl) (.cons (.sc rfl) (.cons (.sc rfl) (.cons (.sc rfl) (A6.append r7 (.cons r8 (.cons (.sc rfl) .nil))))))))))⟩
end
theorem VH {c:Cx} {W:World} {v:Value} {cs:List AV} (hc:cs.length≠1) (h:A6 c W cs v.cells.toList):Rp c W (.agg cs) v:=by
 have hl:=h.len
 cases v with
 | agg ws=>exact .agg (by simpa [Value.cells] using h)
 | _=>simp [Value.cells] at hl;omega
end Mo
theorem own:ownKnob Tryz.prog.godebug=none:=by kernel_rfl
theorem laidOut:laidOutB Tryz.prog=true:=by kernel_rfl
end Go.Proofs.YtkfplcngmiljaaaGreatDoor
namespace AI
open Go Go.RowKit
def P0 (w w1:World) (g:Nat):Prop:=w.heap.size≤g∧g < w1.heap.size
def Cx.Rb (cx:Cx) (w w1:World):Cx:=⟨cx.base,cx.Bf,cx.rows,fun g i=>cx.bad g i∨P0 w w1 g⟩
def Cx.MD (c:Cx) (cx:Cx):Cx:=⟨c.base,c.Bf,c.rows,cx.bad⟩
section
variable {G:AB} {cx:Cx} {w w1:World} {s:AS}
theorem Nn (k:KL w w1 (fun _=>False)):Mon cx w (cx.Rb w w1) w1:=by
 refine ⟨fun _ _ e=>e,Nat.le_refl _,fun r y _ h=>⟨y,h,Es.refl y⟩,fun g i v hv=>⟨Nat.lt_of_lt_of_le hv.1 k.size,fun hs=>?_,by rw [k.cell hv.1 id];exact hv.2.2⟩⟩
 rcases hs with hs | hs | hs | hs
 · exact hv.2.1 (.inl hs)
 · exact hv.2.1 (.inr (.inl hs))
 · exact hv.2.1 (.inr (.inr hs))
 · have:=hs.1;have:=hv.1;omega
theorem ZJ (h:St G cx w s) (k:KL w w1 (fun _=>False)):St G (cx.Rb w w1) w1 s:=by
 have m:=Nn (cx:=cx) k
 refine ⟨h.len,h.desc,h.nodup,h.low,fun id g b h1 h2=>?_,h.rlen,fun r g n cap sz hr=>?_,h.rfree,fun g hg=>Nat.lt_of_lt_of_le (h.plow g hg) k.size,fun g i hb=>?_,h.rdist,fun g cs hg=>(h.glob g cs hg).BA m,Nat.le_trans h.bsz k.size⟩
 · obtain ⟨o,ho,hb⟩:=h.box id g b h1 h2
   exact ⟨o,by rw [k.block g (Array.getElem?_eq_some_iff.1 ho).1 not_false];exact ho,hb.BA m⟩
 · have hl:=h.FZ hr
   obtain ⟨hbad,h2,h3,h4,vs,T,ho,h5⟩:=h.row r g n cap sz hr
   refine ⟨fun i hb=>?_,h2,h3,h4,vs,T,by rw [k.block g (Array.getElem?_eq_some_iff.1 ho).1 not_false];exact ho,h5⟩
   rcases hb with hb | hb
   · exact hbad i hb
   · have:=hb.1;omega
 · rcases hb with hb | hb
   · exact Nat.lt_of_lt_of_le (h.blow g i hb) k.size
   · exact hb.2
variable {c':Cx} {w' w2:World} {s':AS}
theorem JO (hx:Ext (cx.Rb w w1) w1 c' w') (k2:KL w' w2 (P0 w w1)):Mon c' w' (c'.MD cx) w2:=by
 refine ⟨fun _ _ e=>e,Nat.le_refl _,fun r y _ h=>⟨y,h,Es.refl y⟩,fun g i v hv=>⟨Nat.lt_of_lt_of_le hv.1 k2.size,fun hs=>?_,?_⟩⟩
 · rcases hs with hs | hs | hs
   · exact hv.2.1 (.inl hs)
   · exact hv.2.1 (.inr (.inl hs))
   · exact hv.2.1 (.inr (.inr (by rw [hx.bad];exact .inl hs)))
 · rw [k2.cell hv.1 (fun hk=>hv.2.1 (.inr (.inr (by rw [hx.bad];exact .inr hk))))];exact hv.2.2
theorem SW (h:St G cx w s) (k:KL w w1 (fun _=>False)) (hx:Ext (cx.Rb w w1) w1 c' w') (k2:KL w' w2 (P0 w w1)):Ext cx w (c'.MD cx) w2:=by
 have m:=Nn (cx:=cx) k
 have m2:=JO hx k2
 refine ⟨hx.Bf,hx.rlen,hx.rows,fun g i v hv=>m2.vis g i v (hx.vis g i v (m.vis g i v hv)),?_,hx.base,rfl,fun g hg=>?_,fun r g n cap sz hr=>?_,fun q hq hp hr=>?_⟩
 · have b1:Below cx.base w w1:=k.below h.bsz (fun _ h=>h.elim)
   have b2:Below cx.base w1 w':=hx.below
   have b3:Below cx.base w' w2:=k2.below (Nat.le_trans (Nat.le_trans h.bsz k.size) b2.size) (fun q hq=>Nat.le_trans h.bsz hq.1)
   exact (b1.trans b2).trans b3
 · rcases hx.pnew g hg with h1 | h1
   · exact .inl h1
   · exact .inr (Nat.le_trans k.size h1)
 · rcases hx.rnew r g n cap sz hr with h1 | h1
   · exact .inl h1
   · exact .inr (Nat.le_trans k.size h1)
 · have hq1:q < w1.heap.size:=Nat.lt_of_lt_of_le hq k.size
   rw [k2.block q (Nat.lt_of_lt_of_le hq1 hx.below.size) (fun hn=>by have:=hn.1;omega),hx.CY q hq1 hp hr,k.block q hq not_false]
theorem UB (h:St G cx w s) (hx:Ext (cx.Rb w w1) w1 c' w') (hs':St G c' w' s') (k2:KL w' w2 (P0 w w1)):St G (c'.MD cx) w2 s':=by
 have m2:=JO hx k2
 have hphi:∀ g,some g∈c'.Bf→¬ P0 w w1 g:=by
   intro g hg hn
   rcases hx.pnew g hg with h1 | h1
   · have:=h.plow g h1;have:=hn.1;omega
   · have:=hn.2;omega
 refine ⟨hs'.len,hs'.desc,hs'.nodup,hs'.low,fun id g b h1 h2=>?_,hs'.rlen,fun r g n cap sz hr=>?_,hs'.rfree,fun g hg=>Nat.lt_of_lt_of_le (hs'.plow g hg) k2.size,fun g i hb=>Nat.lt_of_lt_of_le (hs'.blow g i (by rw [hx.bad];exact .inl hb)) k2.size,hs'.rdist,fun g cs hg=>(hs'.glob g cs hg).BA m2,Nat.le_trans hs'.bsz k2.size⟩
 · obtain ⟨o,ho,hb⟩:=hs'.box id g b h1 h2
   exact ⟨o,by rw [k2.block g (Array.getElem?_eq_some_iff.1 ho).1 (hphi g (List.mem_of_getElem? h1))];exact ho,hb.BA m2⟩
 · obtain ⟨hbad,h2,h3,h4,vs,T,ho,h5⟩:=hs'.row r g n cap sz hr
   have hb:c'.bad=fun g i=>cx.bad g i∨P0 w w1 g:=hx.bad
   exact ⟨fun i hb'=>hbad i (by rw [hb];exact .inl hb'),h2,h3,h4,vs,T,by rw [k2.block g (Array.getElem?_eq_some_iff.1 ho).1 (fun hn=>hbad 0 (by rw [hb];exact .inr hn))];exact ho,h5⟩
theorem Lm (h:St G cx w s) (hx:Ext (cx.Rb w w1) w1 c' w') {q:Nat} (hq:P0 w w1 q):w'.heap[q]?=w1.heap[q]?:=by
 refine hx.CY q hq.2 (fun hm=>?_) (fun r n cap sz hr=>?_)
 · have:=h.plow q hm;have:=hq.1;omega
 · have:=h.FZ (r:=r) hr;have:=hq.1;omega
end
end AI
