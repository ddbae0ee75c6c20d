/- Part of a proof: see the last text. -/
import Derived.Test.YtkfplcngmiljaaaGreatDoorUoi
import Derived.Test.YtkfplcngmiljaaaGreatDoorProg
import Derived.KernelRfl
import Derived.WalkKit
import Derived.WalkLawsBesides
import Derived.WalkSpells
import Derived.Lib.Hide
import Derived.Laws.Rows
import Derived.Recover
set_option linter.unusedVariables false
set_option linter.unusedSimpArgs false
namespace Go.Proofs.YtkfplcngmiljaaaGreatDoor
open AI Go Go.RowKit
theorem R4 (x y z:Value) (w:World) :
   CallsD Tryz.prog 68 #[x,y,z] .returning w fun e u' w'=>e=.returned (.tuple #[])∧u'=.returning∧w'=w:=by
 refine callsD_of_wpS Tryz.func68 rfl fun c₀ cs hu=>?_
 apply wpS_seq
 apply wpS_region
 simp [wpOpsS,go_sem,recoverD,hu,Tryz.ntmps68,Exit.thenS]
 apply wpS_seq
 apply wpS_region
 simp [wpOpsS,go_sem,Exit.thenS]
 refine wpS_cond (t:=false) (by simp [Act.eval,Array.replicate]) ?_
 simp only [Bool.false_eq_true,if_false]
 refine wpS_of_wp (wp_skip ?_)
 cases c₀
 simp_all [bodyPostS,results,Tryz.results68]
noncomputable def GA (w:World):World:=((w.alloc (.cells #[.int .i64 0,.string ⟨#[]⟩,.string ⟨#[]⟩,.int .i64 0,.int .i64 0,.int .i64 0,.int .i64 0,.int .i64 0,.slice none 0 0,.slice none 0 0,.int .i64 0] 27)).alloc (.cells #[.int .i64 0,.int .i64 0] 53)).alloc (.cells #[.bool false] 4)
theorem hZ (w:World):(GA w).heap[w.heap.size]?=some (.cells #[.int .i64 0,.string ⟨#[]⟩,.string ⟨#[]⟩,.int .i64 0,.int .i64 0,.int .i64 0,.int .i64 0,.int .i64 0,.slice none 0 0,.slice none 0 0,.int .i64 0] 27 (0,0)):=by
 unfold GA
 rw [heap_alloc_old _ _ (by simp;omega),heap_alloc_old _ _ (by simp),heap_alloc_new]
theorem iT (w:World):(GA w).heap[w.heap.size+1]?=some (.cells #[.int .i64 0,.int .i64 0] 53 (0,0)):=by
 unfold GA
 rw [heap_alloc_old _ _ (by simp),heap_alloc2_new]
theorem kN (w:World):(GA w).heap[w.heap.size+1+1]?=some (.cells #[.bool false] 4 (0,0)):=by
 unfold GA
 have:=heap_alloc_new ((w.alloc (.cells #[.int .i64 0,.string ⟨#[]⟩,.string ⟨#[]⟩,.int .i64 0,.int .i64 0,.int .i64 0,.int .i64 0,.int .i64 0,.slice none 0 0,.slice none 0 0,.int .i64 0] 27)).alloc (.cells #[.int .i64 0,.int .i64 0] 53)) (.cells #[.bool false] 4)
 rwa [World.size_alloc,World.size_alloc] at this
set_option maxRecDepth 20000 in
set_option maxHeartbeats 4000000 in
theorem W8 (g:Nat) (hg:Gq Tryz.prog g=true) (fs cs:Array Value) (w:World) (R:Array Value→World→Prop)
   (hR:∀ xs w',R xs w'→(xs.size=11∧xs.all (·.oneCell')=true)∧w'.heap[w.heap.size]?=(GA w).heap[w.heap.size]?∧w'.heap[w.heap.size+1]?=(GA w).heap[w.heap.size+1]?∧w'.heap[w.heap.size+1+1]?=(GA w).heap[w.heap.size+1+1]?)
   (hC:Calls Tryz.prog g (fs++cs) (GA w) fun e w'=>∃ xs,e=.returned (.agg xs)∧R xs w') :
   Calls Tryz.prog 44 #[.func (.func g) fs cs] w fun e w2=>∃ xs w',R xs w'∧e=.returned (.tuple #[.agg xs,.agg #[.int .i64 0,.int .i64 0],.bool true])∧KL w' w2 (P0 w (GA w)):=by
 have hmf:∀ (fn:Fn) (first cap:Array Value) (w:World),(Instr.makeFunc fn first cap).run Tryz.prog w=.ok (.func fn first cap) w:=fun _ _ _ _=>rfl
 have hen:=fun args w=>LD (w:=w) hg args
 have HC:=Lib.hid hC
 have HR:=Lib.hid hR
 clear hC hR
 go_enter_defers Tryz.func44,Tryz.ntmps44
 go_wp2_with fail
 refine HC.out.mono ?_
 clear HC
 rintro e w1 ⟨xs,rfl,hr⟩
 obtain ⟨⟨hx,hone⟩,k0,k1,k2⟩:=HR.out xs w1 hr
 clear HR
 have HB:=Lib.hid hr
 clear hr
 have e0:w1.heap[w.heap.size]?=some (.cells #[.int .i64 0,.string ⟨#[]⟩,.string ⟨#[]⟩,.int .i64 0,.int .i64 0,.int .i64 0,.int .i64 0,.int .i64 0,.slice none 0 0,.slice none 0 0,.int .i64 0] 27 (0,0)):=by
   rw [k0];exact hZ w
 have e1:w1.heap[w.heap.size+1]?=some (.cells #[.int .i64 0,.int .i64 0] 53 (0,0)):=by
   rw [k1];exact iT w
 have e2:w1.heap[w.heap.size+1+1]?=some (.cells #[.bool false] 4 (0,0)):=by
   rw [k2];exact kN w
 have hl2:w.heap.size+1+1 < w1.heap.size:=(Array.getElem?_eq_some_iff.1 e2).1
 obtain ⟨wa,hwa⟩:∃ wa,wa=w1.setRow w.heap.size xs:=⟨_,rfl⟩
 have ca:=EC w1 w.heap.size xs
 rw [← hwa] at ca
 have f1:wa.heap[w.heap.size+1]?=some (.cells #[.int .i64 0,.int .i64 0] 53 (0,0)):=by
   rw [ca.block _ (by omega) (by omega)];exact e1
 have f2:wa.heap[w.heap.size+1+1]?=some (.cells #[.bool false] 4 (0,0)):=by
   rw [ca.block _ (by omega) (by omega)];exact e2
 have f0:wa.heap[w.heap.size]?=some (.cells xs 27 (0,0)):=by
   rw [hwa];exact setRow_heap w1 _ _ _ _ _ e0
 have s0:wa.setCell ⟨w.heap.size+1,0,none⟩ (.int .i64 0)=wa.setRow (w.heap.size+1) #[.int .i64 0,.int .i64 0]:=setCell_eq_setRow wa _ 0 _ _ _ _ f1
 obtain ⟨wd,hwd⟩:∃ wd,wd=wa.setCell ⟨w.heap.size+1,0,none⟩ (.int .i64 0):=⟨_,rfl⟩
 have cd:=EC wa (w.heap.size+1) #[.int .i64 0,.int .i64 0]
 have fd1:wd.heap[w.heap.size+1]?=some (.cells #[.int .i64 0,.int .i64 0] 53 (0,0)):=by
   rw [hwd,s0];exact setRow_heap wa _ _ _ _ _ f1
 have s1:wd.setCell ⟨w.heap.size+1,1,none⟩ (.int .i64 0)=wd.setRow (w.heap.size+1) #[.int .i64 0,.int .i64 0]:=setCell_eq_setRow wd _ 1 _ _ _ _ fd1
 rw [← s0,← hwd] at cd
 obtain ⟨wb,hwb⟩:∃ wb,wb=wd.setCell ⟨w.heap.size+1,1,none⟩ (.int .i64 0):=⟨_,rfl⟩
 have cb:=EC wd (w.heap.size+1) #[.int .i64 0,.int .i64 0]
 rw [← s1,← hwb] at cb
 have hld:w.heap.size+1 < wd.heap.size:=(Array.getElem?_eq_some_iff.1 fd1).1
 have d0:wa.cell? ⟨w.heap.size+1,0,none⟩=some (.int .i64 0):=by simp [World.cell?,f1]
 have d1:(wa.setCell ⟨w.heap.size+1,0,none⟩ (.int .i64 0)).cell? ⟨w.heap.size+1,1,none⟩=some (.int .i64 0):=by rw [← hwd];simp [World.cell?,fd1]
 have z0:wa.frozen? ⟨w.heap.size+1,0,none⟩=false:=by simp [World.frozen?,f1]
 have z1:(wa.setCell ⟨w.heap.size+1,0,none⟩ (.int .i64 0)).frozen? ⟨w.heap.size+1,1,none⟩=false:=by rw [← hwd];simp [World.frozen?,fd1]
 have hla:w.heap.size+1+1 < wa.heap.size:=(Array.getElem?_eq_some_iff.1 f2).1
 have g0:wb.heap[w.heap.size]?=some (.cells xs 27 (0,0)):=by
   rw [cb.block _ (by omega) (by omega),cd.block _ (by omega) (by omega)];exact f0
 have g1:wb.heap[w.heap.size+1]?=some (.cells #[.int .i64 0,.int .i64 0] 53 (0,0)):=by
   rw [hwb,s1];exact setRow_heap wd _ _ _ _ _ fd1
 have g2:wb.heap[w.heap.size+1+1]?=some (.cells #[.bool false] 4 (0,0)):=by
   rw [cb.block _ (by have:=cd.size;omega) (by omega),cd.block _ (by omega) (by omega)];exact f2
 have c2:((wa.setCell ⟨w.heap.size+1,0,none⟩ (.int .i64 0)).setCell ⟨w.heap.size+1,1,none⟩ (.int .i64 0)).cell? ⟨w.heap.size+1+1,0,none⟩=some (.bool false):=by rw [← hwd,← hwb];simp [World.cell?,g2]
 have z2:((wa.setCell ⟨w.heap.size+1,0,none⟩ (.int .i64 0)).setCell ⟨w.heap.size+1,1,none⟩ (.int .i64 0)).frozen? ⟨w.heap.size+1+1,0,none⟩=false:=by rw [← hwd,← hwb];simp [World.frozen?,g2]
 have hsz:(Tryz.prog.info? 27).map (·.size)=some xs.size:=by rw [hx];kernel_rfl
 have E0:=Lib.hid e0
 have HS:=Lib.hid hsz
 have HX:=Lib.hid hx
 have HO:=Lib.hid hone
 have HWA:=Lib.hid hwa
 have HWB:=Lib.hid hwb
 have HWD:=Lib.hid hwd
 have CD:=Lib.hid cd
 have G0:=Lib.hid g0
 have G1:=Lib.hid g1
 have G2:=Lib.hid g2
 have CA:=Lib.hid ca
 have CB:=Lib.hid cb
 have HL:=Lib.hid (And.intro hl2 hla)
 clear e0 e1 e2 f0 f1 f2 g0 g1 g2 hsz hx hone hwa hwb hwd s0 s1 fd1 hld ca cb cd k0 k1 k2 hl2 hla
 go_wp2_with (refine wpList_store_row rfl 27 _ _ rfl w.heap.size xs rfl rfl 27 _ E0.out HS.out (by rw [HX.out];rfl) HO.out ?_;rw [← HWA.out])
 rw [← HWD.out,← HWB.out]
 have s2:wb.setCell ⟨w.heap.size+1+1,0,none⟩ (.bool true)=wb.setRow (w.heap.size+1+1) #[.bool true]:=setCell_eq_setRow wb _ 0 _ _ _ _ G2.out
 have cc:=EC wb (w.heap.size+1+1) #[.bool true]
 have h2:=setRow_heap wb (w.heap.size+1+1) _ #[.bool true] _ _ G2.out
 rw [s2]
 generalize wb.setRow (w.heap.size+1+1) #[.bool true]=wc at cc h2
 have hl:=HL.out
 have hlb:=CB.out.size
 have hld:=CD.out.size
 have h0:wc.heap[w.heap.size]?=some (.cells xs 27 (0,0)):=by rw [cc.block _ (by omega) (by omega)];exact G0.out
 have h1:wc.heap[w.heap.size+1]?=some (.cells #[.int .i64 0,.int .i64 0] 53 (0,0)):=by rw [cc.block _ (by omega) (by omega)];exact G1.out
 refine leaves_cons (f:=68) (args:=#[.pointer (some ⟨w.heap.size,0,none⟩),.pointer (some ⟨w.heap.size+1,0,none⟩),.pointer (some ⟨w.heap.size+1+1,0,none⟩)]) (by simp) (by simp [go_sem]) ?_
 refine (R4 _ _ _ _).mono ?_
 rintro e u' w2 ⟨rfl,rfl,rfl⟩
 show Leaves _ _ _ _ [] .returning _
 have l0:=run_loadVar_row (P:=Tryz.prog) w2 w.heap.size _ 27 xs _ _ h0 Tryz.underlying27 rfl HS.out
 have l1:=run_loadVar_row (P:=Tryz.prog) w2 (w.heap.size+1) _ 53 #[.int .i64 0,.int .i64 0] _ _ h1 Tryz.underlying53 rfl (by kernel_rfl)
 have l2:w2.cell? ⟨w.heap.size+1+1,0,none⟩=some (.bool true):=by simp [World.cell?,h2]
 refine ⟨.tuple #[.agg xs,.agg #[.int .i64 0,.int .i64 0],.bool true],?_,xs,w1,HB.out,rfl,?_⟩
 · have l3:(loadVar 4 ⟨w.heap.size+1+1,0,none⟩).run Tryz.prog w2=.ok (.bool true) w2:=by simp [go_sem,l2]
   rw [NC,Tryz.results44]
   simp [VW,asAddr,Sem.run_bind,l0,l1,l3]
 · have hk:∀ k,w1.heap.size > k→¬ P0 w (GA w) k→k≠w.heap.size∧k≠w.heap.size+1∧k≠w.heap.size+1+1:=by
     intro k _ hn
     have hs:(GA w).heap.size=w.heap.size+1+1+1:=by unfold GA;simp
     refine ⟨fun e=>hn ?_,fun e=>hn ?_,fun e=>hn ?_⟩<;>subst e<;>refine ⟨?_,?_⟩<;>omega
   have ca:=CA.out
   have cd:=CD.out
   have cb:=CB.out
   refine ⟨cc.os.trans (cb.os.trans (cd.os.trans ca.os)),cc.tape.trans (cb.tape.trans (cd.tape.trans ca.tape)),cc.output.trans (cb.output.trans (cd.output.trans ca.output)),Nat.le_trans ca.size (Nat.le_trans hld (Nat.le_trans hlb cc.size)),fun k hk1 hk2=>?_⟩
   obtain ⟨n0,n1,n2⟩:=hk k hk1 hk2
   rw [cc.block k (by have:=ca.size;omega) n2,cb.block k (by have:=ca.size;omega) n1,cd.block k (by have:=ca.size;omega) n1,ca.block k hk1 n0]
def aV:CR→Option CR
 | .ret (.agg cs)=>(match Nat.beq cs.length 11 with
   | true=>(match cs.all one with
     | true=>some (.ret (.Bc [.agg cs,.agg [.sc (.int .i64 0),.sc (.int .i64 0)],.sc (.bool true)]))
     | false=>none)
   | false=>none)
 | _=>none
theorem Ou {G:AB} {g:FuncId} (hg:Gq Tryz.prog g=true) {first caps:List AV} {s s':AS} {r r':CR} (h:Sound Tryz.prog G (.call g (first++[]++caps) s r s')) (hk:aV r=some r'):Sound Tryz.prog G (.call 44 [.fn (.func g) first caps] s r' s'):=by
 unfold aV at hk
 split at hk
 · rename_i cs
   split at hk
   · rename_i hn
     split at hk
     · rename_i ho
       cases hk
       intro cx w vs hs ha
       cases ha with
       | cons h1 t =>
       cases t
       cases h1 with
       | fn hf hc =>
       rename_i us vs
       have k:KL w (GA w) (fun _=>False):=by
         have k1:=Hv w (.cells #[.int .i64 0,.string ⟨#[]⟩,.string ⟨#[]⟩,.int .i64 0,.int .i64 0,.int .i64 0,.int .i64 0,.int .i64 0,.slice none 0 0,.slice none 0 0,.int .i64 0] 27)
         exact ⟨rfl,rfl,rfl,by unfold GA;simp;omega,fun q hq _=>by unfold GA;rw [heap_alloc_old _ _ (by simp;omega),heap_alloc_old _ _ (by simp;omega),heap_alloc_old _ _ hq]⟩
       have hsv:=ZJ hs k
       have hm:=Nn (cx:=cx) k
       have hC:=h (cx.Rb w (GA w)) (GA w) (us++vs) hsv (by simpa using (hf.BA hm).append (hc.BA hm))
       have e1:(us++vs).toArray=us.toArray++vs.toArray:=by simp
       rw [e1] at hC
       refine (W8 g hg us.toArray vs.toArray w (fun xs w'=>∃ c',Ext (cx.Rb w (GA w)) (GA w) c' w'∧St G c' w' s'∧A6 c' w' cs xs.toList) ?_ (hC.mono ?_)).mono ?_
       · rintro xs w' ⟨c',hx,_,hr⟩
         have hl:=hr.len
         have hsz:(GA w).heap.size=w.heap.size+1+1+1:=by unfold GA;simp
         refine ⟨⟨by have:=Nat.eq_of_beq_eq_true hn;rw [← Array.length_toList];omega,?_⟩,Lm hs hx ⟨by omega,by omega⟩,Lm hs hx ⟨by omega,by omega⟩,Lm hs hx ⟨by omega,by omega⟩⟩
         rw [Array.all_eq_true_iff_forall_mem]
         intro v hv
         exact Mg hr ho v (by simpa using hv)
       · rintro e w' ⟨c',hx,hs',u,rfl,hu⟩
         cases hu with
         | agg hr=>exact ⟨_,rfl,c',hx,hs',by simpa using hr⟩
       · rintro e w2 ⟨xs,w',⟨c',hx,hs',hr⟩,rfl,k2⟩
         have m2:=JO hx k2
         refine ⟨c'.MD cx,SW hs k hx k2,UB hs hx hs' k2,_,rfl,?_⟩
         have hr2:=hr.BA m2
         have ha:Rp (c'.MD cx) w2 (.agg cs) (.agg xs):=by
           have:=Rp.agg hr2
           simpa using this
         exact .Bc (vs:=[.agg xs,.agg #[.int .i64 0,.int .i64 0],.bool true]) (.cons ha (.cons (.agg (vs:=[.int .i64 0,.int .i64 0]) (.cons (.sc rfl) (.cons (.sc rfl) .nil))) (.cons (.sc rfl) .nil)))
     · cases hk
   · cases hk
 · cases hk
end Go.Proofs.YtkfplcngmiljaaaGreatDoor
namespace AI
open Go
section
variable {α γ δ ρ:Type}
def allI (p:Nat→α→Bool):List α→Nat→Bool
 | [],_=>true
 | y::l,i=>p i y&&allI p l (i+1)
theorem QI {body:Nat→α→Unit→Option (Lp Unit δ ρ)} {done:Unit→δ} {p:Nat→α→Bool} {v:ρ}:∀ {l:List α} {i:Nat},(∀ k y,l[k]?=some y→body (i+k) y ()=some (if p (i+k) y then .nx () else .rt v))→A2 body done l i ()=some (if allI p l i then .inl (done ()) else .inr v)
 | [],i,_=>rfl
 | y::l,i,h=>by
   have h0:=h 0 y rfl
   rw [Nat.add_zero] at h0
   rw [A2,h0,allI]
   cases p i y with
   | false=>simp [Gs]
   | true =>
     have:=QI (body:=body) (done:=done) (p:=p) (v:=v) (l:=l) (i:=i+1) fun k z hz=>by
       have:=h (k+1) z (by simpa using hz)
       rwa [show i+(k+1)=i+1+k by omega] at this
     simpa [Gs] using this
theorem EA {β:Type} {n:Nat} {x:Option β} (h:n≤9223372036854775807):IZ n x=x:=by unfold IZ;rw [if_pos h]
theorem Tx {β:Type} {n:Nat} {x:Option β} (h:n≤100000000):R5 n x=x:=by unfold R5;rw [if_pos h]
end
end AI
namespace AI
open Go
noncomputable def mb (p:Prop):Bool:=@decide p (Classical.propDecidable _)
theorem Bl {p:Prop}:mb p=true↔p:=by unfold mb;exact @decide_eq_true_iff p (_)
theorem En {p q:Prop} (h:p↔q):mb p=mb q:=by rw [propext h]
noncomputable def AO {β:Type} (p:Prop) (x y:β):β:=@ite β p (Classical.propDecidable _) x y
theorem Ah {β:Type} {p:Prop} {x y:β} (h:p):AO p x y=x:=@if_pos p (_) h _ _ _
theorem Ad {β:Type} {p:Prop} {x y:β} (h:¬ p):AO p x y=y:=@if_neg p (_) h _ _ _
section
variable {β:Type} {x y:β}
theorem C7 (p:Prop):cond (mb p) x y=AO p x y:=by
 by_cases h:p
 · rw [Ah h,Bl.2 h];rfl
 · rw [Ad h]
   have:mb p=false:=by
     cases hm:mb p
     · rfl
     · exact absurd (Bl.1 hm) h
   rw [this];rfl
theorem qB (b:Bool):cond b x y=AO (b=true) x y:=by cases b<;>simp [AO]
end
section
variable {p q r:Prop}
theorem PS:AO p (some true) (some false)=some (mb p):=by
 by_cases h:p
 · rw [Ah h,Bl.2 h]
 · rw [Ad h];congr 1;cases hm:mb p;rfl;exact absurd (Bl.1 hm) h
theorem tO:true=mb True:=(Bl.2 trivial).symm
theorem yH:false=mb False:=by cases h:mb False;rfl;exact (Bl.1 h).elim
theorem uI:AO p (some false) (some true)=some (mb ¬ p):=by
 by_cases h:p
 · rw [Ah h];congr 1;rw [Bool.eq_iff_iff,Bl];simp [h]
 · rw [Ad h];congr 1;rw [Bool.eq_iff_iff,Bl];simp [h]
theorem iF:AO p (some (mb q)) (some false)=some (mb (p∧q)):=by
 by_cases h:p
 · rw [Ah h];congr 1;rw [Bool.eq_iff_iff,Bl,Bl];simp [h]
 · rw [Ad h];congr 1;rw [Bool.eq_iff_iff,Bl];simp [h]
theorem oS:AO p (some false) (some (mb q))=some (mb (¬ p∧q)):=by
 by_cases h:p
 · rw [Ah h];congr 1;rw [Bool.eq_iff_iff,Bl];simp [h]
 · rw [Ad h];congr 1;rw [Bool.eq_iff_iff,Bl,Bl];simp [h]
theorem iN:AO p (some true) (some (mb q))=some (mb (p∨q)):=by
 by_cases h:p
 · rw [Ah h];congr 1;rw [Bool.eq_iff_iff,Bl];simp [h]
 · rw [Ad h];congr 1;rw [Bool.eq_iff_iff,Bl,Bl];simp [h]
noncomputable def ck {δ ρ:Type} (v:ρ) (p:Prop):Lp Unit δ ρ:=AO p (.nx ()) (.rt v)
variable {δ ρ:Type} {v:ρ}
theorem lF:AO p (some (.nx ())) (some (.rt v))=some (ck (δ:=δ) v p):=by
 unfold ck;by_cases h:p
 · rw [Ah h,Ah h]
 · rw [Ad h,Ad h]
theorem Zi:AO p (some (.rt v)) (some (.nx ()))=some (ck (δ:=δ) v ¬ p):=by
 unfold ck;by_cases h:p
 · rw [Ah h,Ad (by simp [h])]
 · rw [Ad h,Ah h]
theorem jI:AO p (some (ck (δ:=δ) v q)) (some (.rt v))=some (ck v (p∧q)):=by
 unfold ck;by_cases h:p
 · rw [Ah h];simp [h]
 · rw [Ad h,Ad (by simp [h])]
theorem ZM:AO p (some (.rt v)) (some (ck (δ:=δ) v q))=some (ck v (¬ p∧q)):=by
 unfold ck;by_cases h:p
 · rw [Ah h,Ad (by simp [h])]
 · rw [Ad h];simp [h]
theorem kA:AO p (some (ck (δ:=δ) v q)) (some (.nx ()))=some (ck v (p→q)):=by
 unfold ck;by_cases h:p
 · rw [Ah h];simp [h]
 · rw [Ad h,Ah (by simp [h])]
theorem tW:AO p (some (.nx ())) (some (ck (δ:=δ) v q))=some (ck v (p∨q)):=by
 unfold ck;by_cases h:p
 · rw [Ah h,Ah (by simp [h])]
 · rw [Ad h];simp [h]
theorem s8:AO p (some (ck (δ:=δ) v q)) (some (ck v r))=some (ck v ((p→q)∧(¬ p→r))):=by
 unfold ck;by_cases h:p
 · rw [Ah h];simp [h]
 · rw [Ad h];simp [h]
theorem NX {α β:Type} {l:List α} {body:Nat→α→Unit→Option (Lp Unit Unit ρ)} {P:Nat→α→Prop} {k:Unit→Option β} {kr:ρ→Option β} (hl:l.length≤9223372036854775807) (hb:∀ i y,l[i]?=some y→body i y ()=some (ck v (P i y))):(IZ l.length (A2 body (fun _=>()) (l.drop 0) 0 ())).bind (JA k kr)=AO (∀ i y,l[i]?=some y→P i y) (k ()) (kr v):=by
 rw [EA hl,List.drop_zero]
 have h1:∀ k y,l[k]?=some y→body (0+k) y ()=some (if mb (P (0+k) y) then .nx () else .rt v):=fun k y hy=>by
   rw [Nat.zero_add,hb k y hy]
   unfold ck
   by_cases h:P k y
   · rw [Ah h,if_pos (Bl.2 h)]
   · rw [Ad h,if_neg (fun e=>h (Bl.1 e))]
 rw [QI (p:=fun i y=>mb (P i y)) (v:=v) h1]
 have h2:∀ (l:List α) (i:Nat),allI (fun i y=>mb (P i y)) l i=true↔∀ k y,l[k]?=some y→P (i+k) y:=by
   intro l
   induction l with
   | nil=>intro i;simp [allI]
   | cons a l ih =>
     intro i
     rw [allI,Bool.and_eq_true,Bl,ih]
     constructor
     · rintro ⟨h1,h2⟩ k y hk
       cases k with
       | zero=>simp at hk;subst hk;exact h1
       | succ k=>rw [show i+(k+1)=i+1+k by omega];exact h2 k y (by simpa using hk)
     · intro h
       refine ⟨h 0 a rfl,fun k y hk=>?_⟩
       rw [show i+1+k=i+(k+1) by omega]
       exact h (k+1) y (by simpa using hk)
 have h3:=h2 l 0
 simp only [Nat.zero_add] at h3
 by_cases h:∀ i y,l[i]?=some y→P i y
 · rw [Ah h,h3.2 h];rfl
 · rw [Ad h]
   have:allI (fun i y=>mb (P i y)) l 0=false:=by
     cases ha:allI (fun i y=>mb (P i y)) l 0
     · rfl
     · exact absurd (h3.1 ha) h
   rw [this];rfl
end
end AI
namespace AI
open Go
def Sp {β:Type} (o:Option β) (Q:β→Prop):Prop:=∃ r,o=some r∧Q r
section
variable {α β γ δ ρ κ:Type} {Q:β→Prop}
theorem Kt {r:β}:Sp (some r) Q=Q r:=propext ⟨fun ⟨_,h,k⟩=>by cases h;exact k,fun h=>⟨_,rfl,h⟩⟩
theorem Ui {o:Option κ} {k:κ→Option β}:Sp (o.bind k) Q=Sp o (fun y=>Sp (k y) Q):=propext ⟨fun ⟨r,h,hq⟩=>by
 obtain ⟨y,h1,h2⟩:=Vu h
 exact ⟨y,h1,r,h2,hq⟩,fun ⟨y,h1,r,h2,hq⟩=>⟨r,by rw [h1];exact h2,hq⟩⟩
theorem Sp.mono {Q':β→Prop} {o:Option β} (h:Sp o Q) (k:∀ r,Q r→Q' r):Sp o Q':=h.elim fun r h=>⟨r,h.1,k r h.2⟩
theorem WV {o:Option β} {r:β}:(o=some r)=Sp o (fun x=>x=r):=propext ⟨fun h=>⟨r,h,rfl⟩,fun ⟨_,h,k⟩=>by rw [h,k]⟩
theorem R2 {p:Prop} {x y:Option β}:Sp (AO p x y) Q=((p→Sp x Q)∧(¬ p→Sp y Q)):=propext (by
 by_cases h:p
 · rw [Ah h];exact ⟨fun a=>⟨fun _=>a,fun n=>absurd h n⟩,fun a=>a.1 h⟩
 · rw [Ad h];exact ⟨fun a=>⟨fun n=>absurd n h,fun _=>a⟩,fun a=>a.2 h⟩)
theorem Io (a b:Int):O0 a b=mb (a≤b):=by rw [XT,Bool.eq_iff_iff,Bl,decide_eq_true_iff]
theorem E6 (a b:Int):Fx a b=mb (a < b):=by rw [I7,Bool.eq_iff_iff,Bl,decide_eq_true_iff]
theorem CP (a b:Int):DM a b=mb (a=b):=by rw [JZ,Bool.eq_iff_iff,Bl,beq_iff_eq]
theorem D3 (a b:ByteArray):Cc a.data.toList b.data.toList=mb (a=b):=by
 rw [SL,Bool.eq_iff_iff,Bl,beq_iff_eq]
 exact ⟨fun h=>ByteArray.ext (Array.ext' h),fun h=>by rw [h]⟩
theorem ED {p:Prop}:(mb p=true)=p:=propext Bl
theorem Lu {p:Prop}:(mb p=false)=¬ p:=by rw [← Bool.not_eq_true,ED]
theorem RL {p:Prop}:(true=mb p)=p:=by rw [@eq_comm _ true,ED]
theorem LK {p:Prop}:(false=mb p)=¬ p:=by rw [@eq_comm _ false,Lu]
theorem nR {p q:Prop} (h:p↔q):some (mb p)=some (mb q):=by rw [En h]
theorem MY {p:Prop} (h:¬ p):some false=some (mb p):=congrArg some (by rw [LK];exact h)
theorem Zh {l:List α} {body:Nat→α→γ→Option (Lp γ δ ρ)} {done:γ→δ} {k:δ→Option β} {kr:ρ→Option β} {x0:γ} (I:Nat→γ→Prop) (hl:l.length≤9223372036854775807) (h0:I 0 x0)
   (hb:∀ i y x,l[i]?=some y→I i x→Sp (body i y x) (RQ (I (i+1)) (fun d=>Sp (k d) Q) (fun v=>Sp (kr v) Q)))
   (hz:∀ x,I l.length x→Sp (k (done x)) Q):Sp ((IZ l.length (A2 body done (l.drop 0) 0 x0)).bind (JA k kr)) Q:=by
 rw [EA hl,List.drop_zero]
 have key:∀ (m:List α) (i:Nat) (x:γ),l.drop i=m→i≤l.length→I i x→Sp ((A2 body done m i x).bind (JA k kr)) Q:=by
   intro m
   induction m with
   | nil =>
     intro i x hd hle hi
     have h1:=List.drop_eq_nil_iff.1 hd
     have:i=l.length:=by omega
     subst this
     exact hz x hi
   | cons y m ih =>
     intro i x hd hle hi
     have hlt:i < l.length:=by
       rcases Nat.lt_or_ge i l.length with h1 | h1
       · exact h1
       · rw [List.drop_eq_nil_of_le h1] at hd;cases hd
     have hy:l[i]?=some y:=by rw [← List.head?_drop,hd];rfl
     have hd2:l.drop (i+1)=m:=by rw [← List.tail_drop,hd];rfl
     obtain ⟨r,hr,hq⟩:=hb i y x hy hi
     rw [A2,hr]
     cases r with
     | nx x'=>exact ih (i+1) x' hd2 hlt hq
     | ex d=>exact hq
     | rt v=>exact hq
 exact key l 0 x0 rfl (Nat.zero_le _) h0
theorem r4 {Qn:γ→Prop} {Qx:δ→Prop} {Qr:ρ→Prop} {x:γ}:RQ Qn Qx Qr (.nx x)=Qn x:=rfl
theorem qK {Qn:γ→Prop} {Qx:δ→Prop} {Qr:ρ→Prop} {x:δ}:RQ Qn Qx Qr (.ex x)=Qx x:=rfl
theorem kF {n:Nat} {body:Nat→γ→Option (Lp γ δ ρ)} {done:γ→δ} {k:δ→Option β} {kr:ρ→Option β} {x0:γ} (I:Nat→γ→Prop) (hl:n≤9223372036854775807) (h0:I 0 x0)
   (hb:∀ i x,i < n→I i x→Sp (body i x) (RQ (I (i+1)) (fun d=>Sp (k d) Q) (fun v=>Sp (kr v) Q)))
   (hz:∀ x,I n x→Sp (k (done x)) Q):Sp ((IZ n (PI body done n 0 x0)).bind (JA k kr)) Q:=by
 rw [EA hl]
 have key:∀ (d i:Nat) (x:γ),i+d=n→I i x→Sp ((PI body done d i x).bind (JA k kr)) Q:=by
   intro d
   induction d with
   | zero =>
     intro i x hd hi
     have:i=n:=by omega
     subst this
     exact hz x hi
   | succ d ih =>
     intro i x hd hi
     obtain ⟨r,hr,hq⟩:=hb i x (by omega) hi
     rw [PI,hr]
     cases r with
     | nx x'=>exact ih (i+1) x' (by omega) hq
     | ex d=>exact hq
     | rt v=>exact hq
 exact key n 0 x0 (by omega) h0
end
theorem Ra {n:Int} (h:-9223372036854775808≤n∧n≤9223372036854775807):IR .i64 n=n:=by
 rw [Nj]
 exact IntWalk.i64_in n (by omega)
theorem CT {a b:Int} (h:-9223372036854775808≤a+b∧a+b≤9223372036854775807):Bz a b=a+b:=by
 unfold Bz
 rw [PU,Ra h]
theorem Mp {a b:Int} (h:-9223372036854775808≤a - b∧a - b≤9223372036854775807):SM a b=a - b:=by
 unfold SM
 rw [Tq,Ra h]
end AI
namespace AI
open Go Go.RowKit
def Cl:Code→Array Oper
 | .region _ ops _=>ops
 | _=>#[]
def IH:Code→Nat→Bool
 | .region _ ops d,n=>(match d with
   | false=>Nat.beq ops.size n
   | true=>false)
 | _,_=>false
def uN:Oper:={ dst:=none,op:=.move (.tmp 0),type:=0,pos:="",after:=#[],guard:=none }
def E9 (c:Code) (i:Nat):Oper:=((Cl c)[i]?).getD uN
theorem TE {c:Code} {n:Nat} (h:IH c n=true):(∃ id,c=.region id (Cl c) false)∧(Cl c).size=n:=by
 unfold IH at h
 split at h
 · rename_i id ops d
   split at h
   · exact ⟨⟨id,rfl⟩,Nat.eq_of_beq_eq_true h⟩
   · cases h
 · cases h
theorem EV {c:Code} {n i:Nat} (h:IH c n=true) (hi:i < n):(Cl c)[i]?=some (E9 c i):=by
 have:=(TE h).2
 unfold E9
 rw [Array.getElem?_eq_getElem (by omega)]
 rfl
def Tg (o:Oper):Option (Operand×TypeId):=match o.guard with
 | none=>(match o.op with
   | .call cl=>(match cl.callee with
     | .builtin .len=>(match cl.args.toList with
       | [x]=>(match cl.argTypes.toList with
         | [t]=>some (x,t)
         | _=>none)
       | _=>none)
     | _=>none)
   | _=>none)
 | some _=>none
def QK (o:Oper):Option (Operand×Operand×TypeId×TypeId):=match o.guard with
 | none=>(match o.op with
   | .call cl=>(match cl.callee with
     | .builtin .append=>(match cl.args.toList with
       | [x,y]=>(match cl.argTypes.toList with
         | [t,tx]=>some (x,y,t,tx)
         | _=>none)
       | _=>none)
     | _=>none)
   | _=>none)
 | some _=>none
def TO (o:Oper):Option (TypeId×Operand×Operand):=match o.guard with
 | none=>(match o.op with
   | .slice t x lo hi mx=>(match lo with
     | none=>(match hi with
       | some y=>(match mx with
         | none=>some (t,x,y)
         | _=>none)
       | _=>none)
     | _=>none)
   | _=>none)
 | some _=>none
def iW (o:Oper):Option (TypeId×Operand×Operand):=match o.guard with
 | none=>(match o.op with
   | .indexAddr t x y=>some (t,x,y)
   | _=>none)
 | some _=>none
def mL (o:Oper):Option (TypeId×Operand):=match o.guard with
 | none=>(match o.op with
   | .load t x=>some (t,x)
   | _=>none)
 | some _=>none
def Zx (o:Oper):Option (TypeId×Operand):=match o.guard with
 | none=>(match o.op with
   | .buildSlice t n ps=>(match n with
     | 1=>(match ps.toList with
       | [(0,x)]=>some (t,x)
       | _=>none)
     | _=>none)
   | _=>none)
 | some _=>none
section
variable {P:Program} {w:World} {ρ:Operand→Value} {o:Oper}
theorem Vj {x:Operand} {t e:TypeId} {A:Option Addr} {n cap:Nat} (h:Tg o=some (x,t)) (hu:P.underlying t=some (.slice e)) (ha:ρ x=.slice A n cap):o.guard=none∧(execOp ρ o).run P w=.ok (.value (.int .i64 n)) w:=by
 unfold Tg at h
 split at h
 · rename_i hg
   refine ⟨hg,?_⟩
   split at h
   · rename_i cl ho
     split at h
     · rename_i hcl
       split at h
       · rename_i x' hx
         split at h
         · rename_i t' ht
           cases h
           have e1:cl.args=#[x]:=by apply Array.ext';rw [hx]
           have e2:cl.argTypes=#[t]:=by apply Array.ext';rw [ht]
           simp [execOp,ho,resolve,hcl,e1,e2,invoke,builtin,ha,Builtin.len_,run_underlying hu,goInt]
         · cases h
       · cases h
     · cases h
   · cases h
 · cases h
theorem OR {x y:Operand} {t tx:TypeId} {u:Value} {w':World} (h:QK o=some (x,y,t,tx)) (hr:∀ ty,(Builtin.append_ #[t,tx] ty #[ρ x,ρ y]).run P w=.ok u w'):o.guard=none∧(execOp ρ o).run P w=.ok (.value u) w':=by
 unfold QK at h
 split at h
 · rename_i hg
   refine ⟨hg,?_⟩
   split at h
   · rename_i cl ho
     split at h
     · rename_i hcl
       split at h
       · rename_i x' y' hx
         split at h
         · rename_i t' tx' ht
           cases h
           have e1:cl.args=#[x,y]:=by apply Array.ext';rw [hx]
           have e2:cl.argTypes=#[t,tx]:=by apply Array.ext';rw [ht]
           simp [execOp,ho,resolve,hcl,e1,e2,invoke,builtin,hr]
         · cases h
       · cases h
     · cases h
   · cases h
 · cases h
theorem Rd {q:Operand×Operand×TypeId×TypeId} (h:QK o=some q):o.guard=none:=by
 unfold QK at h
 split at h
 · rename_i hg;exact hg
 · cases h
theorem Ut {x y:Operand} {t e:TypeId} {i:TypeInfo} {g n cap m:Nat} (h:TO o=some (t,x,y)) (hu:P.underlying t=some (.slice e)) (hi:P.info? e=some i) (ha:ρ x=.slice (some ⟨g,0,none⟩) n cap) (hy:ρ y=.int .i64 m) (hm:m≤cap):o.guard=none∧(execOp ρ o).run P w=.ok (.value (.slice (some ⟨g,0,none⟩) m cap)) w:=by
 unfold TO at h
 split at h
 · rename_i hg
   refine ⟨hg,?_⟩
   split at h
   · rename_i t' x' lo hi' mx ho
     split at h
     · split at h
       · split at h
         · cases h
           have b1:Je 0 none 0:=.inl ⟨rfl,rfl⟩
           have b2:Je n (some (.int .i64 ((m:Nat):Int))) m:=.inr ⟨.i64,(m:Int),rfl,by omega,by simp⟩
           simp only [execOp,ho,Option.map_none,Option.map_some,ha,hy,Instr.sliceAt,Sem.run_bind,run_underlying hu,Result.andThen_ok,Instr.slice,J1 b1 b2 (Nat.zero_le m) hm,Sem.run_pure,Bb hi]
           congr 3
           split
           · rfl
           · simp [add_lit]
         · cases h
       · cases h
     · cases h
   · cases h
 · cases h
theorem WA {x y:Operand} {t e:TypeId} {i:TypeInfo} {g n cap m:Nat} (h:iW o=some (t,x,y)) (hu:P.underlying t=some (.slice e)) (hi:P.info? e=some i) (ha:ρ x=.slice (some ⟨g,0,none⟩) n cap) (hy:ρ y=.int .i64 m) (hm:m < n):o.guard=none∧(execOp ρ o).run P w=.ok (.value (.pointer (some ⟨g,m*i.size,none⟩))) w:=by
 unfold iW at h
 split at h
 · rename_i hg
   refine ⟨hg,?_⟩
   split at h
   · rename_i t' x' y' ho
     cases h
     have h0:(0:Int)≤(m:Int):=by omega
     have h1:(m:Int) < (n:Int):=by omega
     simp [execOp,ho,ha,hy,Instr.indexAt,asIntOf,run_underlying hu,hm,Bb hi,add_lit]
   · cases h
 · cases h
theorem Xl {x:Operand} {t:TypeId} {a:Addr} {u:Value} (h:mL o=some (t,x)) (ha:ρ x=.pointer (some a)) (hr:(loadVar t a).run P w=.ok u w):o.guard=none∧(execOp ρ o).run P w=.ok (.value u) w:=by
 unfold mL at h
 split at h
 · rename_i hg
   refine ⟨hg,?_⟩
   split at h
   · rename_i t' x' ho
     cases h
     simp [execOp,ho,ha,Instr.loadAt,Instr.sureAddr,hr]
   · cases h
 · cases h
theorem Yq {x:Operand} {t e:TypeId} {i:TypeInfo} {z:Value} (h:Zx o=some (t,x)) (hu:P.underlying t=some (.slice e)) (hi:P.info? e=some i) (hs:i.size=1) (hz:i.zero=some z) (hzs:z.cells.size=1) (hv:(ρ x).cells=#[ρ x]):o.guard=none∧(execOp ρ o).run P w=.ok (.value (.slice (some ⟨w.heap.size,0,none⟩) 1 1)) { w with heap:=w.heap.push (.cells #[ρ x] e) }:=by
 unfold Zx at h
 split at h
 · rename_i hg
   refine ⟨hg,?_⟩
   split at h
   · rename_i t' n ps ho
     split at h
     · split at h
       · rename_i x' hps
         cases h
         have e1:ps=#[(0,x)]:=by apply Array.ext';rw [hps]
         have hf:∀ B:Array Value,B.size=1→Instr.fill (fun i=>some (i,1)) B [(0,ρ x)]=some #[ρ x]:=by
           intro B hB
           obtain ⟨b,rfl⟩:=Array.size_eq_one_iff.1 hB
           simp [Instr.fill,hv]
         have h2:=hf ((Array.range 1).map (z.cells[· % z.cells.size]!)) (by simp)
         simp only [execOp,ho,e1,Instr.buildSlice,Sem.run_bind,run_underlying hu,Result.andThen_ok,Bb hi,hs,Sem.run_ite,zeroValue,typeInfo,run_program,hi,hz,Sem.run_pure,List.map_toArray,List.map_cons,List.map_nil,Nat.mul_one,Nat.one_ne_zero,if_false,gt_iff_lt,show ¬ (2 ^ 24 < 1) from by decide,newRow]
         rw [h2]
         simp
       · cases h
     · cases h
   · cases h
 · cases h
end
end AI
namespace AI
open Go Go.RowKit
def LG (ps:List (Nat×Nat)):List AV:=ps.map fun p=>.ptr p.1 p.2
theorem KZ (ps:List (Nat×Nat)):(LG ps).length=ps.length:=by simp [LG]
def BT (b:Nat) (B:Nat→Nat→Prop) (w0:World) (g cap:Nat) (ps:List (Nat×Nat)):EW:=fun c w =>
 c.base=b∧Below b w0 w∧(∀ g' i,c.bad g' i↔(B g' i∨g'=g))∧b≤g∧some g∉c.Bf∧(∀ (r:Nat) n cap' sz,c.rows[r]?≠some (.blk g n cap' sz)) ∧
 ∃ (vs ext:List Value) (T:TypeId),w.heap[g]?=some (.cells (vs++ext).toArray T (0,0))∧vs.length+ext.length=cap∧A6 c w (LG ps) vs
theorem BT.CY {b:Nat} {B:Nat→Nat→Prop} {w0:World} {g cap:Nat} {ps:List (Nat×Nat)}:Kx (BT b B w0 g cap ps):=by
 rintro cx w cx' w' ⟨h1,h2,h3,h4,h5,h6,vs,ext,T,h7,h8,h9⟩ hx
 have hg:g < w.heap.size:=(Array.getElem?_eq_some_iff.1 h7).1
 refine ⟨hx.base.trans h1,h2.trans (by have:=hx.below;rwa [h1] at this),fun g' i=>by rw [hx.bad];exact h3 g' i,h4,fun hm=>?_,fun r n cap' sz hr=>?_,vs,ext,T,by rw [hx.CY g hg h5 h6];exact h7,h8,h9.mono hx⟩
 · rcases hx.pnew g hm with h | h
   · exact h5 h
   · omega
 · rcases hx.rnew r g n cap' sz hr with ⟨r0,n0,cap0,sz0,h⟩ | h
   · exact h6 _ _ _ _ h
   · omega
theorem BT.fin {b:Nat} {B:Nat→Nat→Prop} {w0:World} {g cap:Nat} {ps:List (Nat×Nat)} (hB:∀ g i,B g i→g < b):p5 b B w0 (BT b B w0 g cap ps):=by
 rintro c w ⟨h1,h2,h3,h4,h5,_⟩
 refine ⟨h1,h2,fun g' i hb=>(h3 g' i).2 (.inl hb),fun g' i hg hb=>?_⟩
 rcases (h3 g' i).1 hb with h | rfl
 · exact hB g' i h
 · exact absurd hg h5
theorem BT.pop {b:Nat} {B:Nat→Nat→Prop} {w0:World} {g cap:Nat} {ps:List (Nat×Nat)} {p:Nat×Nat} {c:Cx} {w:World} (h:BT b B w0 g cap (ps++[p]) c w):BT b B w0 g cap ps c w:=by
 obtain ⟨h1,h2,h3,h4,h5,h6,vs,ext,T,h7,h8,h9⟩:=h
 have hl:=h9.len
 rw [KZ,List.length_append] at hl
 refine ⟨h1,h2,h3,h4,h5,h6,vs.take ps.length,vs.drop ps.length++ext,T,by rw [← List.append_assoc,List.take_append_drop];exact h7,by rw [List.length_append,List.length_take,List.length_drop];omega,?_⟩
 have:=h9.take ps.length
 unfold LG at this ⊢
 rwa [List.map_append,List.take_left' (by simp)] at this
theorem St.move {G:AB} {c c':Cx} {w w':World} {s:AS} (h:St G c w s) (hm:Mon c w c' w') (hphi:c'.Bf=c.Bf) (hrows:c'.rows=c.rows) (hbase:c'.base=c.base)
   (hheap:∀ k,k < w.heap.size→(some k∈c.Bf∨∃ (r:Nat) (n cap sz:Nat),c.rows[r]?=some (.blk k n cap sz))→w'.heap[k]?=w.heap[k]?) (hsize:w.heap.size≤w'.heap.size)
   (hbad:∀ g i,c'.bad g i→(c.bad g i∨w.heap.size≤g)∧g < w'.heap.size):St G c' w' s:=by
 refine ⟨by rw [hphi];exact h.len,h.desc,by rw [hphi];exact h.nodup,by rw [hphi,hbase];exact h.low,fun id g b h1 h2=>?_,by rw [hrows];exact h.rlen,fun r g n cap sz hr=>?_,by rw [hrows];exact h.rfree,fun g hg=>Nat.lt_of_lt_of_le (h.plow g (by rwa [hphi] at hg)) hsize,fun g i hb=>(hbad g i hb).2,by rw [hrows];exact h.rdist,fun g cs hg=>(h.glob g cs hg).BA hm,by rw [hbase];exact Nat.le_trans h.bsz hsize⟩
 · rw [hphi] at h1
   obtain ⟨o,ho,hb⟩:=h.box id g b h1 h2
   exact ⟨o,by rw [hheap g (Array.getElem?_eq_some_iff.1 ho).1 (.inl (List.mem_of_getElem? h1))];exact ho,hb.BA hm⟩
 · rw [hrows] at hr
   obtain ⟨a1,a2,a3,a4,vs,T,a5,a6⟩:=h.row r g n cap sz hr
   have hlt:=h.FZ hr
   refine ⟨fun i hb=>?_,by rw [hbase];exact a2,by rw [hphi];exact a3,a4,vs,T,by rw [hheap g hlt (.inr ⟨r,n,cap,sz,hr⟩)];exact a5,a6⟩
   rcases (hbad g i hb).1 with h1 | h1
   · exact a1 i h1
   · omega
section
variable {P:Program} {G:AB} {E:EW} {fr:List AV} {s:AS} {Q:QE}
theorem Hg.sD {ι:Type} {E':ι→EW} {ops:Array Oper} {i:Nat} {l:List Nat} {o:Oper} {fr2:List AV} (v:ι→AV) {s2:AS} (ho:ops[i]?=some o) (hg:o.guard=none)
   (h:∀ (cx:Cx) (w:World) (a:Act),E cx w→St G cx w s→A6 cx w fr a.tmps.toList→∃ x u w' cx',(execOp a.eval o).run P w=.ok (.value u) w'∧E' x cx' w'∧St G cx' w' s2∧A6 cx' w' fr2 a.tmps.toList∧Rp cx' w' (v x) u)
   (t:∀ x,Hg P G (E' x) ops l (DK fr2 o.dst (v x)) s2 Q):Hg P G E ops (i::l) fr s Q:=by
 intro cx w a K hE hs hf hd hK
 refine Fl ho ?_
 obtain ⟨x,u,w',cx',hr,hE',hs',hf',hu⟩:=h cx w a hE hs hf
 unfold Gu
 have hw:Region.wanted o (yielded ops a.tmps)=true:=by unfold Region.wanted;rw [hg]
 rw [hw]
 simp only [if_true]
 unfold Oper.wp
 rw [hr]
 exact t x cx' w' (a.put o.dst u) K hE' hs' (Ie hf' hu) (by cases o.dst<;>exact hd) hK
theorem WE.rG {c:Code} {n:Nat} (h:IH c n=true) (k:Hg P G E (Cl c) (List.range n) fr s Q):WE P G E c fr s Q:=by
 obtain ⟨⟨id,hc⟩,hn⟩:=TE h
 rw [hc]
 refine .region ?_
 rw [← hn] at k
 exact k
variable {c:Code} {n i:Nat} {l:List Nat}
theorem Hg.len {x:Operand} {t e:TypeId} {A:Option Addr} {k cap:Nat} (hr:IH c n=true) (hi:i < n) (h:Tg (E9 c i)=some (x,t)) (hu:P.underlying t=some (.slice e)) (ha:AE G fr x=some (.raw A k cap))
   (j:Hg P G E (Cl c) l (DK fr (E9 c i).dst (.sc (.int .i64 k))) s Q):Hg P G E (Cl c) (i::l) fr s Q:=by
 have hgd:(E9 c i).guard=none:=by
   unfold Tg at h
   split at h
   · rename_i hg;exact hg
   · cases h
 refine .vY (.sc (.int .i64 k)) (EV hr hi) hgd (fun cx w a hE hs hf=>?_) j
 have hv:=CC hs hf ha
 generalize hq:a.eval x=v at hv
 cases hv
 exact ⟨_,w,cx,(Vj h hu hq).2,hE,hs,hf,.sc rfl⟩
variable {b g cap:Nat} {B:Nat→Nat→Prop} {w0:World} {ps:List (Nat×Nat)} {p:Nat×Nat}
theorem Hg.top {t t2 e d:TypeId} {x y:Operand} (hr:IH c n=true) (hi:i+1 < n) (h1:iW (E9 c i)=some (t,x,y)) (hd:(E9 c i).dst=some d) (h2:mL (E9 c (i+1))=some (t2,.tmp d)) (hu:P.underlying t=some (.slice e)) (he:(P.info? e).map (·.size)=some 1)
   (hd2:(P.underlying t2).map FV=some false) (he2:(P.info? t2).map (·.size)=some 1) (ha:AE G fr x=some (.raw (some ⟨g,0,none⟩) (ps++[p]).length cap)) (hy:AE G fr y=some (.sc (.int .i64 ((ps.length:Nat):Int)))) (hd3:Nat.blt d fr.length=true)
   (j:Hg P G (BT b B w0 g cap (ps++[p])) (Cl c) l (DK (DK fr (some d) .any) (E9 c (i+1)).dst (.ptr p.1 p.2)) s Q):Hg P G (BT b B w0 g cap (ps++[p])) (Cl c) (i::(i+1)::l) fr s Q:=by
 have hd3:d < fr.length:=Nat.blt_eq.mp hd3
 intro cx w a K hE hs hf hdf hK
 have hva:=CC hs hf ha
 have hvy:=CC hs hf hy
 generalize hqa:a.eval x=va at hva
 generalize hqy:a.eval y=vy at hvy
 cases hva
 cases hvy
 obtain ⟨ie,hie,hsz⟩:=Option.map_eq_some_iff.1 he
 have r1:=WA (P:=P) (w:=w) h1 hu hie hqa hqy (by simp)
 rw [hsz,Nat.mul_one] at r1
 have hE2:=hE
 obtain ⟨_,_,_,_,_,_,vs,ext,T,h7,h8,h9⟩:=hE2
 refine Fl (EV hr (by omega)) ?_
 unfold Gu
 rw [show Region.wanted (E9 c i) (yielded (Cl c) a.tmps)=true by unfold Region.wanted;rw [r1.1]]
 simp only [if_true]
 unfold Oper.wp
 rw [r1.2]
 show wpOps P (Cl c) K ((i+1)::l) (a.put (E9 c i).dst (.pointer (some ⟨g,ps.length,none⟩))) w
 rw [hd]
 have hl:=hf.len
 rw [Array.length_toList] at hl
 have hev:(a.put (some d) (.pointer (some ⟨g,ps.length,none⟩))).eval (.tmp d)=.pointer (some ⟨g,ps.length,none⟩):=by
   simp [Act.put,Act.eval,Array.getD_eq_getD_getElem?,Array.getElem?_setIfInBounds,hl,hd3]
 have hap:apart P t2 (LG (ps++[p])) ps.length=some (.ptr p.1 p.2):=by
   unfold apart
   obtain ⟨dd,hu2,hdd⟩:=Option.map_eq_some_iff.1 hd2
   rw [hu2]
   cases hi2:P.info? t2 with
   | none=>rw [hi2] at he2;cases he2
   | some j =>
     simp only
     rw [hdd,if_neg (by simp)]
     simp [LG]
 obtain ⟨u,hru,hrp⟩:=JL (P:=P) (w:=w) (g:=g) (o:=0) hap h9 (fun i v hv=>by rw [Nat.zero_add];exact cell_of_heap h7 (Jl hv))
 rw [Nat.zero_add] at hru
 have r2:=Xl (P:=P) (w:=w) h2 hev hru
 refine Fl (EV hr hi) ?_
 unfold Gu
 rw [show ∀ q,Region.wanted (E9 c (i+1)) q=true by intro q;unfold Region.wanted;rw [r2.1]]
 simp only [if_true]
 unfold Oper.wp
 rw [r2.2]
 exact j cx w _ K hE hs (Ie (Ie (dst:=some d) hf (.any (v:=.pointer (some ⟨g,ps.length,none⟩)) rfl)) hrp) (by cases (E9 c (i+1)).dst<;>exact hdf) hK
theorem Hg.tS {t e:TypeId} {x y:Operand} (hr:IH c n=true) (hi:i < n) (h:TO (E9 c i)=some (t,x,y)) (hu:P.underlying t=some (.slice e)) (he:(P.info? e).map (·.size)=some 1) (ha:AE G fr x=some (.raw (some ⟨g,0,none⟩) (ps++[p]).length cap)) (hy:AE G fr y=some (.sc (.int .i64 ((ps.length:Nat):Int))))
   (j:Hg P G (BT b B w0 g cap ps) (Cl c) l (DK fr (E9 c i).dst (.raw (some ⟨g,0,none⟩) ps.length cap)) s Q):Hg P G (BT b B w0 g cap (ps++[p])) (Cl c) (i::l) fr s Q:=by
 have hgd:(E9 c i).guard=none:=by
   unfold TO at h
   split at h
   · rename_i hg;exact hg
   · cases h
 refine .vY (.raw (some ⟨g,0,none⟩) ps.length cap) (EV hr hi) hgd (fun cx w a hE hs hf=>?_) j
 have hva:=CC hs hf ha
 have hvy:=CC hs hf hy
 generalize hqa:a.eval x=va at hva
 generalize hqy:a.eval y=vy at hvy
 cases hva
 cases hvy
 obtain ⟨ie,hie,_⟩:=Option.map_eq_some_iff.1 he
 have hE2:=hE
 obtain ⟨_,_,_,_,_,_,vs,ext,T,h7,h8,h9⟩:=hE2
 have hl:=h9.len
 rw [KZ,List.length_append] at hl
 exact ⟨_,w,cx,(Ut h hu hie hqa hqy (by omega)).2,hE.pop,hs,hf,.raw⟩
theorem Hg.push {t tx e e2 id off:TypeId} {x y:Operand} (hr:IH c n=true) (hi:i < n) (h:QK (E9 c i)=some (x,y,t,tx)) (hu:P.underlying t=some (.slice e)) (hux:P.underlying tx=some (.slice e2))
   (he:(P.info? e).map (fun i=>(i.size,decide (i.bytes≤10000),i.zero.map (·.cells.size)))=some (1,true,some 1)) (ha:AE G fr x=some (.raw (some ⟨g,0,none⟩) ps.length cap)) (hy:AE G fr y=some (.sl .full 1 [.ptr id off])) (hlen:ps.length+1≤100000000)
   (j:∀ g' cap',Hg P G (BT b B w0 g' cap' (ps++[(id,off)])) (Cl c) l (DK fr (E9 c i).dst (.raw (some ⟨g',0,none⟩) (ps++[(id,off)]).length cap')) s Q):Hg P G (BT b B w0 g cap ps) (Cl c) (i::l) fr s Q:=by
 cases hie:P.info? e with
 | none=>rw [hie] at he;cases he
 | some ie =>
 rw [hie] at he
 simp only [Option.map_some,Option.some.injEq,Prod.mk.injEq,decide_eq_true_eq] at he
 obtain ⟨hsz,hby,hzz⟩:=he
 obtain ⟨z,hz,hzs⟩:=Option.map_eq_some_iff.1 hzz
 refine .sD (ι:=Nat×Nat) (E':=fun q=>BT b B w0 q.1 q.2 (ps++[(id,off)])) (fun q=>.raw (some ⟨q.1,0,none⟩) (ps++[(id,off)]).length q.2) (EV hr hi) (Rd h) (fun cx w a hE hs hf=>?_) (fun q=>j q.1 q.2)
 have hva:=CC hs hf ha
 have hvy:=CC hs hf hy
 generalize hqa:a.eval x=va at hva
 generalize hqy:a.eval y=vy at hvy
 cases hva
 obtain ⟨h1,h2,h3,h4,h5,h6,vs,ext,T,h7,h8,h9⟩:=hE
 have hg:g < w.heap.size:=(Array.getElem?_eq_some_iff.1 h7).1
 have hl:=h9.len
 rw [KZ] at hl
 obtain ⟨news,hnr,hnl,hsi⟩:=O5 (P:=P) (s:=s) (size:=ie.size) (tx:=tx) (n:=1) (cs:=[.ptr id off]) hs (by unfold LZ;rw [hux,hsz];rfl) hvy
 rw [hsz,Nat.mul_one] at hnl
 have hshy:∀ g' i v,EM cx w g' i v→g'≠g:=fun g' i v hv e=>hv.2.1 (.inr (.inr ((h3 g' i).2 (.inr e))))
 have hlast:∀ {cx':Cx} {w':World},Mon cx w cx' w'→A6 cx' w' (LG (ps++[(id,off)])) (vs++news):=fun hm=>by
   unfold LG at h9 ⊢
   rw [List.map_append]
   exact (h9.BA hm).append (hnr.BA hm)
 by_cases hroom:ps.length+1≤cap
 · have hfit:ps.length+news.length≤(vs++ext).toArray.size:=by rw [hnl,List.size_toArray,List.length_append];omega
   have hst:=run_storeCells_at P g ps.length T news 0 (vs++ext).toArray w h7 (by simpa using hfit) (Mg hnr rfl)
   simp only [Nat.add_zero] at hst
   have hnew:=setRow_heap w g (vs++ext).toArray ((vs++ext).toArray.toList.take ps.length++news++(vs++ext).toArray.toList.drop (ps.length+news.length)).toArray T (0,0) h7
   have hc:=EC w g ((vs++ext).toArray.toList.take ps.length++news++(vs++ext).toArray.toList.drop (ps.length+news.length)).toArray
   have hcells:((vs++ext).toArray.toList.take ps.length++news++(vs++ext).toArray.toList.drop (ps.length+news.length))=(vs++news)++ext.drop 1:=by
     simp only [List.toList_toArray]
     rw [List.take_left' hl,hnl,List.drop_append]
     rw [List.drop_eq_nil_of_le (by omega),List.nil_append,show ps.length+1 - vs.length=1 by omega]
   rw [hcells] at hnew hst hc
   have hm:Mon cx w cx (w.setRow g ((vs++news)++ext.drop 1).toArray):=⟨fun _ _ h=>h,Nat.le_refl _,fun r y _ h=>⟨y,h,Es.refl y⟩,fun g' i v hv=>⟨Nat.lt_of_lt_of_le hv.1 hc.size,hv.2.1,by rw [hc.cell hv.1 (hshy g' i v hv)];exact hv.2.2⟩⟩
   refine ⟨(g,cap),_,_,cx,(OR h (fun ty=>by
     rw [hqa,hqy]
     exact Ih (ty:=ty) hu hie hsi hroom (w':=w.setRow g ((vs++news)++ext.drop 1).toArray) (fun a ha=>by cases ha;rw [add_lit,Nat.zero_add,hsz,Nat.mul_one];exact hst) (fun h=>by cases h))).2,⟨h1,h2.trans (hc.below (by rw [← h1];exact hs.bsz) (fun k hk=>by rw [hk];exact h4)),h3,h4,h5,h6,vs++news,ext.drop 1,T,hnew,?_,hlast hm⟩,hs.move hm rfl rfl rfl (fun k hk hor=>hc.block k hk (fun e=>?_)) hc.size (fun g' i hb=>⟨.inl hb,Nat.lt_of_lt_of_le (hs.blow g' i hb) hc.size⟩),hf.BA hm,?_⟩
   · rw [List.length_append,List.length_drop];omega
   · subst e
     rcases hor with h | ⟨r,n',cap',sz,h⟩
     · exact h5 h
     · exact h6 _ _ _ _ h
   · rw [List.length_append];exact .raw
 · have hfc:(Builtin.firstCells ie.size ps.length (.slice (some ⟨g,0,none⟩) ps.length cap)).run P { w with drawn:=w.drawn+1 }=.ok vs.toArray { w with drawn:=w.drawn+1 }:=by
     rw [hsz]
     refine run_firstCells_some { w with drawn:=w.drawn+1 } 1 ps.length ⟨g,0,none⟩ ps.length cap vs (by omega) (fun j v hj=>?_)
     rw [add_lit,Nat.zero_add]
     exact cell_of_heap h7 (Jl hj)
   have hbytes:(ps.length+1)*ie.bytes≤140737488355328:=Nat.le_trans (Nat.mul_le_mul hlen hby) (by decide)
   have hex:∃ cap',ps.length+1≤cap'∧∀ ty,(Builtin.append_ #[t,tx] ty #[.slice (some ⟨g,0,none⟩) ps.length cap,vy]).run P w=.ok (.slice (some ⟨w.heap.size,0,none⟩) (ps.length+1) cap') { w with drawn:=w.drawn+1,heap:=w.heap.push (.cells ((vs++news).toArray++Builtin.zeroCells z.cells (cap' - (ps.length+1))) e) }:=by
     obtain ⟨cap',hc',hrun⟩:=Ii (ty:=0) hu hie hz hsi hfc (by omega) (by omega) hbytes
     exact ⟨cap',hc',fun ty=>hrun⟩
   obtain ⟨cap',hcap',hrun⟩:=hex
   have hzc:(Builtin.zeroCells z.cells (cap' - (ps.length+1))).size=cap' - (ps.length+1):=by rw [size_zeroCells,hzs,Nat.mul_one]
   let w':World:={ w with drawn:=w.drawn+1,heap:=w.heap.push (.cells ((vs++news).toArray++Builtin.zeroCells z.cells (cap' - (ps.length+1))) e) }
   have hk:KL w w' (fun _=>False):=⟨rfl,rfl,rfl,by simp [w'],fun k hk _=>by simp [w',Array.getElem?_push];intro h;omega⟩
   have hnew:w'.heap[w.heap.size]?=some (.cells ((vs++news)++(Builtin.zeroCells z.cells (cap' - (ps.length+1))).toList).toArray e (0,0)):=by
     have:w'.heap[w.heap.size]?=some (.cells ((vs++news).toArray++Builtin.zeroCells z.cells (cap' - (ps.length+1))) e (0,0)):=by simp [w']
     rw [this]
     congr 2
     apply Array.ext'
     simp
   let cx':Cx:={ cx with bad:=fun g' i=>B g' i∨g'=w.heap.size }
   have hBs:∀ g' i,B g' i→g' < w.heap.size:=fun g' i hb=>hs.blow g' i ((h3 g' i).2 (.inl hb))
   have hm:Mon cx w cx' w':=⟨fun _ _ h=>h,Nat.le_refl _,fun r y _ h=>⟨y,h,Es.refl y⟩,fun g' i v hv=>⟨Nat.lt_of_lt_of_le hv.1 hk.size,fun hsh=>?_,by rw [hk.cell hv.1 not_false];exact hv.2.2⟩⟩
   · have hsz':w'.heap.size=w.heap.size+1:=by simp [w']
     refine ⟨(w.heap.size,cap'),_,w',cx',(OR h (fun ty=>by rw [hqa,hqy];exact hrun ty)).2,⟨h1,h2.trans (hk.below (by rw [← h1];exact hs.bsz) (fun _ h=>h.elim)),fun _ _=>Iff.rfl,by rw [← h1];exact hs.bsz,fun hm'=>?_,fun r n' c' sz hr'=>?_,vs++news,_,e,hnew,?_,hlast hm⟩,hs.move hm rfl rfl rfl (fun k hk' _=>hk.block k hk' not_false) hk.size (fun g' i hb=>?_),hf.BA hm,?_⟩
     · have:=hs.plow _ hm';omega
     · have:=hs.FZ hr';omega
     · have hz3:(Builtin.zeroCells z.cells (cap' - (ps.length+1))).toList.length=cap' - (ps.length+1):=by rw [Array.length_toList,hzc]
       show (vs++news).length+_=cap'
       rw [hz3,List.length_append];omega
     · rcases hb with hb | rfl
       · exact ⟨.inl ((h3 g' i).2 (.inl hb)),by have:=hBs g' i hb;omega⟩
       · exact ⟨.inr (Nat.le_refl _),by omega⟩
     · rw [List.length_append];exact .raw
   · rcases hsh with hsh | hsh | hsh
     · exact hv.2.1 (.inl hsh)
     · exact hv.2.1 (.inr (.inl hsh))
     · rcases hsh with hsh | hsh
       · exact hv.2.1 (.inr (.inr ((h3 g' i).2 (.inl hsh))))
       · have:=hv.1;omega
theorem Hg.begin {t e id off:TypeId} {x:Operand} (hr:IH c n=true) (hi:i < n) (h:Zx (E9 c i)=some (t,x)) (hu:P.underlying t=some (.slice e)) (he:(P.info? e).map (fun i=>(i.size,i.zero.map (·.cells.size)))=some (1,some 1)) (ha:AE G fr x=some (.ptr id off))
   (j:∀ g',Hg P G (BT b B w0 g' 1 [(id,off)]) (Cl c) l (DK fr (E9 c i).dst (.raw (some ⟨g',0,none⟩) 1 1)) s Q):Hg P G (E0 b B w0) (Cl c) (i::l) fr s Q:=by
 cases hie:P.info? e with
 | none=>rw [hie] at he;cases he
 | some ie =>
 rw [hie] at he
 simp only [Option.map_some,Option.some.injEq,Prod.mk.injEq] at he
 obtain ⟨hsz,hzz⟩:=he
 obtain ⟨z,hz,hzs⟩:=Option.map_eq_some_iff.1 hzz
 have hgd:(E9 c i).guard=none:=by
   unfold Zx at h
   split at h
   · rename_i hg;exact hg
   · cases h
 refine .sD (ι:=Nat) (E':=fun q=>BT b B w0 q 1 [(id,off)]) (fun q=>.raw (some ⟨q,0,none⟩) 1 1) (EV hr hi) hgd (fun cx w a hE hs hf=>?_) j
 have hva:=CC hs hf ha
 generalize hqa:a.eval x=va at hva
 obtain ⟨h1,h2,h3⟩:=hE
 have hrun:=(Yq (P:=P) (w:=w) (ρ:=a.eval) h hu hie hsz hz hzs (by rw [hqa];cases hva;rfl)).2
 rw [hqa] at hrun
 let w':World:={ w with heap:=w.heap.push (.cells #[va] e) }
 have hk:KL w w' (fun _=>False):=Hv w _
 let cx':Cx:={ cx with bad:=fun g' i=>B g' i∨g'=w.heap.size }
 have hBs:∀ g' i,B g' i→g' < w.heap.size:=fun g' i hb=>hs.blow g' i (by rw [h2];exact hb)
 have hsz':w'.heap.size=w.heap.size+1:=by simp [w']
 have hm:Mon cx w cx' w':=⟨fun _ _ h=>h,Nat.le_refl _,fun r y _ h=>⟨y,h,Es.refl y⟩,fun g' i v hv=>⟨Nat.lt_of_lt_of_le hv.1 hk.size,fun hsh=>by
   rcases hsh with hsh | hsh | hsh
   · exact hv.2.1 (.inl hsh)
   · exact hv.2.1 (.inr (.inl hsh))
   · rcases hsh with hsh | hsh
     · exact hv.2.1 (.inr (.inr (by rw [h2];exact hsh)))
     · have:=hv.1;omega,by rw [hk.cell hv.1 not_false];exact hv.2.2⟩⟩
 refine ⟨w.heap.size,_,w',cx',hrun,⟨h1,h3.trans (hk.below (by rw [← h1];exact hs.bsz) (fun _ h=>h.elim)),fun _ _=>Iff.rfl,by rw [← h1];exact hs.bsz,fun hm'=>?_,fun r n' c' sz hr'=>?_,[va],[],e,by simp [w'],rfl,.cons (hva.BA hm) .nil⟩,hs.move hm rfl rfl rfl (fun k hk' _=>hk.block k hk' not_false) hk.size (fun g' i hb=>?_),hf.BA hm,.raw⟩
 · have:=hs.plow _ hm';omega
 · have:=hs.FZ hr';omega
 · rcases hb with hb | rfl
   · exact ⟨.inl (by rw [h2];exact hb),by have:=hBs g' i hb;omega⟩
   · exact ⟨.inr (Nat.le_refl _),by omega⟩
theorem WE.run (hm:P.follows .mixedOrders=true) (hk:Kx E) {c:Code} (l:List (PC P G)) {e:AX} {fr2:List AV} {s2:AS} (h:RY fr2 (L2 P G 300 c [] (sA l) fr s)=some (e,Uq l,fr2,s2)) (hp:∀ v,e≠.pan v) (hq:Q e fr2 s2 E):WE P G E c fr s Q:=by
 unfold RY at h
 split at h
 · rename_i e' cd fr' s' hr
   simp only [Option.some.injEq,Prod.mk.injEq] at h
   obtain ⟨rfl,rfl,hfr,rfl⟩:=h
   have hw:W P G (XS P G) H0 c fr s (fun e2 f2 s2=>e2=e'∧f2=fr'∧s2=s'):=Ae 300 l _ _ _ _ hr (Hf l) ⟨rfl,rfl,rfl⟩
   obtain ⟨e1,f1,s1,hj,rfl,rfl,rfl⟩:=hw
   have hS:=sound (Lg hm) hj
   intro cx w a K hE hs hf hd hK
   refine hS cx w a K hs hf hd ?_
   rintro e'' a' w' ⟨c',hx,hs',hd',h4⟩
   refine hK _ _ _ E hq c' w' a' e'' (hk _ _ _ _ hE hx) hs' hd' ?_
   rw [← hfr]
   cases e1 with
   | normal=>exact ⟨h4.1,JX h4.2⟩
   | exit id=>exact ⟨h4.1,JX h4.2⟩
   | ret=>exact ⟨h4.1,JX h4.2⟩
   | pan v=>exact absurd rfl (hp v)
 · cases h
end
end AI
namespace AI
open Go Go.RowKit
theorem JE {M:List Ap}:∀ {n id:Nat} {acc:List (Nat×Ap)},id < n→look id (DE M n acc)=look id acc:=by
 induction M with
 | nil=>intro n id acc _;rfl
 | cons x M ih =>
   intro n id acc h
   simp only [DE]
   rw [ih (by omega)]
   simp only [look]
   have:Nat.beq n id=false:=by
     cases hq:Nat.beq n id with
     | false=>rfl
     | true=>have:=beq_true hq;omega
   rw [this]
theorem NY {M:List Ap}:∀ {n i:Nat} {acc:List (Nat×Ap)} {b:Ap},M[i]?=some b→look (n+i) (DE M n acc)=some b:=by
 induction M with
 | nil=>intro n i acc b h;simp at h
 | cons x M ih =>
   intro n i acc b h
   cases i with
   | zero =>
     simp at h
     subst h
     simp only [DE,Nat.add_zero]
     rw [JE (Nat.lt_succ_self n)]
     simp only [look,Nat.beq_refl]
   | succ i =>
     simp only [DE]
     rw [show n+(i+1)=n+1+i by omega]
     exact ih (by simpa using h)
theorem J8 {M:List Ap}:∀ {n id:Nat} {acc:List (Nat×Ap)} {b:Ap},id < n→Ix id b (DE M n acc)=DE M n (Ix id b acc):=by
 induction M with
 | nil=>intro n id acc b _;rfl
 | cons x M ih =>
   intro n id acc b h
   simp only [DE]
   rw [ih (by omega)]
   simp only [Ix]
   have:Nat.beq n id=false:=by
     cases hq:Nat.beq n id with
     | false=>rfl
     | true=>have:=beq_true hq;omega
   rw [this]
theorem PH {M:List Ap}:∀ {n i:Nat} {acc:List (Nat×Ap)} {b:Ap},i < M.length→Ix (n+i) b (DE M n acc)=DE (M.set i b) n acc:=by
 induction M with
 | nil=>intro n i acc b h;simp at h
 | cons x M ih =>
   intro n i acc b h
   cases i with
   | zero =>
     simp only [DE,Nat.add_zero,List.set_cons_zero]
     rw [J8 (Nat.lt_succ_self n)]
     simp only [Ix,Nat.beq_refl]
   | succ i =>
     simp only [DE,List.set_cons_succ]
     rw [show n+(i+1)=n+1+i by omega]
     exact ih (by simpa using h)
theorem R7 {x:Ap}:∀ {M:List Ap} {n:Nat} {acc:List (Nat×Ap)},DE (M++[x]) n acc=(n+M.length,x)::DE M n acc:=by
 intro M
 induction M with
 | nil=>intro n acc;rfl
 | cons y M ih =>
   intro n acc
   simp only [List.cons_append,DE,List.length_cons]
   rw [ih,show n+1+M.length=n+(M.length+1) by omega]
theorem X9 {k:Nat} {b b0:Ap} {T:List (Nat×Ap)}:Ix k b ((k,b0)::T)=(k,b)::T:=by simp only [Ix,Nat.beq_refl]
theorem Ma {k:Nat} {b:Ap} {T:List (Nat×Ap)}:look k ((k,b)::T)=some b:=by simp only [look,Nat.beq_refl]
theorem Pe {k id:Nat} {b:Ap} {T:List (Nat×Ap)} (h:k≠id):look id ((k,b)::T)=look id T:=by
 simp only [look]
 cases hq:Nat.beq k id with
 | false=>rfl
 | true=>exact absurd (beq_true hq) h
theorem jW {k id:Nat} {b b2:Ap} {T:List (Nat×Ap)} (h:k≠id):Ix id b2 ((k,b)::T)=(k,b)::Ix id b2 T:=by
 simp only [Ix]
 cases hq:Nat.beq k id with
 | false=>rfl
 | true=>exact absurd (beq_true hq) h
theorem Nz {id:Nat} {b b0:Ap}:∀ {T:List (Nat×Ap)},look id T=some b0→look id (Ix id b T)=some b:=by
 intro T
 induction T with
 | nil=>intro h;cases h
 | cons e T ih =>
   intro h
   simp only [look] at h
   simp only [Ix]
   split at h
   · simp only [look,Nat.beq_refl]
   · rename_i hb
     simp only [look,hb]
     exact ih h
section
variable {P:Program} {G:AB} {α:Type} {f:α→List AV} {C:List α→List AV} {k:Nat}
theorem OQ {e:TypeId} (hd:(P.underlying e).map FV=some false) (hs:(P.info? e).map (·.size)=some 1) {cs:List AV} {off:Nat} {a:AV} (h:cs[off]?=some a):Cd.ok P G (.ldB (.cells cs) e off a):=by
 intro s id hg
 simp only [DO,hg]
 unfold apart
 obtain ⟨d,hu,hd⟩:=Option.map_eq_some_iff.1 hd
 rw [hu]
 cases hi:P.info? e with
 | none=>rw [hi] at hs;cases hs
 | some j =>
   simp only
   rw [hd,if_neg (by simp)]
   exact h
theorem Se {β:Type} {cs:List β} {off:Nat} (v:β) (h:off < cs.length):Di cs off [v]=cs.set off v:=by
 unfold Di
 rw [List.set_eq_take_append_cons_drop,if_pos h]
 simp
theorem XD {e:TypeId} (hs:(P.info? e).map (·.size)=some 1) {cs cs2:List AV} {off:Nat} {v:AV} (h:off < cs.length) (hc:cs2=cs.set off v) (hv:cellsOf v=[v]:=by rfl) (h1:one v=true:=by rfl):Cd.ok P G (.stB (.cells cs) e off v (.cells cs2)):=by
 intro s id hg
 cases hi:P.info? e with
 | none=>rw [hi] at hs;cases hs
 | some j =>
   rw [hi] at hs
   have hk:j.size=1:=by simpa using hs
   unfold EG
   rw [hi]
   simp only [hg]
   rw [hv,hk,if_pos ⟨rfl,by simp [h1],by omega⟩,hc,Se v h]
theorem Mr {f:α→List AV} (hf:∀ x,(f x).length=k) {l:List α} {i j:Nat} {x:α} (hx:l[i]?=some x) (hj:j < k):(rows f l)[i*k+j]?=(f x)[j]?:=by
 rw [← List.getElem?_drop,Ji hf hx,List.getElem?_append_left (by rw [hf];exact hj)]
theorem Q9 {f:α→List AV} (hf:∀ x,(f x).length=k) {l:List α} {i j:Nat} {x y:α} {v:AV} (hx:l[i]?=some x) (hj:j < k) (hy:f y=(f x).set j v):rows f (l.set i y)=(rows f l).set (i*k+j) v:=by
 have hlt:=(List.getElem?_eq_some_iff.1 hx).1
 have hx':=(List.getElem?_eq_some_iff.1 hx).2
 have e1:l=l.take i++x::l.drop (i+1):=by
   rw [← hx',← List.drop_eq_getElem_cons hlt,List.take_append_drop]
 rw [ON y hlt]
 conv=>rhs;rw [e1]
 have hlen:(rows f (l.take i)).length=i*k:=by rw [DF hf,List.length_take,Nat.min_eq_left (by omega)]
 rw [GN,GN,Dm,Dm,hy,List.set_append_right _ _ (by omega),hlen,Nat.add_sub_cancel_left,List.set_append_left _ _ (by rw [hf];exact hj)]
theorem QU {f:α→List AV} (hf:∀ x,(f x).length=k) {e:TypeId} (hd:(P.underlying e).map FV=some true) (hs:(P.info? e).map (·.size)=some k) {l:List α} {i:Nat} {x:α} (hx:l[i]?=some x):Cd.ok P G (.ldB (.cells (rows f l)) e (0+i*k) (.agg (f x))):=by
 intro s id hg
 simp only [DO,hg]
 unfold apart
 obtain ⟨d,hu,hd⟩:=Option.map_eq_some_iff.1 hd
 rw [hu]
 cases hi:P.info? e with
 | none=>rw [hi] at hs;cases hs
 | some j =>
   rw [hi] at hs
   have hk:j.size=k:=by simpa using hs
   have hlt:=(List.getElem?_eq_some_iff.1 hx).1
   simp only
   rw [hd,if_pos rfl,Nat.zero_add,hk,DF hf,if_pos (by have:=Nat.mul_le_mul_right k hlt;rw [Nat.succ_mul] at this;exact this),Ji hf hx,List.take_left' (hf x)]
theorem zL {e:TypeId} (hs:(P.info? e).map (·.size)=some k) {cs0 cs:List AV} (h0:cs0.length=k) (h:cs.length=k) (h1:cs.all one=true):Cd.ok P G (.stB (.cells cs0) e 0 (.agg cs) (.cells cs)):=by
 intro s id hg
 cases hi:P.info? e with
 | none=>rw [hi] at hs;cases hs
 | some j =>
   rw [hi] at hs
   have hk:j.size=k:=by simpa using hs
   unfold EG
   rw [hi]
   simp only [hg]
   have hc:cellsOf (.agg cs)=cs:=rfl
   rw [hc,if_pos ⟨by rw [h,hk],h1,by rw [hk,h0];omega⟩]
   congr 3
   unfold Di
   rw [List.take_zero,List.nil_append,h,List.drop_eq_nil_of_le (by omega),List.append_nil]
theorem vT {s:AS} {fn:Func} {fr:List AV} {t ty:TypeId} {a v:AV} (hr:fn.results.toList=[.cell t ty]) (hf:fr[t]?=some a) (ha:DO P s ty a=some v):Cm P s fn fr=some v:=by
 unfold Cm
 rw [hr]
 simp only [Gz,I6,List.getD_eq_getElem?_getD,hf,Option.getD_some,ha]
def SE {b:Ap} {t:TypeId} {off:Nat} {v:AV} {x:Option Ap} (h:Cd.ok P G (.ldB b t off v)) (e:x=some b):PC P G:=⟨.lb b v,[.ldB b t off v,.eqx [x] [some b] [] []],⟨h,⟨by rw [e],rfl⟩,trivial⟩⟩
def aJ {b b2:Ap} {t:TypeId} {off:Nat} {v:AV} {x:Option Ap} (h:Cd.ok P G (.stB b t off v b2)) (e:x=some b):PC P G:=⟨.sb b b2,[.stB b t off v b2,.eqx [x] [some b] [] []],⟨h,⟨by rw [e],rfl⟩,trivial⟩⟩
end
section
variable {P:Program} {G:AB} {E:EW} {fr:List AV} {s:AS} {Q:QE}
theorem WE.wk {c:Code} {fr2:List AV} (h:eZ fr fr2=fr2) (k:WE P G E c fr2 s Q):WE P G E c fr s Q:=fun cx w a K hE hs hf hd hK=>k cx w a K hE hs (by rw [← h];exact JX hf) hd hK
theorem WE.Sa {c:Code} {id:Nat} {b b2:Ap} (hb:look id s.h=some b) (hk:∀ (cx:Cx) (w:World) (o:Obj),B1 cx w b o→B1 cx w b2 o) (k:WE P G E c fr ⟨Ix id b2 s.h,s.nx,s.F,s.nr⟩ Q):WE P G E c fr s Q:=fun cx w a K hE hs hf hd hK=>k cx w a K hE (hs.Sa hb (fun o ho=>hk cx w o ho)) hf hd hK
theorem WE.Jr {c x y:Code} (hc:c=.seq x y) (h:WE P G E x fr s (fun e fr' s' E'=>e=.normal∧WE P G E' y fr' s' Q)):WE P G E c fr s Q:=by
 subst hc
 exact .seq (fun cx w a K hE hs hf hd hK=>h cx w a K hE hs hf hd (fun e fr s E hq=>hK e fr s E (.inl hq)))
theorem WE.Xz {c x y:Code} (hc:c=.seq x y) (h:WE P G E x fr s (fun e fr' s' E'=>(e=.normal∧WE P G E' y fr' s' Q)∨(e≠.normal∧Q e fr' s' E'))):WE P G E c fr s Q:=by
 subst hc
 exact .seq h
theorem WE.Oi {c x y:Code} {q:Operand} (t:Bool) (hc:c=.cond q x y) (hq:AE G fr q=some (.sc (.bool t))) (h:WE P G E (if t then x else y) fr s Q):WE P G E c fr s Q:=by
 subst hc
 exact .cond hq h
theorem WE.RW (hm:P.follows .mixedOrders=true) (hk:Kx E) {c:Code} (l:List (PC P G)) {e:AX} {fr2:List AV} (h:RY fr2 (L2 P G 300 c [] (sA l) fr s)=some (e,Uq l,fr2,s)) (hp:∀ v,e≠.pan v) (hq:Q e fr2 s E):WE P G E c fr s Q:=.run hm hk l h hp hq
theorem Hg.q (hm:P.follows .mixedOrders=true) (hk:Kx E) {c:Code} {n i:Nat} {l:List Nat} (hr:IH c n=true) (hi:i < n) (v:AV) (hw:AY (Cl c) fr (E9 c i)=true) (h:Hr P G fr s (E9 c i)=some (.val v s)) (t:Hg P G E (Cl c) l (DK fr (E9 c i).dst v) s Q):Hg P G E (Cl c) (i::l) fr s Q :=
 .op hm hk v (EV hr hi) (.opVal hw h) t
theorem Hg.hb (hm:P.follows .mixedOrders=true) (hk:Kx E) {c:Code} {n i:Nat} {l:List Nat} (hr:IH c n=true) (hi:i < n) {B:Bool} (b:Bool) (hB:B=b) (h:Qe P G (Cl c) fr s (E9 c i) [.b b]=some (.sc (.bool b),s,[],[.eqb B b])) (t:Hg P G E (Cl c) l (DK fr (E9 c i).dst (.sc (.bool b))) s Q):Hg P G E (Cl c) (i::l) fr s Q :=
 .op hm hk (.sc (.bool b)) (EV hr hi) (It h ⟨hB,trivial⟩) t
theorem Hg.hi (hm:P.follows .mixedOrders=true) (hk:Kx E) {c:Code} {n i:Nat} {l:List Nat} (hr:IH c n=true) (hi:i < n) {X:Int} (z:Int) (hX:X=z) (h:Qe P G (Cl c) fr s (E9 c i) [.i z]=some (.sc (.int .i64 z),s,[],[.eqi X z])) (t:Hg P G E (Cl c) l (DK fr (E9 c i).dst (.sc (.int .i64 z))) s Q):Hg P G E (Cl c) (i::l) fr s Q :=
 .op hm hk (.sc (.int .i64 z)) (EV hr hi) (It h ⟨hX,trivial⟩) t
theorem WE.mono {c:Code} {Q2:QE} (h:WE P G E c fr s Q2) (hq:∀ e fr' s' E',Q2 e fr' s' E'→Q e fr' s' E'):WE P G E c fr s Q:=fun cx w a K hE hs hf hd hK=>h cx w a K hE hs hf hd (fun e fr s E h2=>hK e fr s E (hq _ _ _ _ h2))
end
end AI
namespace AI
open Go Go.RowKit
section
variable {P:Program} {G:AB}
theorem GL.uH {α:Type} {f:α→List AV} {C:List α→List AV} {k:Nat} (h:GL f C k) {t tx e e2 by':Nat} (hu:P.underlying t=some (.slice e)) (hux:P.underlying tx=some (.slice e2)) (hi:(P.info? e).map (fun i=>(i.size,i.bytes,i.zero.map (·.cells.size)))=some (k,by',some k)) (hk:0 < k)
   (own:Own) (l m:List α) {o:Own} {n:Nat} {ns:List AV} (hn:Wn ns (C m)) (hnn:n=m.length) (ho:ns.all one=true) (hm:m.length≠0) (hlen:(l.length+m.length)*by'≤140737488355328) (h63:l.length+m.length≤9223372036854775807):Cd.ok P G (.XC t tx own l.length (C l) (.sl o n ns) k (l++m).length (C (l++m))):=by
 subst hnn
 cases hq:P.info? e with
 | none=>rw [hq] at hi;cases hi
 | some i =>
   rw [hq] at hi
   simp only [Option.map_some,Option.some.injEq,Prod.mk.injEq] at hi
   obtain ⟨h1,h2,h3⟩:=hi
   cases hz:i.zero with
   | none=>rw [hz] at h3;cases h3
   | some z =>
     rw [hz] at h3
     simp only [Option.map_some,Option.some.injEq] at h3
     intro s hown
     have hnl:ns.length=m.length*k:=by rw [hn.len,h.eq,DF h.len]
     have hll:(C l).length=l.length*k:=by rw [h.eq,DF h.len]
     refine ⟨C l++ns,?_,fun c w u o' hr=>?_⟩
     · have hs:LZ P s i.size tx (.sl o m.length ns)=some (m.length,ns):=by
         unfold LZ
         rw [hux,h1]
         simp only [hnl,if_true]
       unfold Fy
       simp only [hu,hq,hz]
       rw [if_pos ⟨by rw [h3,h1],by omega⟩,hs]
       simp only
       have hbb:(l.length+m.length)*i.bytes≤140737488355328:=by
         rw [h2]
         exact hlen
       rw [if_pos ⟨by rw [hll,h1],ho,hbb,by omega⟩,if_neg hm,h1,if_pos hown,List.length_append]
     · rw [h.LW]
       exact Rp.wY (Wn.LW (Wn.refl (C l)) hn) hr
end
end AI
namespace Go.Proofs.YtkfplcngmiljaaaGreatDoor
open AI Go
namespace Mo
set_option maxRecDepth 100000
set_option maxHeartbeats 4000000
noncomputable def yV:Code:=Bp Tryz.f42
theorem uT:Tryz.f42.body=some yV:=by kernel_rfl
theorem Zv {s:List Pc} (hl:s.length*24≤140737488355328):Pure P G 42 [.sl .lost s.length (rows J4 s)] (.sl .lost s.length (rows J4 s)):=by
 refine pure_nil (fun hn hc=>?_) ?_
 · rw [hn,hc]
   exact D0 Hd.mixed Hd.Ac (AZ Tryz.func42 uT (A5 (v:=.sl .full 0 []) _ _ (Ae 300 [pk]) (by kernel_rfl) .body (.wn (.z .nil) rfl))) rfl rfl
 · by_cases hm:s.length=0
   · obtain rfl:=List.eq_nil_of_length_eq_zero hm
     exact D0 Hd.mixed Hd.Ac (AZ Tryz.func42 uT (A5 (v:=.sl .full 0 []) _ _ (Ae 300 [pk,pga (vJ .full ([]:List Pc) ([]:List Pc) (o:=.nn) ⟨[],0,[],0⟩ rfl (by decide))]) (by kernel_rfl) .body (.wn (.z .nil) rfl))) rfl rfl
   · exact D0 Hd.mixed Hd.Ac (AZ Tryz.func42 uT (A5 (v:=.sl (.row 0 3) s.length (rows J4 s)) _ _ (Ae 300 [pk,lU (F6.uH nF nF i80 (by decide) .full ([]:List Pc) s (o:=.nn) (Wn.refl _) rfl (F6.YB (fun _=>rfl) s) hm (by rw [List.length_nil,Nat.zero_add];exact hl) (by simp;omega))]) (by kernel_rfl) .body (.wn (.s rfl .nil) (F6.DH s)))) (BI (rB (F6.BI s)) rfl) (F6.DH s)
noncomputable def B41:Code:=Bp Tryz.f41
theorem b41:Tryz.f41.body=some B41:=by kernel_rfl
theorem WM {s:List Nd} (hm:¬ s.length=0) (hl:s.length≤100000000):Sound P G (.call 41 [.sl .nn s.length (AW s)] ⟨[],0,[],0⟩ (.ret (.msl 0 0 s.length)) ⟨[(0,.cells (AW s))],1,[],0⟩):=by
 refine SJ Hd.mixed (M6 (m:=1) Tryz.func41 b41 ?_)
 exact P1 (n:=1) (m0:=0) Hd.Ac _ _ [0] [1] [⟨.msl 0 0 s.length,.msl 0 0 s.length,(.under rfl)⟩] [xT (AW s) (Ay.BI s)] _ _ (Ae 300 [pk,uL (rV s (o:=.nn) hm hl)]) (Nat.zero_le _) (Nat.zero_le _) (by kernel_rfl) .body
theorem zV {c:Cx} {w:World} {n:Nat} {cs:List AV} {v:Value} (hm:¬ n=0) (h:Rp c w (.sl .lost n cs) v):Rp c w (.sl .nn n cs) v:=by
 cases h with
 | sl0 _=>exact absurd rfl hm
 | sl1 hn hc _=>exact .sl1 hn hc trivial
theorem XK {s:List Nd} (hm:¬ s.length=0) (hl:s.length≤100000000):Sound P G (.call 41 [.sl .lost s.length (AW s)] ⟨[],0,[],0⟩ (.ret (.msl 0 0 s.length)) ⟨[(0,.cells (AW s))],1,[],0⟩):=by
 intro cx w vs hs ha
 refine WM hm hl cx w vs hs ?_
 cases ha with
 | cons h1 t=>exact .cons (zV hm h1) t
theorem Yr {s:List Nd} (hm:¬ s.length=0) (hl:s.length≤100000000) (nx nr:Nat):Cd.ok P G (.callN 41 [.sl .lost s.length (AW s)] nx nr (.msl (nx+0) 0 s.length) [((nx+0),.cells (AW s))] 1 [] 0) :=
 SC Hd.Ac (XK hm hl) (BI (Ay.DH s) rfl) (.msl (by decide)) (.cons (.cells (.pl (Ay.BI s))) .nil)
end Mo
end Go.Proofs.YtkfplcngmiljaaaGreatDoor
namespace Go.Proofs.YtkfplcngmiljaaaGreatDoor
open AI Go
namespace Mo
set_option maxRecDepth 100000
set_option maxHeartbeats 4000000
noncomputable def C6:Code:=Bp Tryz.f25
theorem zF:Tryz.f25.body=some C6:=by kernel_rfl
theorem uP:P.underlying 75=some (.slice 74):=by kernel_rfl
theorem sE:(P.info? 74).map (·.size)=some 1:=by kernel_rfl
theorem dE:(P.underlying 74).map FV=some false:=by kernel_rfl
theorem sL:(P.info? 25).map (·.size)=some 1:=by kernel_rfl
theorem dL:(P.underlying 25).map FV=some false:=by kernel_rfl
theorem sQ:(P.info? 22).map (·.size)=some 1:=by kernel_rfl
theorem dQ:(P.underlying 22).map FV=some false:=by kernel_rfl
theorem sI:(P.info? 3).map (·.size)=some 1:=by kernel_rfl
def zN (n:Nd):Nd:=⟨n.kind,n.name,n.unit,n.n,n.fr,n.to,n.known,n.tab,n.kids,0⟩
def EF (L:List Nd) (i:Nat):List Nd:=(L.take i).map zN++L.drop i
theorem XI (L:List Nd):EF L 0=L:=by simp [EF]
theorem Zt (L:List Nd):EF L L.length=L.map zN:=by simp [EF]
theorem S8 (L:List Nd) (i:Nat) (h:i≤L.length):(EF L i).length=L.length:=by simp [EF];omega
theorem aW {L:List Nd} {i:Nat} {x:Nd} (h:L[i]?=some x):(EF L i)[i]?=some x:=by
 have hl:=(List.getElem?_eq_some_iff.1 h).1
 unfold EF
 rw [List.getElem?_append_right (by simp;omega),List.getElem?_drop]
 simp only [List.length_map,List.length_take]
 rw [show min i L.length=i by omega,Nat.sub_self,Nat.add_zero]
 exact h
theorem Rf {L:List Nd} {i:Nat} {x:Nd} (h:L[i]?=some x):(EF L i).set i (zN x)=EF L (i+1):=by
 obtain ⟨hl,hx⟩:=List.getElem?_eq_some_iff.1 h
 unfold EF
 have e1:L.drop i=x::L.drop (i+1):=by rw [← hx];exact List.drop_eq_getElem_cons hl
 have e2:L.take (i+1)=L.take i++[x]:=by rw [← hx];exact (List.take_append_getElem hl).symm
 rw [e1,e2,List.set_append_right _ _ (by simp;omega),List.map_append,List.append_assoc]
 simp only [List.length_map,List.length_take]
 rw [show i - min i L.length=0 by omega]
 rfl
theorem Rl {α:Type} {l:List α} {i:Nat} {x:α} (h:l[i]?=some x):l.set i x=l:=by
 obtain ⟨hl,hx⟩:=List.getElem?_eq_some_iff.1 h
 rw [← hx];exact List.set_getElem_self hl
def VD (nx:Nat) (L:List Nd) (i:Nat):List (Nat×Nat):=match L[i]? with
 | some k=>(match k.kids with
   | []=>[]
   | _::_=>[(nx,0+i*11+9)])
 | none=>[]
def kP (nx:Nat) (L:List Nd) (i:Nat):List (Nat×Nat):=(List.range i).flatMap (VD nx L)
theorem L7 (nx:Nat) (L:List Nd) (i:Nat):kP nx L (i+1)=kP nx L i++VD nx L i:=by unfold kP;rw [List.range_succ,List.flatMap_append];simp
theorem Yv (nx:Nat) (L:List Nd) (i:Nat):(VD nx L i).length≤1:=by
 unfold VD
 split
 · split<;>simp
 · simp
theorem eN (nx:Nat) (L:List Nd):∀ i:Nat,(kP nx L i).length≤i
 | 0=>by simp [kP]
 | i+1=>by rw [L7,List.length_append];have:=eN nx L i;have:=Yv nx L i;omega
abbrev FO (g k cap:Nat) (j:List Value):List AV:=fr 72 [(2,.ptr 1 0),(3,.ptr 2 0),(4,.raw (some ⟨g,0,none⟩) k cap)] [13,36,61] j
abbrev FT (g k cap id off:Nat) (j:List Value):List AV:=fr 72 [(2,.ptr 1 0),(3,.ptr 2 0),(4,.raw (some ⟨g,0,none⟩) k cap),(5,.ptr id off)] [13,36,61] j
abbrev FI (g k cap id off n i:Nat) (j:List Value):List AV:=fr 72 [(2,.ptr 1 0),(3,.ptr 2 0),(4,.raw (some ⟨g,0,none⟩) k cap),(5,.ptr id off),(34,.sc (.int .i64 n)),(35,.sc (.int .i64 i))] [13,36,61] j
abbrev FL (g k cap id off n i:Nat) (j:List Value):List AV:=fr 72 [(2,.ptr 1 0),(3,.ptr 2 0),(4,.raw (some ⟨g,0,none⟩) k cap),(5,.ptr id off),(6,.sc (.int .i64 i)),(34,.sc (.int .i64 n)),(35,.sc (.int .i64 i))] [13,36,61] j
abbrev FK (g k cap id off n i nx:Nat) (j:List Value):List AV:=fr 72 [(2,.ptr 1 0),(3,.ptr 2 0),(4,.raw (some ⟨g,0,none⟩) k cap),(5,.ptr id off),(7,.ptr nx (0+i*11)),(34,.sc (.int .i64 n)),(35,.sc (.int .i64 i))] [13,36,61] j
section
variable {b:Nat} {B:Nat→Nat→Prop} {w0:World} {g cap:Nat} {ps:List (Nat×Nat)} {s:AS} {Q:QE} {j:List Value}
theorem uO {k:Nat} (h:k≠0):Fx 0 ((k:Nat):Int)=true:=V8 (by omega)
theorem Wy (t:Bool) (k:Nat) (hB:Fx 0 ((k:Nat):Int)=t) (h:∀ f,AE G f (.tmp 13)=some (.sc (.bool t))→eZ f (FO g k cap (js 3 j [(0,.bool t)]))=FO g k cap (js 3 j [(0,.bool t)])→Q .normal f s (BT b B w0 g cap ps)):WE P G (BT b B w0 g cap ps) (sb C6 480) (FO g k cap j) s Q:=by
 have hr:IH (sb C6 480) 3=true:=by kernel_rfl
 refine .rG hr ?_
 show Hg P G _ _ [0,1,2] _ _ _
 refine .q Hd.mixed BT.CY hr (by decide) (.raw (some ⟨g,0,none⟩) k cap) (by kernel_rfl) (by kernel_rfl) ?_
 refine .len hr (by decide) (x:=.tmp 11) (t:=75) (A:=some ⟨g,0,none⟩) (k:=k) (cap:=cap) (by kernel_rfl) uP (by kernel_rfl) ?_
 refine .hb Hd.mixed BT.CY hr (by decide) t hB (by kernel_rfl) ?_
 exact .nil (h _ (by kernel_rfl) (by kernel_rfl))
theorem rU {p:Nat×Nat} (hk:ps.length≤100000000) (h:WE P G (BT b B w0 g cap ps) (sb C6 1931) (FT g ps.length cap p.1 p.2 j) s Q):WE P G (BT b B w0 g cap (ps++[p])) (sb C6 482) (FO g (ps++[p]).length cap j) s Q:=by
 have hw:SM (((ps++[p]).length:Nat):Int) 1=((ps.length:Nat):Int):=by
   rw [List.length_append,List.length_singleton,Mp (by omega)];omega
 refine .Jr (x:=sb C6 964) (y:=sb C6 965) (by kernel_rfl) ?_
 have hr:IH (sb C6 964) 7=true:=by kernel_rfl
 refine .rG hr ?_
 show Hg P G _ _ [0,1,2,3,4,5,6] _ _ _
 refine .q Hd.mixed BT.CY hr (by decide) (.raw (some ⟨g,0,none⟩) (ps++[p]).length cap) (by kernel_rfl) (by kernel_rfl) ?_
 refine .q Hd.mixed BT.CY hr (by decide) (.raw (some ⟨g,0,none⟩) (ps++[p]).length cap) (by kernel_rfl) (by kernel_rfl) ?_
 refine .len hr (by decide) (x:=.tmp 15) (t:=75) (A:=some ⟨g,0,none⟩) (k:=(ps++[p]).length) (cap:=cap) (by kernel_rfl) uP (by kernel_rfl) ?_
 refine .hi Hd.mixed BT.CY hr (by decide) ((ps.length:Nat):Int) hw (by kernel_rfl) ?_
 refine .top hr (by decide) (t:=75) (t2:=74) (e:=74) (d:=18) (x:=.tmp 14) (y:=.tmp 17) (by kernel_rfl) (by kernel_rfl) (by kernel_rfl) uP sE dE sE (by kernel_rfl) (by kernel_rfl) (by kernel_rfl) ?_
 refine .q Hd.mixed BT.CY hr (by decide) (.ptr p.1 p.2) (by kernel_rfl) (by kernel_rfl) ?_
 refine .nil ⟨rfl,?_⟩
 refine .wk (fr2:=FT g (ps++[p]).length cap p.1 p.2 j) (by kernel_rfl) ?_
 refine .Jr (x:=sb C6 1930) (y:=sb C6 1931) (by kernel_rfl) ?_
 have hr:IH (sb C6 1930) 6=true:=by kernel_rfl
 refine .rG hr ?_
 show Hg P G _ _ [0,1,2,3,4,5] _ _ _
 refine .q Hd.mixed BT.CY hr (by decide) (.raw (some ⟨g,0,none⟩) (ps++[p]).length cap) (by kernel_rfl) (by kernel_rfl) ?_
 refine .q Hd.mixed BT.CY hr (by decide) (.raw (some ⟨g,0,none⟩) (ps++[p]).length cap) (by kernel_rfl) (by kernel_rfl) ?_
 refine .len hr (by decide) (x:=.tmp 21) (t:=75) (A:=some ⟨g,0,none⟩) (k:=(ps++[p]).length) (cap:=cap) (by kernel_rfl) uP (by kernel_rfl) ?_
 refine .hi Hd.mixed BT.CY hr (by decide) ((ps.length:Nat):Int) hw (by kernel_rfl) ?_
 refine .tS hr (by decide) (t:=75) (e:=74) (x:=.tmp 20) (y:=.tmp 23) (by kernel_rfl) uP sE (by kernel_rfl) (by kernel_rfl) ?_
 refine .q Hd.mixed BT.CY hr (by decide) (.raw (some ⟨g,0,none⟩) ps.length cap) (by kernel_rfl) (by kernel_rfl) ?_
 refine .nil ⟨rfl,?_⟩
 exact .wk (by kernel_rfl) h
variable {id off nx:Nat} {L:List Nd}
theorem YT {H:List (Nat×Ap)} {cs:List AV} (hid:id < nx) (hlk:AI.look id H=some (.cells cs)) (hcs:cs[off]?=some (.sl .lost L.length (AW L))) (hL:¬ L.length=0) (hl:L.length≤100000000)
   (h:WE P G (BT b B w0 g cap ps) (sb C6 7727) (FI g ps.length cap id off L.length 0 j) ⟨(nx,.cells (AW L))::Ix id (.cells (cs.set off (.msl nx 0 L.length))) H,nx+1,[],0⟩ Q) :
   WE P G (BT b B w0 g cap ps) (sb C6 1931) (FT g ps.length cap id off j) ⟨H,nx,[],0⟩ Q:=by
 have hne:nx≠id:=by omega
 have hlt:=(List.getElem?_eq_some_iff.1 hcs).1
 have hcs2:(cs.set off (.msl nx 0 L.length))[off]?=some (.msl nx 0 L.length):=List.getElem?_set_self hlt
 refine .Jr (x:=sb C6 3862) (y:=sb C6 3863) (by kernel_rfl) ?_
 refine .run Hd.mixed BT.CY [SE (x:=AI.look id H) (OQ dL sL hcs) hlk,Nb (Yr hL hl nx 0),aJ (x:=AI.look id ((nx,.cells (AW L))::H)) (v:=.msl nx 0 L.length) (off:=off) (XD (cs2:=cs.set off (.msl nx 0 L.length)) sL hlt rfl) ((Pe hne).trans hlk)] (e:=.normal) (fr2:=FT g ps.length cap id off j) (s2:=⟨Ix id (.cells (cs.set off (.msl nx 0 L.length))) ((nx,.cells (AW L))::H),nx+1,[],0⟩) (by kernel_rfl) (by intro v h;cases h) ⟨rfl,?_⟩
 rw [jW hne]
 refine .Jr (x:=sb C6 7726) (y:=sb C6 7727) (by kernel_rfl) ?_
 exact .RW Hd.mixed BT.CY [SE (x:=AI.look id ((nx,.cells (AW L))::Ix id (.cells (cs.set off (.msl nx 0 L.length))) H)) (OQ dL sL hcs2) ((Pe hne).trans (Nz hlk))] (e:=.normal) (fr2:=FI g ps.length cap id off L.length 0 j) (by kernel_rfl) (by intro v h;cases h) ⟨rfl,h⟩
theorem iQ {i n:Nat} {s:AS} (hk:ps.length+1≤100000000):WE P G (BT b B w0 g cap ps) (sb C6 31650622) (FK g ps.length cap id off n i nx j) s (fun e f s' E=>∃ g' cap',e=.normal∧eZ f (FK g' (ps++[(nx,0+i*11+9)]).length cap' id off n i nx j)=FK g' (ps++[(nx,0+i*11+9)]).length cap' id off n i nx j∧s'=s∧E=BT b B w0 g' cap' (ps++[(nx,0+i*11+9)])):=by
 have hr:IH (sb C6 31650622) 7=true:=by kernel_rfl
 refine .rG hr ?_
 show Hg P G _ _ [0,1,2,3,4,5,6] _ _ _
 refine .q Hd.mixed BT.CY hr (by decide) (.raw (some ⟨g,0,none⟩) ps.length cap) (by kernel_rfl) (by kernel_rfl) ?_
 refine .q Hd.mixed BT.CY hr (by decide) (.ptr nx (0+i*11)) (by kernel_rfl) (by kernel_rfl) ?_
 refine .q Hd.mixed BT.CY hr (by decide) (.ptr nx (0+i*11)) (by kernel_rfl) (by kernel_rfl) ?_
 refine .q Hd.mixed BT.CY hr (by decide) (.ptr nx (0+i*11+9)) (by kernel_rfl) (by kernel_rfl) ?_
 refine .q Hd.mixed BT.CY hr (by decide) (.sl .full 1 [.ptr nx (0+i*11+9)]) (by kernel_rfl) (by kernel_rfl) ?_
 refine .push hr (by decide) (t:=75) (tx:=75) (e:=74) (e2:=74) (id:=nx) (off:=0+i*11+9) (x:=.tmp 62) (y:=.tmp 66) (by kernel_rfl) uP uP (by kernel_rfl) (by kernel_rfl) (by kernel_rfl) hk (fun g' cap'=>?_)
 refine .q Hd.mixed BT.CY hr (by decide) (.raw (some ⟨g',0,none⟩) (ps++[(nx,0+i*11+9)]).length cap') (by kernel_rfl) (by kernel_rfl) ?_
 exact .nil ⟨g',cap',rfl,by kernel_rfl,rfl,rfl⟩
theorem VU {T:List (Nat×Ap)} {cs:List AV} {i:Nat} {x:Nd} (hid:id < nx) (hlk:AI.look id T=some (.cells cs)) (hcs:cs[off]?=some (.msl nx 0 L.length)) (hx:L[i]?=some x) (hp:x.tab.ps.length*24≤140737488355328) (t:Bool) (hB:Fx 0 ((x.kids.length:Nat):Int)=t)
   (h:WE P G (BT b B w0 g cap ps) (sb C6 15825311) (FK g ps.length cap id off L.length i nx (js 3 j [(2,.bool t)])) ⟨(nx,.cells (AW (EF L (i+1))))::T,nx+1,[],0⟩ Q) :
   WE P G (BT b B w0 g cap ps) (sb C6 494540) (FI g ps.length cap id off L.length i j) ⟨(nx,.cells (AW (EF L i)))::T,nx+1,[],0⟩ Q:=by
 have hi:=(List.getElem?_eq_some_iff.1 hx).1
 have hne:nx≠id:=by omega
 have hlk2:∀ b:Ap,AI.look id ((nx,b)::T)=some (.cells cs):=fun b=>(Pe hne).trans hlk
 have hm:=aW hx
 have hl:=S8 L i (by omega)
 have hm2:(EF L (i+1))[i]?=some (zN x):=by rw [← Rf hx];exact List.getElem?_set_self (by omega)
 have hl2:=S8 L (i+1) (by omega)
 have hN:∀ y:Nd,(BP y).length=11:=fun _=>rfl
 refine .Jr (x:=sb C6 989080) (y:=sb C6 989081) (by kernel_rfl) ?_
 refine .RW Hd.mixed BT.CY [] (e:=.normal) (fr2:=FL g ps.length cap id off L.length i j) (by kernel_rfl) (by intro v h;cases h) ⟨rfl,?_⟩
 refine .Jr (x:=sb C6 1978162) (y:=sb C6 1978163) (by kernel_rfl) ?_
 refine .RW Hd.mixed BT.CY [SE (x:=AI.look id ((nx,.cells (AW (EF L i)))::T)) (OQ dL sL hcs) (hlk2 _),Em (eQ (id:=nx) hi)] (e:=.normal) (fr2:=FK g ps.length cap id off L.length i nx j) (by kernel_rfl) (by intro v h;cases h) ⟨rfl,?_⟩
 refine .Jr (x:=sb C6 3956326) (y:=sb C6 3956327) (by kernel_rfl) ?_
 refine .run Hd.mixed BT.CY [aJ (x:=AI.look nx ((nx,.cells (AW (EF L i)))::T)) (v:=.sc (.int .i64 0)) (off:=0+i*11+10) (XD (cs2:=AW ((EF L i).set i (zN x))) sI (by rw [ER,DF hN,hl];omega) (by rw [ER,ER,Q9 hN (j:=10) (y:=zN x) (v:=.sc (.int .i64 0)) hm (by decide) rfl,Nat.zero_add])) Ma] (e:=.normal) (fr2:=FK g ps.length cap id off L.length i nx j) (s2:=⟨Ix nx (.cells (AW ((EF L i).set i (zN x)))) ((nx,.cells (AW (EF L i)))::T),nx+1,[],0⟩) (by kernel_rfl) (by intro v h;cases h) ⟨rfl,?_⟩
 rw [X9,Rf hx]
 have c8:(AW (EF L (i+1)))[0+i*11+7+1]?=some (.sl .lost x.tab.ps.length (rows J4 x.tab.ps)):=by
   rw [ER,show 0+i*11+7+1=i*11+8 by omega,Mr hN hm2 (by decide)];rfl
 have c9:(AW (EF L (i+1)))[0+i*11+9]?=some (.sl .lost x.kids.length (AW x.kids)):=by
   rw [ER,Nat.zero_add,Mr hN hm2 (by decide)];rfl
 refine .Jr (x:=sb C6 7912654) (y:=sb C6 7912655) (by kernel_rfl) ?_
 refine .run Hd.mixed BT.CY [SE (x:=AI.look nx ((nx,.cells (AW (EF L (i+1))))::T)) (OQ dQ sQ c8) Ma,Bk (Zv hp),aJ (x:=AI.look nx ((nx,.cells (AW (EF L (i+1))))::T)) (off:=0+i*11+7+1) (XD (cs2:=AW (EF L (i+1))) sQ (by rw [ER,DF hN,hl2];omega) (Rl c8).symm) Ma] (e:=.normal) (fr2:=FK g ps.length cap id off L.length i nx j) (s2:=⟨Ix nx (.cells (AW (EF L (i+1)))) ((nx,.cells (AW (EF L (i+1))))::T),nx+1,[],0⟩) (by kernel_rfl) (by intro v h;cases h) ⟨rfl,?_⟩
 rw [X9]
 refine .Jr (x:=sb C6 15825310) (y:=sb C6 15825311) (by kernel_rfl) ?_
 exact .RW Hd.mixed BT.CY [SE (x:=AI.look nx ((nx,.cells (AW (EF L (i+1))))::T)) (OQ dL sL c9) Ma,pb hB] (e:=.normal) (fr2:=FK g ps.length cap id off L.length i nx (js 3 j [(2,.bool t)])) (by kernel_rfl) (by intro v h;cases h) ⟨rfl,h⟩
theorem cU {i:Nat} {x:Nd} (hx:L[i]?=some x) (hk:x.kids=[]):VD nx L i=[]:=by unfold VD;rw [hx];simp only;rw [hk]
theorem Y9 {i:Nat} {x:Nd} (hx:L[i]?=some x) (hk:x.kids≠[]):VD nx L i=[(nx,0+i*11+9)]:=by
 unfold VD
 rw [hx]
 simp only
 cases h:x.kids with
 | nil=>exact absurd h hk
 | cons a l=>rfl
theorem Zs {T:List (Nat×Ap)} {cs:List AV} {i:Nat} {x:Nd} (hid:id < nx) (hlk:AI.look id T=some (.cells cs)) (hcs:cs[off]?=some (.msl nx 0 L.length)) (hx:L[i]?=some x) (hp:x.tab.ps.length*24≤140737488355328) (hb:(ps++kP nx L i).length+1≤100000000) (hi6:i < 9223372036854775807)
   (h:∀ g' cap' j',Q .normal (FI g' (ps++kP nx L (i+1)).length cap' id off L.length (i+1) j') ⟨(nx,.cells (AW (EF L (i+1))))::T,nx+1,[],0⟩ (BT b B w0 g' cap' (ps++kP nx L (i+1)))) :
   WE P G (BT b B w0 g cap (ps++kP nx L i)) (sb C6 123635) (FI g (ps++kP nx L i).length cap id off L.length i j) ⟨(nx,.cells (AW (EF L i)))::T,nx+1,[],0⟩ Q:=by
 have fin:∀ g' cap' j',WE P G (BT b B w0 g' cap' (ps++kP nx L (i+1))) (sb C6 247271) (FK g' (ps++kP nx L (i+1)).length cap' id off L.length i nx j') ⟨(nx,.cells (AW (EF L (i+1))))::T,nx+1,[],0⟩ Q:=fun g' cap' j' =>
   .RW Hd.mixed BT.CY [AI.pi hi6] (e:=.normal) (fr2:=FI g' (ps++kP nx L (i+1)).length cap' id off L.length (i+1) j') (by kernel_rfl) (by intro v h;cases h) (h g' cap' j')
 refine .Jr (x:=sb C6 247270) (y:=sb C6 247271) (by kernel_rfl) ?_
 have hc:sb C6 247270=.block 3 (sb C6 494540):=by kernel_rfl
 rw [hc]
 refine .block ?_
 by_cases hk:x.kids=[]
 · have hs:kP nx L (i+1)=kP nx L i:=by rw [L7,cU hx hk,List.append_nil]
   refine VU hid hlk hcs hx hp false (cZ (by rw [hk];simp)) ?_
   refine .Oi false (x:=sb C6 31650622) (y:=sb C6 31650623) (q:=.tmp 61) (by kernel_rfl) (by kernel_rfl) ?_
   rw [if_neg (by decide),show sb C6 31650623=.skip by kernel_rfl]
   refine .skip ⟨rfl,?_⟩
   have:=fin g cap (js 3 j [(2,.bool false)])
   rwa [hs] at this
 · have hs:kP nx L (i+1)=kP nx L i++[(nx,0+i*11+9)]:=by rw [L7,Y9 hx hk]
   refine VU hid hlk hcs hx hp true (V8 (by have:=List.length_pos_iff.2 hk;omega)) ?_
   refine .Oi true (x:=sb C6 31650622) (y:=sb C6 31650623) (q:=.tmp 61) (by kernel_rfl) (by kernel_rfl) ?_
   rw [if_pos rfl]
   refine (iQ hb).mono ?_
   rintro e f s' E ⟨g',cap',rfl,hf,rfl,rfl⟩
   refine ⟨rfl,.wk hf ?_⟩
   have:=fin g' cap' (js 3 j [(2,.bool true)])
   rwa [hs,← List.append_assoc] at this
theorem j9 {T:List (Nat×Ap)} {cs:List AV} (hid:id < nx) (hlk:AI.look id T=some (.cells cs)) (hcs:cs[off]?=some (.msl nx 0 L.length)) (hp:∀ x∈L,x.tab.ps.length*24≤140737488355328) (hb:ps.length+L.length≤100000000)
   (h:∀ g' cap' j',Q .normal (FO g' (ps++kP nx L L.length).length cap' j') ⟨(nx,.cells (AW (L.map zN)))::T,nx+1,[],0⟩ (BT b B w0 g' cap' (ps++kP nx L L.length))) :
   WE P G (BT b B w0 g cap ps) (sb C6 7727) (FI g ps.length cap id off L.length 0 j) ⟨(nx,.cells (AW L))::T,nx+1,[],0⟩ Q:=by
 rw [show sb C6 7727=.block 2 (.loop (sb C6 30908)) by kernel_rfl]
 refine .block ?_
 refine .loop (fun m f s E=>∃ i g cap j,i+m=L.length∧f=FI g (ps++kP nx L i).length cap id off L.length i j∧s=⟨(nx,.cells (AW (EF L i)))::T,nx+1,[],0⟩∧E=BT b B w0 g cap (ps++kP nx L i)) ?_ (m:=L.length) ⟨0,g,cap,j,by omega,by simp [kP],by rw [XI],by simp [kP]⟩
 rintro m _ _ _ ⟨i,g,cap,j,him,rfl,rfl,rfl⟩
 refine .Xz (x:=sb C6 61816) (y:=sb C6 61817) (by kernel_rfl) ?_
 by_cases hi:i < L.length
 · refine .RW Hd.mixed BT.CY [pb (Jb hi)] (e:=.normal) (fr2:=FI g (ps++kP nx L i).length cap id off L.length i (js 3 j [(1,.bool true)])) (by kernel_rfl) (by intro v h;cases h) (.inl ⟨rfl,?_⟩)
   refine .Jr (x:=sb C6 123634) (y:=sb C6 123635) (by kernel_rfl) ?_
   refine .Oi true (x:=sb C6 247268) (y:=sb C6 247269) (q:=.tmp 36) (by kernel_rfl) (by kernel_rfl) ?_
   rw [if_pos rfl,show sb C6 247268=.skip by kernel_rfl]
   refine .skip ⟨rfl,?_⟩
   have hx:L[i]?=some L[i]:=List.getElem?_eq_getElem hi
   refine Zs hid hlk hcs hx (hp _ (List.getElem_mem hi)) (by rw [List.length_append];have:=eN nx L i;omega) (by omega) (fun g' cap' j'=>.inl ⟨rfl,m - 1,by omega,i+1,g',cap',j',by omega,rfl,rfl,rfl⟩)
 · have he:i=L.length:=by omega
   subst he
   refine .RW Hd.mixed BT.CY [pb (Mj (i:=L.length) (n:=L.length) (Nat.le_refl _))] (e:=.normal) (fr2:=FI g (ps++kP nx L L.length).length cap id off L.length L.length (js 3 j [(1,.bool false)])) (by kernel_rfl) (by intro v h;cases h) (.inl ⟨rfl,?_⟩)
   refine .Xz (x:=sb C6 123634) (y:=sb C6 123635) (by kernel_rfl) ?_
   refine .Oi false (x:=sb C6 247268) (y:=sb C6 247269) (q:=.tmp 36) (by kernel_rfl) (by kernel_rfl) ?_
   rw [if_neg (by decide),show sb C6 247269=.exit 2 by kernel_rfl]
   refine .wk (fr2:=FO g (ps++kP nx L L.length).length cap (js 3 j [(1,.bool false)])) (by kernel_rfl) (.exit (.inr ⟨(by intro h;cases h),.inr ⟨(by intro h;cases h),?_⟩⟩))
   rw [Zt]
   exact h g cap _
end
abbrev Bx:=List (Nd×Option Nat)
def xP (n:Nd):Option Nat→AV
 | none=>.sl .lost n.kids.length (AW n.kids)
 | some id=>.msl id 0 n.kids.length
def Rm (p:Nd×Option Nat):List AV:=[.sc (.int .i64 p.1.kind),.sc (.string p.1.name),.sc (.string p.1.unit),.sc (.int .i64 p.1.n),.sc (.int .i64 p.1.fr),.sc (.int .i64 p.1.to),.sc (.int .i64 p.1.known),.sc (.int .i64 p.1.tab.den),.sl .lost p.1.tab.ps.length (rows J4 p.1.tab.ps),xP p.1 p.2,.sc (.int .i64 p.1.att)]
def Y3 (l:Bx):List AV:=rows Rm l
theorem L8 (p:Nd×Option Nat):(Rm p).length=11:=rfl
theorem RB (L:List Nd):Y3 (L.map fun n=>(n,none))=AW L:=by
 rw [ER]
 unfold Y3 rows
 rw [List.flatMap_map]
 rfl
def a1:Ap:=.cells [.sc (.int .i64 0),.sc (.string ByteArray.empty),.sc (.string ByteArray.empty),.sc (.int .i64 0),.sc (.int .i64 0),.sc (.int .i64 0),.sc (.int .i64 0),.sc (.int .i64 0),.sl .full 0 [],.sl .full 0 [],.sc (.int .i64 0)]
def sX (n0:Nd):Option Nat→AV
 | none=>.sl .lost [n0].length (AW [n0])
 | some c=>.msl c 0 [n0].length
def pP (rk:Option Nat) (n0:Nd):List (Nat×Ap):=[(2,.cells [sX n0 rk]),(1,a1),(0,.cells (BP n0))]
def HH (rk:Option Nat) (n0:Nd) (M:List Bx):List (Nat×Ap):=DE (M.map fun l=>.cells (Y3 l)) 3 (pP rk n0)
theorem Te {rk:Option Nat} {n0:Nd} {M:List Bx} {id:Nat} (h:id < 3):AI.look id (HH rk n0 M)=AI.look id (pP rk n0):=JE h
theorem Yj {rk:Option Nat} {n0:Nd} {M:List Bx} {i:Nat} {l:Bx} (h:M[i]?=some l):AI.look (3+i) (HH rk n0 M)=some (.cells (Y3 l)):=NY (by rw [List.getElem?_map,h];rfl)
theorem b5 {rk:Option Nat} {n0:Nd} {M:List Bx} (c:Nat):Ix 2 (.cells [sX n0 (some c)]) (HH rk n0 M)=HH (some c) n0 M:=J8 (by decide)
theorem jN {rk:Option Nat} {n0:Nd} {M:List Bx} {i:Nat} {l:Bx} (hi:i < M.length):Ix (3+i) (.cells (Y3 l)) (HH rk n0 M)=HH rk n0 (M.set i l):=by
 unfold HH
 rw [PH (by simpa using hi),List.map_set]
theorem Ti {rk:Option Nat} {n0:Nd} {M:List Bx} {l:Bx}:HH rk n0 (M++[l])=(3+M.length,.cells (Y3 l))::HH rk n0 M:=by
 unfold HH
 rw [List.map_append,List.map_singleton,R7,List.length_map]
mutual
def cN:Nd→Nat
 | ⟨_,_,_,_,_,_,_,_,kids,_⟩=>1+cL kids
def cL:List Nd→Nat
 | []=>0
 | k::ks=>cN k+cL ks
end
theorem VI (n:Nd):cN n=1+cL n.kids:=by cases n;rw [cN]
theorem WU:∀ l m:List Nd,cL (l++m)=cL l+cL m
 | [],m=>by simp [cL]
 | a::l,m=>by rw [List.cons_append,cL,cL,WU l m];omega
theorem YF:∀ l:List Nd,l.length≤cL l
 | []=>by simp
 | a::l=>by rw [List.length_cons,cL,VI];have:=YF l;omega
mutual
def RF:Nd→Prop
 | ⟨_,_,_,_,_,_,_,tab,kids,_⟩=>tab.ps.length*24≤140737488355328∧pM kids
def pM:List Nd→Prop
 | []=>True
 | k::ks=>RF k∧pM ks
end
theorem Ug:∀ l:List Nd,pM l↔∀ k∈l,RF k
 | []=>by simp [pM]
 | a::l=>by rw [pM,Ug l];simp
theorem Pl (n:Nd):RF n↔n.tab.ps.length*24≤140737488355328∧∀ k∈n.kids,RF k:=by cases n;rw [RF,Ug]
mutual
def Ci:Nd→Nd
 | ⟨kind,name,unit,n,fr,to,known,tab,kids,_⟩=>⟨kind,name,unit,n,fr,to,known,tab,rD kids,0⟩
def rD:List Nd→List Nd
 | []=>[]
 | k::ks=>Ci k::rD ks
end
theorem To:∀ l:List Nd,rD l=l.map Ci
 | []=>by rw [rD];rfl
 | k::l=>by rw [rD,To l];rfl
theorem E4 (n:Nd):Ci n=⟨n.kind,n.name,n.unit,n.n,n.fr,n.to,n.known,n.tab,n.kids.map Ci,0⟩:=by cases n;rw [Ci,To]
theorem XO (n:Nd):Ci (zN n)=Ci n:=by rw [E4,E4];rfl
structure Inv (n0:Nd) (rk:Option Nat) (M:List Bx) (qs:List ((Nat×Nat)×List Nd)):Prop where
 pend:∀ q∈qs,(q.1=(2,0)∧rk=none∧q.2=[n0])∨∃ (i a:Nat) (l:Bx) (m:Nd),q.1=(3+i,0+a*11+9)∧M[i]?=some l∧l[a]?=some (m,none)∧q.2=m.kids∧m.kids≠[]
 dist:(qs.map (·.1)).Nodup
 all:(rk=none→(2,0)∈qs.map (·.1))∧∀ (i a:Nat) (l:Bx) (m:Nd),M[i]?=some l→l[a]?=some (m,none)→m.kids≠[]→(3+i,0+a*11+9)∈qs.map (·.1)
 done:∀ (i a:Nat) (l:Bx) (m:Nd) (c:Nat),M[i]?=some l→l[a]?=some (m,some c)→∃ (i2:Nat) (l2:Bx),c=3+i2∧i < i2∧M[i2]?=some l2∧l2.map (·.1)=m.kids.map zN
 root:∀ c,rk=some c→∃ (i2:Nat) (l2:Bx),c=3+i2∧M[i2]?=some l2∧l2.map (·.1)=[zN n0]
 small:∀ q∈qs,∀ x∈q.2,RF x
 zero:∀ (i a:Nat) (l:Bx) (m:Nd) (c:Option Nat),M[i]?=some l→l[a]?=some (m,c)→m.att=0
def mu (qs:List ((Nat×Nat)×List Nd)):Nat:=(qs.map fun q=>1+cL q.2).sum
theorem PZ (l m:List ((Nat×Nat)×List Nd)):mu (l++m)=mu l+mu m:=by simp [mu]
theorem Xi (qs:List ((Nat×Nat)×List Nd)):qs.length≤mu qs:=by
 induction qs with
 | nil=>simp
 | cons q qs ih =>
   have:mu (q::qs)=1+cL q.2+mu qs:=by simp [mu]
   rw [this,List.length_cons];omega
def YO (nx:Nat) (L:List Nd) (i:Nat):List ((Nat×Nat)×List Nd):=match L[i]? with
 | some k=>(match k.kids with
   | []=>[]
   | x::y=>[((nx,0+i*11+9),x::y)])
 | none=>[]
def kQ (nx:Nat) (L:List Nd) (i:Nat):List ((Nat×Nat)×List Nd):=(List.range i).flatMap (YO nx L)
theorem Pp (nx:Nat) (L:List Nd) (i:Nat):kQ nx L (i+1)=kQ nx L i++YO nx L i:=by unfold kQ;rw [List.range_succ,List.flatMap_append];simp
theorem PN (nx:Nat) (L:List Nd) (i:Nat):(YO nx L i).map (·.1)=VD nx L i:=by
 unfold YO VD
 cases L[i]? with
 | none=>rfl
 | some k=>simp only;cases k.kids<;>rfl
theorem S6 (nx:Nat) (L:List Nd):∀ i:Nat,(kQ nx L i).map (·.1)=kP nx L i
 | 0=>rfl
 | i+1=>by rw [Pp,L7,List.map_append,S6 nx L i,PN]
theorem NS {nx:Nat} {L:List Nd} {i:Nat} {q:(Nat×Nat)×List Nd}:q∈kQ nx L i↔∃ a k,a < i∧L[a]?=some k∧k.kids≠[]∧q=((nx,0+a*11+9),k.kids):=by
 unfold kQ
 simp only [List.mem_flatMap,List.mem_range]
 constructor
 · rintro ⟨a,ha,hq⟩
   unfold YO at hq
   split at hq
   · rename_i k hk
     split at hq
     · cases hq
     · rename_i x y hy
       rw [List.mem_singleton] at hq
       exact ⟨a,k,ha,hk,by rw [hy];simp,by rw [hq,hy]⟩
   · cases hq
 · rintro ⟨a,k,ha,hk,hne,rfl⟩
   refine ⟨a,ha,?_⟩
   unfold YO
   rw [hk]
   simp only
   cases hy:k.kids with
   | nil=>exact absurd hy hne
   | cons x y=>simp
theorem eD (nx:Nat) (L:List Nd):∀ i:Nat,mu (kQ nx L i)≤cL (L.take i)
 | 0=>by simp [kQ,mu]
 | i+1=>by
   rw [Pp,PZ]
   have ih:=eD nx L i
   by_cases hi:i < L.length
   · rw [← List.take_append_getElem hi,WU]
     have:mu (YO nx L i)≤cL [L[i]]:=by
       unfold YO
       rw [List.getElem?_eq_getElem hi]
       simp only [cL,Nat.add_zero]
       rw [VI]
       cases hk:L[i].kids with
       | nil=>simp [mu]
       | cons x y=>simp [mu]
     omega
   · have:YO nx L i=[]:=by unfold YO;rw [List.getElem?_eq_none (by omega)]
     rw [this,List.take_of_length_le (by omega)]
     rw [List.take_of_length_le (by omega)] at ih
     simp [mu] at ih ⊢
     exact ih
theorem QT (nx:Nat) (L:List Nd):∀ i:Nat,((kQ nx L i).map (·.1)).Nodup
 | 0=>by simp [kQ]
 | i+1=>by
   rw [Pp,List.map_append]
   refine List.nodup_append.2 ⟨QT nx L i,?_,?_⟩
   · rw [PN]
     have:=Yv nx L i
     cases h:VD nx L i with
     | nil=>simp
     | cons a l=>rw [h] at this;simp at this;subst this;simp
   · intro x hx y hy hxy
     subst hxy
     obtain ⟨q,hq,rfl⟩:=List.mem_map.1 hx
     obtain ⟨a,k,ha,_,_,rfl⟩:=NS.1 hq
     rw [PN] at hy
     unfold VD at hy
     split at hy
     · split at hy
       · cases hy
       · rw [List.mem_singleton] at hy
         injection hy with _ h2
         omega
     · cases hy
theorem SV {L:List Nd} {a:Nat} {p:Nd×Option Nat} (h:(((L.map zN).map fun n=>((n,none):Nd×Option Nat)))[a]?=some p):∃ k,L[a]?=some k∧p=(zN k,none):=by
 rw [List.getElem?_map,List.getElem?_map] at h
 cases hk:L[a]? with
 | none=>rw [hk] at h;cases h
 | some k=>rw [hk] at h;cases h;exact ⟨k,rfl,rfl⟩
theorem bO {l:Bx} {a:Nat} {m:Nd} {c d:Option Nat} (h:l[a]?=some (m,c)):(l.set a (m,d)).map (·.1)=l.map (·.1):=by
 rw [List.map_set]
 exact Rl (by rw [List.getElem?_map,h];rfl)
theorem MU {α:Type} {l:List α} {x y:α} (h:x∈l++[y]) (hne:x≠y):x∈l:=by
 rcases List.mem_append.1 h with h | h
 · exact h
 · exact absurd (List.mem_singleton.1 h) hne
section
variable {n0:Nd} {rk:Option Nat} {M:List Bx} {qs:List ((Nat×Nat)×List Nd)} {q:(Nat×Nat)×List Nd}
theorem Inv.low (h:Inv n0 rk M qs):∀ q∈qs,q.1.1 < 3+M.length:=fun q hq=>by
 rcases h.pend q hq with ⟨e,_⟩ | ⟨i,a,l,m,e,hi,_⟩
 · rw [e];show 2 < _;omega
 · rw [e];have:=(List.getElem?_eq_some_iff.1 hi).1;show 3+i < _;omega
theorem Zc (h:((qs++[q]).map (·.1)).Nodup):∀ q2∈qs,q2.1≠q.1:=fun q2 h2 e=>by
 rw [List.map_append] at h
 exact (List.nodup_append.1 h).2.2 _ (List.mem_map_of_mem h2) _ (by simp) e
theorem Wf (h:Inv n0 rk M (qs++[q])):∃ (rk2:Option Nat) (M2:List Bx),Inv n0 rk2 M2 (qs++kQ (3+M.length) q.2 q.2.length)∧M2.length=M.length+1∧q.1.1 < 3+M.length∧q.2.length≠0 ∧
   ∃ cs,AI.look q.1.1 (HH rk n0 M)=some (.cells cs)∧cs[q.1.2]?=some (.sl .lost q.2.length (AW q.2))∧HH rk2 n0 M2=(3+M.length,.cells (AW (q.2.map zN)))::Ix q.1.1 (.cells (cs.set q.1.2 (.msl (3+M.length) 0 q.2.length))) (HH rk n0 M):=by
 have hlow:=h.low q (by simp)
 have hne:=Zc h.dist
 have hsm:∀ q2∈qs++kQ (3+M.length) q.2 q.2.length,∀ x∈q2.2,RF x:=fun q2 h2 x hx=>by
   rcases List.mem_append.1 h2 with h2 | h2
   · exact h.small q2 (by simp [h2]) x hx
   · obtain ⟨a,k,ha,hk,_,rfl⟩:=NS.1 h2
     exact ((Pl k).1 (h.small q (by simp) k (List.mem_of_getElem? hk))).2 x hx
 have hdist:((qs++kQ (3+M.length) q.2 q.2.length).map (·.1)).Nodup:=by
   rw [List.map_append]
   refine List.nodup_append.2 ⟨?_,QT _ _ _,fun x hx y hy e=>?_⟩
   · have:=h.dist
     rw [List.map_append] at this
     exact (List.nodup_append.1 this).1
   · subst e
     obtain ⟨q2,h2,rfl⟩:=List.mem_map.1 hx
     obtain ⟨q3,h3,e3⟩:=List.mem_map.1 hy
     obtain ⟨a,k,_,_,_,rfl⟩:=NS.1 h3
     have:=h.low q2 (by simp [h2])
     rw [← e3] at this
     simp at this
 have newpend:∀ (M3:List Bx),M3[M.length]?=some ((q.2.map zN).map fun n=>(n,none))→∀ q2∈kQ (3+M.length) q.2 q.2.length,∃ (i a:Nat) (l:Bx) (m:Nd),q2.1=(3+i,0+a*11+9)∧M3[i]?=some l∧l[a]?=some (m,none)∧q2.2=m.kids∧m.kids≠[]:=fun M3 hM q2 h2=>by
   obtain ⟨a,k,ha,hk,hkn,rfl⟩:=NS.1 h2
   exact ⟨M.length,a,_,zN k,rfl,hM,by rw [List.getElem?_map,List.getElem?_map,hk];rfl,rfl,hkn⟩
 have newall:∀ (a:Nat) (m:Nd),(((q.2.map zN).map fun n=>((n,none):Nd×Option Nat)))[a]?=some (m,none)→m.kids≠[]→(3+M.length,0+a*11+9)∈(qs++kQ (3+M.length) q.2 q.2.length).map (·.1):=fun a m hm hk=>by
   obtain ⟨k,hk2,e⟩:=SV hm
   injection e with e1 _
   subst e1
   rw [List.map_append]
   refine List.mem_append.2 (.inr (List.mem_map.2 ⟨_,NS.2 ⟨a,k,(List.getElem?_eq_some_iff.1 hk2).1,hk2,hk,rfl⟩,rfl⟩))
 have newdone:∀ (a:Nat) (m:Nd) (c:Nat),(((q.2.map zN).map fun n=>((n,none):Nd×Option Nat)))[a]?=some (m,some c)→False:=fun a m c hm=>by
   obtain ⟨k,_,e⟩:=SV hm
   injection e with _ e2
   cases e2
 have newzero:∀ (a:Nat) (m:Nd) (c:Option Nat),(((q.2.map zN).map fun n=>((n,none):Nd×Option Nat)))[a]?=some (m,c)→m.att=0:=fun a m c hm=>by
   obtain ⟨k,_,e⟩:=SV hm
   injection e with e1 _
   rw [e1];rfl
 rcases h.pend q (by simp) with ⟨e1,hrk,e2⟩ | ⟨i,a,l,m,e1,hi,ha,e2,hkn⟩
 · subst hrk
   have hget:∀ {i:Nat} {l:Bx},i≠M.length→(M++[((q.2.map zN).map fun n=>((n,none):Nd×Option Nat))])[i]?=some l→M[i]?=some l:=fun {i l} hi hl=>by
     have:=(List.getElem?_eq_some_iff.1 hl).1
     rw [List.length_append,List.length_singleton] at this
     rwa [List.getElem?_append_left (by omega)] at hl
   have hput:∀ {i:Nat} {l:Bx},M[i]?=some l→(M++[((q.2.map zN).map fun n=>((n,none):Nd×Option Nat))])[i]?=some l:=fun {i l} hl=>by
     rw [List.getElem?_append_left (List.getElem?_eq_some_iff.1 hl).1];exact hl
   have hnew:(M++[((q.2.map zN).map fun n=>((n,none):Nd×Option Nat))])[M.length]?=some ((q.2.map zN).map fun n=>(n,none)):=List.getElem?_concat_length
   have hzero:∀ (i a:Nat) (l:Bx) (m:Nd) (c:Option Nat),(M++[((q.2.map zN).map fun n=>((n,none):Nd×Option Nat))])[i]?=some l→l[a]?=some (m,c)→m.att=0:=fun i a l m c hi ha=>by
     by_cases hiM:i=M.length
     · subst hiM
       rw [hnew] at hi
       cases hi
       exact newzero a m c ha
     · exact h.zero i a l m c (hget hiM hi) ha
   refine ⟨some (3+M.length),M++[(q.2.map zN).map fun n=>(n,none)],⟨fun q2 h2=>?_,hdist,⟨(fun h=>nomatch h),fun i a l m hi ha hk=>?_⟩,fun i a l m c hi ha=>?_,fun c hc=>?_,hsm,hzero⟩,by simp,hlow,by rw [e2];simp,[sX n0 none],?_,?_,?_⟩
   · rcases List.mem_append.1 h2 with h2 | h2
     · rcases h.pend q2 (by simp [h2]) with ⟨e3,_,_⟩ | ⟨i,a,l,m,f1,f2,f3,f4,f5⟩
       · exact absurd (e3.trans e1.symm) (hne q2 h2)
       · exact .inr ⟨i,a,l,m,f1,hput f2,f3,f4,f5⟩
     · exact .inr (newpend _ hnew q2 h2)
   · by_cases hiM:i=M.length
     · subst hiM
       rw [hnew] at hi
       cases hi
       exact newall a m ha hk
     · have:=h.all.2 i a l m (hget hiM hi) ha hk
       rw [List.map_append] at this ⊢
       refine List.mem_append.2 (.inl (MU this (by show _≠q.1;rw [e1];intro h;injection h with h _;omega)))
   · by_cases hiM:i=M.length
     · subst hiM
       rw [hnew] at hi
       cases hi
       exact (newdone a m c ha).elim
     · obtain ⟨i2,l2,f1,f2,f3,f4⟩:=h.done i a l m c (hget hiM hi) ha
       exact ⟨i2,l2,f1,f2,hput f3,f4⟩
   · cases hc
     exact ⟨M.length,_,rfl,hnew,by rw [e2];rfl⟩
   · rw [e1];exact Te (by decide)
   · rw [e1,e2];rfl
   · rw [Ti,RB,e1,e2]
     congr 1
     exact (b5 (rk:=none) (3+M.length)).symm
 · have hiL:=(List.getElem?_eq_some_iff.1 hi).1
   have haL:=(List.getElem?_eq_some_iff.1 ha).1
   have hlen:(M.set i (l.set a (m,some (3+M.length)))).length=M.length:=List.length_set
   have hnew:(M.set i (l.set a (m,some (3+M.length)))++[((q.2.map zN).map fun n=>((n,none):Nd×Option Nat))])[M.length]?=some ((q.2.map zN).map fun n=>(n,none)):=by
     have:=List.getElem?_concat_length (l:=M.set i (l.set a (m,some (3+M.length)))) (a:=(q.2.map zN).map fun n=>((n,none):Nd×Option Nat))
     rwa [hlen] at this
   have hself:(M.set i (l.set a (m,some (3+M.length)))++[((q.2.map zN).map fun n=>((n,none):Nd×Option Nat))])[i]?=some (l.set a (m,some (3+M.length))):=by
     rw [List.getElem?_append_left (by rw [hlen];exact hiL),List.getElem?_set_self hiL]
   have hget:∀ {i2:Nat} {l2:Bx},i2≠M.length→i2≠i→(M.set i (l.set a (m,some (3+M.length)))++[((q.2.map zN).map fun n=>((n,none):Nd×Option Nat))])[i2]?=some l2→M[i2]?=some l2:=fun {i2 l2} h1 h2 hl=>by
     have:=(List.getElem?_eq_some_iff.1 hl).1
     rw [List.length_append,List.length_singleton,hlen] at this
     rwa [List.getElem?_append_left (by rw [hlen];omega),List.getElem?_set_ne (fun e=>h2 e.symm)] at hl
   have hput:∀ {i2:Nat} {l2:Bx},M[i2]?=some l2→∃ l3,(M.set i (l.set a (m,some (3+M.length)))++[((q.2.map zN).map fun n=>((n,none):Nd×Option Nat))])[i2]?=some l3∧l3.map (·.1)=l2.map (·.1)∧∀ b p,(i2,b)≠(i,a)→l2[b]?=some p→l3[b]?=some p:=fun {i2 l2} hl=>by
     have hl2:=(List.getElem?_eq_some_iff.1 hl).1
     by_cases h2:i2=i
     · subst h2
       rw [hi] at hl
       cases hl
       exact ⟨_,hself,bO ha,fun b p hb hp=>by rw [List.getElem?_set_ne (fun e=>hb (by rw [e]))];exact hp⟩
     · exact ⟨l2,by rw [List.getElem?_append_left (by rw [hlen];exact hl2),List.getElem?_set_ne (fun e=>h2 e.symm)];exact hl,rfl,fun b p _ hp=>hp⟩
   have hzero:∀ (i2 a2:Nat) (l2:Bx) (m2:Nd) (c:Option Nat),(M.set i (l.set a (m,some (3+M.length)))++[((q.2.map zN).map fun n=>((n,none):Nd×Option Nat))])[i2]?=some l2→l2[a2]?=some (m2,c)→m2.att=0:=fun i2 a2 l2 m2 c hi2 ha2=>by
     by_cases hiM:i2=M.length
     · subst hiM
       rw [hnew] at hi2
       cases hi2
       exact newzero a2 m2 c ha2
     · by_cases h2:i2=i
       · subst h2
         rw [hself] at hi2
         cases hi2
         by_cases h3:a2=a
         · subst h3
           rw [List.getElem?_set_self haL] at ha2
           cases ha2
           exact h.zero i2 a2 l _ none hi ha
         · rw [List.getElem?_set_ne (fun e=>h3 e.symm)] at ha2
           exact h.zero i2 a2 l m2 c hi ha2
       · exact h.zero i2 a2 l2 m2 c (hget hiM h2 hi2) ha2
   refine ⟨rk,M.set i (l.set a (m,some (3+M.length)))++[(q.2.map zN).map fun n=>(n,none)],⟨fun q2 h2=>?_,hdist,⟨fun hr=>?_,fun i2 a2 l2 m2 hi2 ha2 hk=>?_⟩,fun i2 a2 l2 m2 c hi2 ha2=>?_,fun c hc=>?_,hsm,hzero⟩,by simp,hlow,by rw [e2];exact fun h=>hkn (List.eq_nil_of_length_eq_zero h),Y3 l,?_,?_,?_⟩
   · rcases List.mem_append.1 h2 with h2 | h2
     · rcases h.pend q2 (by simp [h2]) with h3 | ⟨i2,a2,l2,m2,f1,f2,f3,f4,f5⟩
       · exact .inl h3
       · obtain ⟨l3,g1,_,g3⟩:=hput f2
         exact .inr ⟨i2,a2,l3,m2,f1,g1,g3 a2 _ (fun e=>hne q2 h2 (by injection e with x y;rw [f1,e1,x,y])) f3,f4,f5⟩
     · exact .inr (newpend _ hnew q2 h2)
   · have:=h.all.1 hr
     rw [List.map_append] at this ⊢
     refine List.mem_append.2 (.inl (MU this (by show _≠q.1;rw [e1];intro h;injection h with h _;omega)))
   · by_cases hiM:i2=M.length
     · subst hiM
       rw [hnew] at hi2
       cases hi2
       exact newall a2 m2 ha2 hk
     · have key:∀ l4,M[i2]?=some l4→l4[a2]?=some (m2,none)→(i2,a2)≠(i,a)→(3+i2,0+a2*11+9)∈(qs++kQ (3+M.length) q.2 q.2.length).map (·.1):=fun l4 h4 h5 h6=>by
         have:=h.all.2 i2 a2 l4 m2 h4 h5 hk
         rw [List.map_append] at this ⊢
         refine List.mem_append.2 (.inl (MU this (by
           show _≠q.1
           rw [e1]
           intro e
           injection e with x y
           exact h6 (by rw [show i2=i by omega,show a2=a by omega]))))
       by_cases h2:i2=i
       · subst h2
         rw [hself] at hi2
         cases hi2
         by_cases h3:a2=a
         · subst h3
           rw [List.getElem?_set_self haL] at ha2
           cases ha2
         · rw [List.getElem?_set_ne (fun e=>h3 e.symm)] at ha2
           exact key l hi ha2 (fun e=>by injection e with _ e;exact h3 e)
       · exact key l2 (hget hiM h2 hi2) ha2 (fun e=>by injection e with e _;exact h2 e)
   · by_cases hiM:i2=M.length
     · subst hiM
       rw [hnew] at hi2
       cases hi2
       exact (newdone a2 m2 c ha2).elim
     · have old:∀ l4,M[i2]?=some l4→l4[a2]?=some (m2,some c)→∃ (i3:Nat) (l3:Bx),c=3+i3∧i2 < i3∧(M.set i (l.set a (m,some (3+M.length)))++[((q.2.map zN).map fun n=>((n,none):Nd×Option Nat))])[i3]?=some l3∧l3.map (·.1)=m2.kids.map zN:=fun l4 h4 h5=>by
         obtain ⟨i3,l3,f1,f2,f3,f4⟩:=h.done i2 a2 l4 m2 c h4 h5
         obtain ⟨l5,g1,g2,_⟩:=hput f3
         exact ⟨i3,l5,f1,f2,g1,g2.trans f4⟩
       by_cases h2:i2=i
       · subst h2
         rw [hself] at hi2
         cases hi2
         by_cases h3:a2=a
         · subst h3
           rw [List.getElem?_set_self haL] at ha2
           cases ha2
           exact ⟨M.length,_,rfl,hiL,hnew,by rw [e2,List.map_map];simp [Function.comp_def]⟩
         · rw [List.getElem?_set_ne (fun e=>h3 e.symm)] at ha2
           exact old l hi ha2
       · exact old l2 (hget hiM h2 hi2) ha2
   · obtain ⟨i3,l3,f1,f2,f3⟩:=h.root c hc
     obtain ⟨l5,g1,g2,_⟩:=hput f2
     exact ⟨i3,l5,f1,g1,g2.trans f3⟩
   · rw [e1];exact Yj hi
   · rw [e1,e2]
     show (rows Rm l)[0+a*11+9]?=_
     rw [Nat.zero_add,Mr L8 ha (by decide)]
     rfl
   · rw [Ti,RB,hlen,e1]
     congr 1
     rw [← jN (by exact hiL)]
     congr 2
     rw [e2]
     show rows Rm (l.set a (m,some (3+M.length)))=(rows Rm l).set (0+a*11+9) _
     rw [Nat.zero_add,Q9 L8 (j:=9) (y:=(m,some (3+M.length))) (v:=.msl (3+M.length) 0 m.kids.length) ha (by decide) rfl]
theorem TX {p:Nat×Nat} (L:List Nd) (nx:Nat):mu (qs++kQ nx L L.length) < mu (qs++[(p,L)]):=by
 rw [PZ,PZ]
 have:=eD nx L L.length
 rw [List.take_length] at this
 have h2:mu [(p,L)]=1+cL L:=by simp [mu]
 omega
end
section
variable {c:Cx} {w:World} {s:AS} {n0:Nd} {rk:Option Nat} {M:List Bx}
theorem OZ (hvis:∀ g i v,EM c w g i v→EM (c.upto 0 0) w g i v) {m:Nd} {k:Option Nat} {X Y:List AV} {vs:List Value} (hz:m.att=0)
   (hk:∀ v,Rp c w (xP m k) v→Rp (c.upto 0 0) w (.sl .lost (m.kids.map Ci).length (AW (m.kids.map Ci))) v) (hX:∀ us,A6 c w X us→A6 (c.upto 0 0) w Y us) (h:A6 c w (Rm (m,k)++X) vs):A6 (c.upto 0 0) w (BP (Ci m)++Y) vs:=by
 have pl:∀ {a:AV} {v:Value},plain a=true→Rp c w a v→Rp (c.upto 0 0) w a v:=fun hp hr=>Rp.plain hvis hp hr
 rw [E4]
 cases h with
 | cons h0 h=>cases h with
 | cons h1 h=>cases h with
 | cons h2 h=>cases h with
 | cons h3 h=>cases h with
 | cons h4 h=>cases h with
 | cons h5 h=>cases h with
 | cons h6 h=>cases h with
 | cons h7 h=>cases h with
 | cons h8 h=>cases h with
 | cons h9 h=>cases h with
 | cons h10 h =>
   have h10:Rp c w (.sc (.int .i64 m.att)) _:=h10
   rw [hz] at h10
   exact .cons (pl rfl h0) (.cons (pl rfl h1) (.cons (pl rfl h2) (.cons (pl rfl h3) (.cons (pl rfl h4) (.cons (pl rfl h5) (.cons (pl rfl h6) (.cons (pl rfl h7) (.cons (pl (F6.DH m.tab.ps) h8) (.cons (hk _ h9) (.cons (pl rfl h10) (hX _ h)))))))))))
theorem u9 (hs:St G c w s) (hb:∀ g,some g∈c.Bf→∀ i,¬ c.bad g i) (hI:Inv n0 rk M []) (hget:∀ i l,M[i]?=some l→s.get (3+i)=some (.cells (Y3 l))) (hvis:∀ g i v,EM c w g i v→EM (c.upto 0 0) w g i v) :
   ∀ (d i:Nat) (l:Bx),M.length≤i+d→M[i]?=some l→∀ g,c.Bf[3+i]?=some (some g)→AA (c.upto 0 0) w g 0 (AW (l.map fun p=>Ci p.1)):=by
 intro d
 induction d with
 | zero=>intro i l hd hl;have:=(List.getElem?_eq_some_iff.1 hl).1;omega
 | succ d ih =>
   intro i l hd hl g hg
   have hgm:=List.mem_of_getElem? hg
   obtain ⟨vs,ext,T,hw,hr⟩:=Fp hs hg (hget i l hl)
   have key:∀ (l2:Bx),(∀ p∈l2,∃ a:Nat,l[a]?=some p)→∀ us,A6 c w (rows Rm l2) us→A6 (c.upto 0 0) w (AW (l2.map fun p=>Ci p.1)) us:=by
     intro l2
     induction l2 with
     | nil=>intro _ us h;cases h;exact .nil
     | cons p l2 ih2 =>
       intro hm us h
       obtain ⟨m,k⟩:=p
       obtain ⟨a,ha⟩:=hm (m,k) (by simp)
       rw [Dm] at h
       rw [List.map_cons,Ay.cons]
       refine OZ hvis (hI.zero i a l m k hl ha) (fun v hv=>?_) (fun us hu=>ih2 (fun p hp=>hm p (by simp [hp])) us hu) h
       cases k with
       | none =>
         have hk:m.kids=[]:=by
           by_cases hk:m.kids=[]
           · exact hk
           · exact absurd (hI.all.2 i a l m hl ha hk) (by simp)
         have hv:Rp c w (.sl .lost m.kids.length (AW m.kids)) v:=hv
         rw [hk] at hv ⊢
         exact Rp.plain hvis rfl hv
       | some cc =>
         obtain ⟨i2,l3,rfl,hi2,hl3,hf⟩:=hI.done i a l m cc hl ha
         have hv:Rp c w (.msl (3+i2) 0 m.kids.length) v:=hv
         cases hv with
         | @msl _ _ _ g2 cap hn hid =>
           have h3:=ih i2 l3 (by omega) hl3 g2 hid
           have e:(l3.map fun p=>Ci p.1)=m.kids.map Ci:=by
             have:=congrArg (List.map Ci) hf
             rw [List.map_map,List.map_map] at this
             rw [show (fun p:Nd×Option Nat=>Ci p.1)=Ci∘(·.1) from rfl,this]
             exact List.map_congr_left fun x _=>XO x
           rw [e] at h3
           rw [List.length_map];exact .sl1 hn h3 trivial
   refine AA.GV (key l (fun p hp=>by obtain ⟨a,ha⟩:=List.mem_iff_getElem?.1 hp;exact ⟨a,ha⟩) vs hr) (fun j v hj=>?_)
   rw [Nat.zero_add]
   refine ⟨hs.plow g hgm,fun hsh=>?_,cell_of_heap hw (Jl hj)⟩
   rcases hsh with hsh | ⟨r,n',cap',sz',hr,_⟩ | hsh
   · simp [Cx.upto] at hsh
   · simp [Cx.upto] at hr
   · exact hb g hgm j hsh
theorem UC (hI:Inv n0 rk M []) (hget:∀ i l,M[i]?=some l→s.get (3+i)=some (.cells (Y3 l))) {i:Nat} {k:Option Nat} (hl:M[i]?=some [(zN n0,k)]):TL G s (.agg (Rm (zN n0,k))) (.agg (BP (Ci n0))):=by
 intro c w u hs hb hr
 have hvis:∀ g i v,EM c w g i v→EM (c.upto 0 0) w g i v:=fun g i v hv=>⟨hv.1,fun hsh=>by
   rcases hsh with hsh | ⟨r,n',cap',sz',hr,_⟩ | hsh
   · simp [Cx.upto] at hsh
   · simp [Cx.upto] at hr
   · exact hv.2.1 (.inr (.inr hsh)),hv.2.2⟩
 cases hr with
 | agg h =>
   have:=OZ (X:=[]) (Y:=[]) hvis (m:=zN n0) (k:=k) rfl (fun v hv=>?_) (fun us hu=>by cases hu;exact .nil) (by rw [List.append_nil];exact h)
   · rw [List.append_nil,XO] at this
     exact .agg this
   · cases k with
     | none =>
       have hk:(zN n0).kids=[]:=by
         by_cases hk:(zN n0).kids=[]
         · exact hk
         · exact absurd (hI.all.2 i 0 _ _ hl rfl hk) (by simp)
       have hv:Rp c w (.sl .lost (zN n0).kids.length (AW (zN n0).kids)) v:=hv
       rw [hk] at hv ⊢
       exact Rp.plain hvis rfl hv
     | some cc =>
       obtain ⟨i2,l3,rfl,hi2,hl3,hf⟩:=hI.done i 0 _ _ cc hl rfl
       have hv:Rp c w (.msl (3+i2) 0 (zN n0).kids.length) v:=hv
       cases hv with
       | @msl _ _ _ g2 cap hn hid =>
         have h3:=u9 hs hb hI hget hvis M.length i2 l3 (by omega) hl3 g2 hid
         have e:(l3.map fun p=>Ci p.1)=(zN n0).kids.map Ci:=by
           have:=congrArg (List.map Ci) hf
           rw [List.map_map,List.map_map] at this
           rw [show (fun p:Nd×Option Nat=>Ci p.1)=Ci∘(·.1) from rfl,this]
           exact List.map_congr_left fun x _=>XO x
         rw [e] at h3
         rw [List.length_map];exact .sl1 hn h3 trivial
end
section
variable {b:Nat} {B:Nat→Nat→Prop} {w0:World} {Q:QE} {n0:Nd}
theorem Z6 {g:Nat} {j:List Value} (hc:cL [n0]≤99999998) (hp:RF n0)
   (h:∀ rk M g cap j,Inv n0 rk M []→Q .normal (FO g 0 cap j) ⟨HH rk n0 M,3+M.length,[],0⟩ (BT b B w0 g cap [])) :
   WE P G (BT b B w0 g 1 [(2,0)]) (sb C6 30) (FO g 1 1 j) ⟨HH none n0 [],3,[],0⟩ Q:=by
 rw [show sb C6 30=.block 0 (.loop (sb C6 120)) by kernel_rfl]
 refine .block ?_
 refine .loop (fun m f s E=>∃ rk M qs g cap j,Inv n0 rk M qs∧m=mu qs∧mu qs≤99999999∧f=FO g (qs.map (·.1)).length cap j∧s=⟨HH rk n0 M,3+M.length,[],0⟩∧E=BT b B w0 g cap (qs.map (·.1))) ?_ (m:=mu [((2,0),[n0])]) ⟨none,[],[((2,0),[n0])],g,1,j,?_,rfl,by simp [mu];omega,rfl,rfl,rfl⟩
 rotate_left
 · exact ⟨fun q hq=>.inl (by rw [List.mem_singleton.1 hq];exact ⟨rfl,rfl,rfl⟩),by simp,⟨fun _=>by simp,fun i a l m hi=>by simp at hi⟩,fun i a l m c hi=>by simp at hi,fun c hc=>(nomatch hc),fun q hq x hx=>by rw [List.mem_singleton.1 hq] at hx;rw [List.mem_singleton.1 hx];exact hp,fun i a l m c hi=>by simp at hi⟩
 rintro m _ _ _ ⟨rk,M,qs,g,cap,j,hI,rfl,hmu,rfl,rfl,rfl⟩
 refine .Xz (x:=sb C6 240) (y:=sb C6 241) (by kernel_rfl) ?_
 rcases List.eq_nil_or_concat qs with rfl | ⟨qs,q,rfl⟩
 · refine .Xz (x:=sb C6 480) (y:=sb C6 481) (by kernel_rfl) ?_
   refine Wy false 0 rfl (fun f h13 hf=>.inl ⟨rfl,?_⟩)
   refine .Oi false (x:=sb C6 962) (y:=sb C6 963) (q:=.tmp 13) (by kernel_rfl) h13 ?_
   rw [if_neg (by decide),show sb C6 963=.exit 0 by kernel_rfl]
   exact .wk hf (.exit (.inr ⟨(by intro h;cases h),.inr ⟨(by intro h;cases h),h rk M g cap _ hI⟩⟩))
 · rw [List.concat_eq_append] at hI hmu ⊢
   have hqm:(qs++[q]).map (·.1)=qs.map (·.1)++[q.1]:=by rw [List.map_append];rfl
   have hlen:=Xi (qs++[q])
   rw [List.length_append,List.length_singleton] at hlen
   refine .Jr (x:=sb C6 480) (y:=sb C6 481) (by kernel_rfl) ?_
   refine Wy true _ (uO (by rw [hqm,List.length_append,List.length_singleton];omega)) (fun f h13 hf=>⟨rfl,?_⟩)
   refine .Oi true (x:=sb C6 962) (y:=sb C6 963) (q:=.tmp 13) (by kernel_rfl) h13 ?_
   rw [if_pos rfl,show sb C6 962=.skip by kernel_rfl]
   refine .skip (.inl ⟨rfl,.wk hf ?_⟩)
   rw [show sb C6 241=.block 1 (sb C6 482) by kernel_rfl,hqm]
   refine .block ?_
   obtain ⟨rk2,M2,hI2,hM2,hid,hL,cs,hlk,hcs,hH⟩:=Wf hI
   have hmq:mu (qs++[q])=mu qs+(1+cL q.2):=by rw [PZ];simp [mu]
   have hLc:=YF q.2
   have hql:=Xi qs
   refine rU (by rw [List.length_map];omega) ?_
   refine YT hid hlk hcs hL (by omega) ?_
   refine j9 hid (Nz hlk) (List.getElem?_set_self (List.getElem?_eq_some_iff.1 hcs).1) (fun x hx=>((Pl x).1 (hI.small q (by simp) x hx)).1) (by rw [List.length_map];omega) (fun g' cap' j'=>.inl ⟨rfl,mu (qs++kQ (3+M.length) q.2 q.2.length),TX q.2 (3+M.length),rk2,M2,qs++kQ (3+M.length) q.2 q.2.length,g',cap',j',hI2,rfl,?_,?_,?_,?_⟩)
   · have:=TX (qs:=qs) (p:=q.1) q.2 (3+M.length)
     have:mu (qs++[(q.1,q.2)])≤99999999:=hmu
     omega
   · rw [List.map_append,S6]
   · rw [hH,hM2]
     rfl
   · rw [List.map_append,S6]
theorem dN:(P.underlying 27).map FV=some true:=by kernel_rfl
theorem sN:(P.info? 27).map (·.size)=some 11:=by kernel_rfl
theorem X8 {n:Nd} (hc:cL [n]≤99999998) (hp:RF n):Pure P G 25 [.agg (BP n)] (.agg (BP (Ci n))):=by
 refine pA Hd.mixed Hd.Ac Tryz.func25 zF (fun b B w0 hB=>?_) (BI (Ay.Lc n) rfl) (Ay.Lc (Ci n))
 refine .Jr (x:=sb C6 2) (y:=sb C6 3) (by kernel_rfl) ?_
 refine .run Hd.mixed E0.CY [] (e:=.normal) (fr2:=fr 72 [(1,.ptr 0 0),(2,.ptr 1 0)] [13,36,61] [undef,undef,undef]) (s2:=⟨[(1,a1),(0,.cells (BP n))],2,[],0⟩) (by kernel_rfl) (by intro v h;cases h) ⟨rfl,?_⟩
 refine .Jr (x:=sb C6 6) (y:=sb C6 7) (by kernel_rfl) ?_
 refine .run Hd.mixed E0.CY [] (e:=.normal) (fr2:=fr 72 [(2,.ptr 1 0),(3,.ptr 2 0)] [13,36,61] [undef,undef,undef]) (s2:=⟨[(2,.cells [.sl .full 1 (BP n)]),(1,a1),(0,.cells (BP n))],3,[],0⟩) (by kernel_rfl) (by intro v h;cases h) ⟨rfl,?_⟩
 refine .Sa (id:=2) (b2:=.cells [sX n none]) rfl (fun cx w o ho=>?_) ?_
 · have e:AW [n]=BP n:=by rw [ER];exact List.append_nil _
   cases ho with
   | cellsX ext h1 =>
     refine .cellsX ext ?_
     cases h1 with
     | cons h1 t =>
       refine .cons ?_ t
       show Rp cx w (.sl .lost 1 (AW [n])) _
       rw [e]
       cases h1 with
       | sl1 hn hc _=>exact .sl1 hn hc trivial
 show WE P G _ (sb C6 7) _ ⟨HH none n [],3,[],0⟩ _
 refine .Jr (x:=sb C6 14) (y:=sb C6 15) (by kernel_rfl) ?_
 have hr:IH (sb C6 14) 2=true:=by kernel_rfl
 refine .rG hr ?_
 show Hg P G _ _ [0,1] _ _ _
 refine .begin hr (by decide) (t:=75) (e:=74) (x:=.tmp 3) (id:=2) (off:=0) (by kernel_rfl) uP (by kernel_rfl) (by kernel_rfl) (fun g=>?_)
 refine .q Hd.mixed BT.CY hr (by decide) (.raw (some ⟨g,0,none⟩) 1 1) (by kernel_rfl) (by kernel_rfl) ?_
 refine .nil ⟨rfl,.wk (fr2:=FO g 1 1 [undef,undef,undef]) (by kernel_rfl) ?_⟩
 refine .Jr (x:=sb C6 30) (y:=sb C6 31) (by kernel_rfl) ?_
 refine Z6 hc hp (fun rk M g cap j hI=>⟨rfl,?_⟩)
 cases rk with
 | none=>exact absurd (hI.all.1 rfl) (by simp)
 | some c =>
   obtain ⟨i,l,rfl,hl,hf⟩:=hI.root c rfl
   obtain ⟨k,rfl⟩:∃ k,l=[(zN n,k)]:=by
     cases l with
     | nil=>cases hf
     | cons p l =>
       cases l with
       | cons _ _=>simp at hf
       | nil =>
         obtain ⟨m,k⟩:=p
         simp at hf
         exact ⟨k,by rw [hf]⟩
   have ho:(Rm (zN n,k)).all one=true:=by cases k<;>rfl
   refine .Xz (x:=sb C6 62) (y:=sb C6 63) (by kernel_rfl) ?_
   refine .run Hd.mixed BT.CY [SE (x:=AI.look 2 (HH (some (3+i)) n M)) (b:=.cells [.msl (3+i) 0 1]) (off:=0) (v:=.msl (3+i) 0 1) (OQ dL sL rfl) (Te (by decide)),Em (eQ (id:=3+i) (n:=1) (i:=0) (by decide)),SE (x:=AI.look (3+i) (HH (some (3+i)) n M)) (off:=0+0*11) (v:=.agg (Rm (zN n,k))) (QU L8 dN sN (l:=[(zN n,k)]) rfl) (Yj hl),aJ (x:=AI.look 1 (HH (some (3+i)) n M)) (b:=a1) (off:=0) (v:=.agg (Rm (zN n,k))) (zL sN rfl rfl ho) (Te (by decide))] (e:=.normal) (fr2:=FO g 0 cap j) (s2:=⟨Ix 1 (.cells (Rm (zN n,k))) (HH (some (3+i)) n M),3+M.length,[],0⟩) (by kernel_rfl) (by intro v h;cases h) (.inl ⟨rfl,?_⟩)
   rw [show sb C6 63=.ret by kernel_rfl]
   have hlk1:AI.look 1 (HH (some (3+i)) n M)=some a1:=Te (by decide)
   refine fun cx w a K hE hs hf hd hK=>wp_ret (hK .ret _ _ _ ⟨.inr rfl,BT.fin hB,.agg (Rm (zN n,k)),vT (a:=.ptr 1 0) (t:=2) (ty:=27) (by kernel_rfl) (by kernel_rfl) ?_,UC hI (fun i2 l2 h2=>?_) hl⟩ cx w a _ hE hs hd ⟨rfl,hf⟩)
   · have hg:AS.get ⟨Ix 1 (.cells (Rm (zN n,k))) (HH (some (3+i)) n M),3+M.length,[],0⟩ 1=some (.cells (rows Rm [(zN n,k)])):=by
       show AI.look 1 (Ix 1 _ _)=_
       rw [Nz hlk1]
       rw [show rows Rm [(zN n,k)]=Rm (zN n,k) from List.append_nil _]
     have:=QU (P:=P) (G:=G) L8 dN sN (l:=[(zN n,k)]) (i:=0) (x:=(zN n,k)) rfl _ _ hg
     simpa using this
   · show AI.look (3+i2) (Ix 1 _ _)=_
     rw [Dp (by omega)]
     exact Yj h2
end
end Mo
end Go.Proofs.YtkfplcngmiljaaaGreatDoor
namespace Go.Proofs.YtkfplcngmiljaaaGreatDoor
open AI Go
namespace Mo
open Classical in
noncomputable def Dk (n:Nd):Option Nd:=if cL [n]≤99999998∧RF n then some (Ci n) else none
theorem GS {n:Nd} {yR:Nd} (h:Dk n=some yR):Pure P G 25 [.agg (BP n)] (.agg (BP yR)):=by
 unfold Dk at h
 split at h
 · rename_i hc
   cases h
   exact X8 hc.1 hc.2
 · cases h
end Mo
end Go.Proofs.YtkfplcngmiljaaaGreatDoor
