/- Part of a proof: see the last text. -/
import Derived.Test.YtkfplcngmiljaaaGreatDoorUni
import Derived.Test.YtkfplcngmiljaaaGreatDoorProg
import Derived.KernelRfl
import Derived.WalkKit
import Derived.WalkLawsBesides
import Derived.WalkSpells
import Derived.Lib.Hide
import Derived.Laws.Rows
import Derived.Recover
set_option linter.unusedVariables false
set_option linter.unusedSimpArgs false
namespace Go.Proofs.YtkfplcngmiljaaaGreatDoor
open AI Go Go.RowKit
theorem Uu (x y z:Value) (w:World) :
   CallsD Tryz.prog 68 #[x,y,z] .returning w fun e u' w'=>e=.returned (.tuple #[])∧u'=.returning∧w'=w:=by
 refine callsD_of_wpS Tryz.func68 rfl fun c₀ cs hu=>?_
 apply wpS_seq
 apply wpS_region
 simp [wpOpsS,go_sem,recoverD,hu,Tryz.ntmps68,Exit.thenS]
 apply wpS_seq
 apply wpS_region
 simp [wpOpsS,go_sem,Exit.thenS]
 refine wpS_cond (t:=false) (by simp [Act.eval,Array.replicate]) ?_
 simp only [Bool.false_eq_true,if_false]
 refine wpS_of_wp (wp_skip ?_)
 cases c₀
 simp_all [bodyPostS,results,Tryz.results68]
noncomputable def Ii (w:World):World:=((w.alloc (.cells #[.int .i64 0,.string ⟨#[]⟩,.string ⟨#[]⟩,.int .i64 0,.int .i64 0,.int .i64 0,.int .i64 0,.int .i64 0,.slice none 0 0,.slice none 0 0,.int .i64 0] 27)).alloc (.cells #[.int .i64 0,.int .i64 0] 53)).alloc (.cells #[.bool false] 4)
theorem mZ (w:World):(Ii w).heap[w.heap.size]?=some (.cells #[.int .i64 0,.string ⟨#[]⟩,.string ⟨#[]⟩,.int .i64 0,.int .i64 0,.int .i64 0,.int .i64 0,.int .i64 0,.slice none 0 0,.slice none 0 0,.int .i64 0] 27 (0,0)):=by
 unfold Ii
 rw [heap_alloc_old _ _ (by simp;omega),heap_alloc_old _ _ (by simp),heap_alloc_new]
theorem nZ (w:World):(Ii w).heap[w.heap.size+1]?=some (.cells #[.int .i64 0,.int .i64 0] 53 (0,0)):=by
 unfold Ii
 rw [heap_alloc_old _ _ (by simp),heap_alloc2_new]
theorem mV (w:World):(Ii w).heap[w.heap.size+1+1]?=some (.cells #[.bool false] 4 (0,0)):=by
 unfold Ii
 have:=heap_alloc_new ((w.alloc (.cells #[.int .i64 0,.string ⟨#[]⟩,.string ⟨#[]⟩,.int .i64 0,.int .i64 0,.int .i64 0,.int .i64 0,.int .i64 0,.slice none 0 0,.slice none 0 0,.int .i64 0] 27)).alloc (.cells #[.int .i64 0,.int .i64 0] 53)) (.cells #[.bool false] 4)
 rwa [World.size_alloc,World.size_alloc] at this
set_option maxRecDepth 20000 in
set_option maxHeartbeats 4000000 in
theorem ZA (g:Nat) (hg:It Tryz.prog g=true) (fs cs:Array Value) (w:World) (R:Array Value→World→Prop)
   (hR:∀ xs w',R xs w'→(xs.size=11∧xs.all (·.oneCell')=true)∧w'.heap[w.heap.size]?=(Ii w).heap[w.heap.size]?∧w'.heap[w.heap.size+1]?=(Ii w).heap[w.heap.size+1]?∧w'.heap[w.heap.size+1+1]?=(Ii w).heap[w.heap.size+1+1]?)
   (hC:Calls Tryz.prog g (fs++cs) (Ii w) fun e w'=>∃ xs,e=.returned (.agg xs)∧R xs w') :
   Calls Tryz.prog 44 #[.func (.func g) fs cs] w fun e w2=>∃ xs w',R xs w'∧e=.returned (.tuple #[.agg xs,.agg #[.int .i64 0,.int .i64 0],.bool true])∧Na w' w2 (RC w (Ii w)):=by
 have hmf:∀ (fn:Fn) (first cap:Array Value) (w:World),(Instr.makeFunc fn first cap).run Tryz.prog w=.ok (.func fn first cap) w:=fun _ _ _ _=>rfl
 have hen:=fun args w=>NC (w:=w) hg args
 have HC:=Lib.hid hC
 have HR:=Lib.hid hR
 clear hC hR
 go_enter_defers Tryz.func44,Tryz.ntmps44
 go_wp2_with fail
 refine HC.out.mono ?_
 clear HC
 rintro e w1 ⟨xs,rfl,hr⟩
 obtain ⟨⟨hx,hone⟩,k0,k1,k2⟩:=HR.out xs w1 hr
 clear HR
 have HB:=Lib.hid hr
 clear hr
 have e0:w1.heap[w.heap.size]?=some (.cells #[.int .i64 0,.string ⟨#[]⟩,.string ⟨#[]⟩,.int .i64 0,.int .i64 0,.int .i64 0,.int .i64 0,.int .i64 0,.slice none 0 0,.slice none 0 0,.int .i64 0] 27 (0,0)):=by
   rw [k0];exact mZ w
 have e1:w1.heap[w.heap.size+1]?=some (.cells #[.int .i64 0,.int .i64 0] 53 (0,0)):=by
   rw [k1];exact nZ w
 have e2:w1.heap[w.heap.size+1+1]?=some (.cells #[.bool false] 4 (0,0)):=by
   rw [k2];exact mV w
 have hl2:w.heap.size+1+1 < w1.heap.size:=(Array.getElem?_eq_some_iff.1 e2).1
 obtain ⟨wa,hwa⟩:∃ wa,wa=w1.setRow w.heap.size xs:=⟨_,rfl⟩
 have ca:=GV w1 w.heap.size xs
 rw [← hwa] at ca
 have f1:wa.heap[w.heap.size+1]?=some (.cells #[.int .i64 0,.int .i64 0] 53 (0,0)):=by
   rw [ca.block _ (by omega) (by omega)];exact e1
 have f2:wa.heap[w.heap.size+1+1]?=some (.cells #[.bool false] 4 (0,0)):=by
   rw [ca.block _ (by omega) (by omega)];exact e2
 have f0:wa.heap[w.heap.size]?=some (.cells xs 27 (0,0)):=by
   rw [hwa];exact setRow_heap w1 _ _ _ _ _ e0
 have s0:wa.setCell ⟨w.heap.size+1,0,none⟩ (.int .i64 0)=wa.setRow (w.heap.size+1) #[.int .i64 0,.int .i64 0]:=setCell_eq_setRow wa _ 0 _ _ _ _ f1
 obtain ⟨wd,hwd⟩:∃ wd,wd=wa.setCell ⟨w.heap.size+1,0,none⟩ (.int .i64 0):=⟨_,rfl⟩
 have cd:=GV wa (w.heap.size+1) #[.int .i64 0,.int .i64 0]
 have fd1:wd.heap[w.heap.size+1]?=some (.cells #[.int .i64 0,.int .i64 0] 53 (0,0)):=by
   rw [hwd,s0];exact setRow_heap wa _ _ _ _ _ f1
 have s1:wd.setCell ⟨w.heap.size+1,1,none⟩ (.int .i64 0)=wd.setRow (w.heap.size+1) #[.int .i64 0,.int .i64 0]:=setCell_eq_setRow wd _ 1 _ _ _ _ fd1
 rw [← s0,← hwd] at cd
 obtain ⟨wb,hwb⟩:∃ wb,wb=wd.setCell ⟨w.heap.size+1,1,none⟩ (.int .i64 0):=⟨_,rfl⟩
 have cb:=GV wd (w.heap.size+1) #[.int .i64 0,.int .i64 0]
 rw [← s1,← hwb] at cb
 have hld:w.heap.size+1 < wd.heap.size:=(Array.getElem?_eq_some_iff.1 fd1).1
 have d0:wa.cell? ⟨w.heap.size+1,0,none⟩=some (.int .i64 0):=by simp [World.cell?,f1]
 have d1:(wa.setCell ⟨w.heap.size+1,0,none⟩ (.int .i64 0)).cell? ⟨w.heap.size+1,1,none⟩=some (.int .i64 0):=by rw [← hwd];simp [World.cell?,fd1]
 have z0:wa.frozen? ⟨w.heap.size+1,0,none⟩=false:=by simp [World.frozen?,f1]
 have z1:(wa.setCell ⟨w.heap.size+1,0,none⟩ (.int .i64 0)).frozen? ⟨w.heap.size+1,1,none⟩=false:=by rw [← hwd];simp [World.frozen?,fd1]
 have hla:w.heap.size+1+1 < wa.heap.size:=(Array.getElem?_eq_some_iff.1 f2).1
 have g0:wb.heap[w.heap.size]?=some (.cells xs 27 (0,0)):=by
   rw [cb.block _ (by omega) (by omega),cd.block _ (by omega) (by omega)];exact f0
 have g1:wb.heap[w.heap.size+1]?=some (.cells #[.int .i64 0,.int .i64 0] 53 (0,0)):=by
   rw [hwb,s1];exact setRow_heap wd _ _ _ _ _ fd1
 have g2:wb.heap[w.heap.size+1+1]?=some (.cells #[.bool false] 4 (0,0)):=by
   rw [cb.block _ (by have:=cd.size;omega) (by omega),cd.block _ (by omega) (by omega)];exact f2
 have c2:((wa.setCell ⟨w.heap.size+1,0,none⟩ (.int .i64 0)).setCell ⟨w.heap.size+1,1,none⟩ (.int .i64 0)).cell? ⟨w.heap.size+1+1,0,none⟩=some (.bool false):=by rw [← hwd,← hwb];simp [World.cell?,g2]
 have z2:((wa.setCell ⟨w.heap.size+1,0,none⟩ (.int .i64 0)).setCell ⟨w.heap.size+1,1,none⟩ (.int .i64 0)).frozen? ⟨w.heap.size+1+1,0,none⟩=false:=by rw [← hwd,← hwb];simp [World.frozen?,g2]
 have hsz:(Tryz.prog.info? 27).map (·.size)=some xs.size:=by rw [hx];kernel_rfl
 have E0:=Lib.hid e0
 have HS:=Lib.hid hsz
 have HX:=Lib.hid hx
 have HO:=Lib.hid hone
 have HWA:=Lib.hid hwa
 have HWB:=Lib.hid hwb
 have HWD:=Lib.hid hwd
 have CD:=Lib.hid cd
 have G0:=Lib.hid g0
 have G1:=Lib.hid g1
 have G2:=Lib.hid g2
 have CA:=Lib.hid ca
 have CB:=Lib.hid cb
 have HL:=Lib.hid (And.intro hl2 hla)
 clear e0 e1 e2 f0 f1 f2 g0 g1 g2 hsz hx hone hwa hwb hwd s0 s1 fd1 hld ca cb cd k0 k1 k2 hl2 hla
 go_wp2_with (refine wpList_store_row rfl 27 _ _ rfl w.heap.size xs rfl rfl 27 _ E0.out HS.out (by rw [HX.out];rfl) HO.out ?_;rw [← HWA.out])
 rw [← HWD.out,← HWB.out]
 have s2:wb.setCell ⟨w.heap.size+1+1,0,none⟩ (.bool true)=wb.setRow (w.heap.size+1+1) #[.bool true]:=setCell_eq_setRow wb _ 0 _ _ _ _ G2.out
 have cc:=GV wb (w.heap.size+1+1) #[.bool true]
 have h2:=setRow_heap wb (w.heap.size+1+1) _ #[.bool true] _ _ G2.out
 rw [s2]
 generalize wb.setRow (w.heap.size+1+1) #[.bool true]=wc at cc h2
 have hl:=HL.out
 have hlb:=CB.out.size
 have hld:=CD.out.size
 have h0:wc.heap[w.heap.size]?=some (.cells xs 27 (0,0)):=by rw [cc.block _ (by omega) (by omega)];exact G0.out
 have h1:wc.heap[w.heap.size+1]?=some (.cells #[.int .i64 0,.int .i64 0] 53 (0,0)):=by rw [cc.block _ (by omega) (by omega)];exact G1.out
 refine leaves_cons (f:=68) (args:=#[.pointer (some ⟨w.heap.size,0,none⟩),.pointer (some ⟨w.heap.size+1,0,none⟩),.pointer (some ⟨w.heap.size+1+1,0,none⟩)]) (by simp) (by simp [go_sem]) ?_
 refine (Uu _ _ _ _).mono ?_
 rintro e u' w2 ⟨rfl,rfl,rfl⟩
 show Leaves _ _ _ _ [] .returning _
 have l0:=run_loadVar_row (P:=Tryz.prog) w2 w.heap.size _ 27 xs _ _ h0 Tryz.underlying27 rfl HS.out
 have l1:=run_loadVar_row (P:=Tryz.prog) w2 (w.heap.size+1) _ 53 #[.int .i64 0,.int .i64 0] _ _ h1 Tryz.underlying53 rfl (by kernel_rfl)
 have l2:w2.cell? ⟨w.heap.size+1+1,0,none⟩=some (.bool true):=by simp [World.cell?,h2]
 refine ⟨.tuple #[.agg xs,.agg #[.int .i64 0,.int .i64 0],.bool true],?_,xs,w1,HB.out,rfl,?_⟩
 · have l3:(loadVar 4 ⟨w.heap.size+1+1,0,none⟩).run Tryz.prog w2=.ok (.bool true) w2:=by simp [go_sem,l2]
   rw [OP,Tryz.results44]
   simp [Xp,asAddr,Sem.run_bind,l0,l1,l3]
 · have hk:∀ k,w1.heap.size > k→¬ RC w (Ii w) k→k≠w.heap.size∧k≠w.heap.size+1∧k≠w.heap.size+1+1:=by
     intro k _ hn
     have hs:(Ii w).heap.size=w.heap.size+1+1+1:=by unfold Ii;simp
     refine ⟨fun e=>hn ?_,fun e=>hn ?_,fun e=>hn ?_⟩<;>subst e<;>refine ⟨?_,?_⟩<;>omega
   have ca:=CA.out
   have cd:=CD.out
   have cb:=CB.out
   refine ⟨cc.os.trans (cb.os.trans (cd.os.trans ca.os)),cc.tape.trans (cb.tape.trans (cd.tape.trans ca.tape)),cc.output.trans (cb.output.trans (cd.output.trans ca.output)),Nat.le_trans ca.size (Nat.le_trans hld (Nat.le_trans hlb cc.size)),fun k hk1 hk2=>?_⟩
   obtain ⟨n0,n1,n2⟩:=hk k hk1 hk2
   rw [cc.block k (by have:=ca.size;omega) n2,cb.block k (by have:=ca.size;omega) n1,cd.block k (by have:=ca.size;omega) n1,ca.block k hk1 n0]
def Z9:CR→Option CR
 | .ret (.agg cs)=>(match Nat.beq cs.length 11 with
   | true=>(match cs.all one with
     | true=>some (.ret (.Bq [.agg cs,.agg [.sc (.int .i64 0),.sc (.int .i64 0)],.sc (.bool true)]))
     | false=>none)
   | false=>none)
 | _=>none
theorem QV {G:AJ} {g:FuncId} (hg:It Tryz.prog g=true) {first caps:List AV} {s s':AS} {r r':CR} (h:Sound Tryz.prog G (.call g (first++[]++caps) s r s')) (hk:Z9 r=some r'):Sound Tryz.prog G (.call 44 [.fn (.func g) first caps] s r' s'):=by
 unfold Z9 at hk
 split at hk
 · rename_i cs
   split at hk
   · rename_i hn
     split at hk
     · rename_i ho
       cases hk
       intro cx w vs hs ha
       cases ha with
       | cons h1 t =>
       cases t
       cases h1 with
       | fn hf hc =>
       rename_i us vs
       have k:Na w (Ii w) (fun _=>False):=by
         have k1:=KB w (.cells #[.int .i64 0,.string ⟨#[]⟩,.string ⟨#[]⟩,.int .i64 0,.int .i64 0,.int .i64 0,.int .i64 0,.int .i64 0,.slice none 0 0,.slice none 0 0,.int .i64 0] 27)
         exact ⟨rfl,rfl,rfl,by unfold Ii;simp;omega,fun q hq _=>by unfold Ii;rw [heap_alloc_old _ _ (by simp;omega),heap_alloc_old _ _ (by simp;omega),heap_alloc_old _ _ hq]⟩
       have hsv:=cK hs k
       have hm:=O2 (cx:=cx) k
       have hC:=h (cx.S7 w (Ii w)) (Ii w) (us++vs) hsv (by simpa using (hf.CG hm).append (hc.CG hm))
       have e1:(us++vs).toArray=us.toArray++vs.toArray:=by simp
       rw [e1] at hC
       refine (ZA g hg us.toArray vs.toArray w (fun xs w'=>∃ c',Ext (cx.S7 w (Ii w)) (Ii w) c' w'∧St G c' w' s'∧BC c' w' cs xs.toList) ?_ (hC.mono ?_)).mono ?_
       · rintro xs w' ⟨c',hx,_,hr⟩
         have hl:=hr.len
         have hsz:(Ii w).heap.size=w.heap.size+1+1+1:=by unfold Ii;simp
         refine ⟨⟨by have:=Nat.eq_of_beq_eq_true hn;rw [← Array.length_toList];omega,?_⟩,Nb hs hx ⟨by omega,by omega⟩,Nb hs hx ⟨by omega,by omega⟩,Nb hs hx ⟨by omega,by omega⟩⟩
         rw [Array.all_eq_true_iff_forall_mem]
         intro v hv
         exact RA hr ho v (by simpa using hv)
       · rintro e w' ⟨c',hx,hs',u,rfl,hu⟩
         cases hu with
         | agg hr=>exact ⟨_,rfl,c',hx,hs',by simpa using hr⟩
       · rintro e w2 ⟨xs,w',⟨c',hx,hs',hr⟩,rfl,k2⟩
         have m2:=Ll hx k2
         refine ⟨c'.Pf cx,T7 hs k hx k2,WT hs hx hs' k2,_,rfl,?_⟩
         have hr2:=hr.CG m2
         have ha:Rp (c'.Pf cx) w2 (.agg cs) (.agg xs):=by
           have:=Rp.agg hr2
           simpa using this
         exact .Bq (vs:=[.agg xs,.agg #[.int .i64 0,.int .i64 0],.bool true]) (.cons ha (.cons (.agg (vs:=[.int .i64 0,.int .i64 0]) (.cons (.sc rfl) (.cons (.sc rfl) .nil))) (.cons (.sc rfl) .nil)))
     · cases hk
   · cases hk
 · cases hk
end Go.Proofs.YtkfplcngmiljaaaGreatDoor
namespace AI
open Go
section
variable {α γ δ ρ:Type}
def allI (p:Nat→α→Bool):List α→Nat→Bool
 | [],_=>true
 | y::l,i=>p i y&&allI p l (i+1)
theorem SK {body:Nat→α→Unit→Option (Lp Unit δ ρ)} {done:Unit→δ} {p:Nat→α→Bool} {v:ρ}:∀ {l:List α} {i:Nat},(∀ k y,l[k]?=some y→body (i+k) y ()=some (if p (i+k) y then .nx () else .rt v))→AT body done l i ()=some (if allI p l i then .inl (done ()) else .inr v)
 | [],i,_=>rfl
 | y::l,i,h=>by
   have h0:=h 0 y rfl
   rw [Nat.add_zero] at h0
   rw [AT,h0,allI]
   cases p i y with
   | false=>simp [GH]
   | true =>
     have:=SK (body:=body) (done:=done) (p:=p) (v:=v) (l:=l) (i:=i+1) fun k z hz=>by
       have:=h (k+1) z (by simpa using hz)
       rwa [show i+(k+1)=i+1+k by omega] at this
     simpa [GH] using this
theorem Fa {β:Type} {n:Nat} {x:Option β} (h:n≤9223372036854775807):Gv n x=x:=by unfold Gv;rw [if_pos h]
theorem U3 {β:Type} {n:Nat} {x:Option β} (h:n≤100000000):My n x=x:=by unfold My;rw [if_pos h]
end
end AI
namespace AI
open Go
noncomputable def mb (p:Prop):Bool:=@decide p (Classical.propDecidable _)
theorem Bj {p:Prop}:mb p=true↔p:=by unfold mb;exact @decide_eq_true_iff p (_)
theorem FI {p q:Prop} (h:p↔q):mb p=mb q:=by rw [propext h]
noncomputable def AO {β:Type} (p:Prop) (x y:β):β:=@ite β p (Classical.propDecidable _) x y
theorem Ag {β:Type} {p:Prop} {x y:β} (h:p):AO p x y=x:=@if_pos p (_) h _ _ _
theorem Af {β:Type} {p:Prop} {x y:β} (h:¬ p):AO p x y=y:=@if_neg p (_) h _ _ _
section
variable {β:Type} {x y:β}
theorem uP (a b:Int):cond (Br a b) x y=AO (a=b) x y:=by
 by_cases h:a=b
 · have:Br a b=true:=by rw [JU];simpa using h
   rw [Ag h,this];rfl
 · have:Br a b=false:=by rw [JU];simpa using h
   rw [Af h,this];rfl
theorem rW (a b:ByteArray):cond (BL a.data.toList b.data.toList) x y=AO (a=b) x y:=by
 by_cases h:a=b
 · have:BL a.data.toList b.data.toList=true:=by rw [Pz,h];simp
   rw [Ag h,this];rfl
 · have:BL a.data.toList b.data.toList=false:=by
     rw [Pz]
     apply beq_false_of_ne
     exact fun e=>h (ByteArray.ext (Array.ext' e))
   rw [Af h,this];rfl
theorem Bs (p:Prop):cond (mb p) x y=AO p x y:=by
 by_cases h:p
 · rw [Ag h,Bj.2 h];rfl
 · rw [Af h]
   have:mb p=false:=by
     cases hm:mb p
     · rfl
     · exact absurd (Bj.1 hm) h
   rw [this];rfl
theorem r6 (b:Bool):cond b x y=AO (b=true) x y:=by cases b<;>simp [AO]
end
section
variable {p q r:Prop}
theorem F9:AO p (some true) (some false)=some (mb p):=by
 by_cases h:p
 · rw [Ag h,Bj.2 h]
 · rw [Af h];congr 1;cases hm:mb p;rfl;exact absurd (Bj.1 hm) h
theorem pI:true=mb True:=(Bj.2 trivial).symm
theorem yZ:false=mb False:=by cases h:mb False;rfl;exact (Bj.1 h).elim
theorem tD:AO p (some false) (some true)=some (mb ¬ p):=by
 by_cases h:p
 · rw [Ag h];congr 1;rw [Bool.eq_iff_iff,Bj];simp [h]
 · rw [Af h];congr 1;rw [Bool.eq_iff_iff,Bj];simp [h]
theorem D6:AO p (some (mb q)) (some false)=some (mb (p∧q)):=by
 by_cases h:p
 · rw [Ag h];congr 1;rw [Bool.eq_iff_iff,Bj,Bj];simp [h]
 · rw [Af h];congr 1;rw [Bool.eq_iff_iff,Bj];simp [h]
theorem dS:AO p (some false) (some (mb q))=some (mb (¬ p∧q)):=by
 by_cases h:p
 · rw [Ag h];congr 1;rw [Bool.eq_iff_iff,Bj];simp [h]
 · rw [Af h];congr 1;rw [Bool.eq_iff_iff,Bj,Bj];simp [h]
theorem cX:AO p (some true) (some (mb q))=some (mb (p∨q)):=by
 by_cases h:p
 · rw [Ag h];congr 1;rw [Bool.eq_iff_iff,Bj];simp [h]
 · rw [Af h];congr 1;rw [Bool.eq_iff_iff,Bj,Bj];simp [h]
theorem dJ:AO p (some (mb q)) (some (mb r))=some (mb ((p→q)∧(¬ p→r))):=by
 by_cases h:p
 · rw [Ag h];congr 1;rw [Bool.eq_iff_iff,Bj,Bj];simp [h]
 · rw [Af h];congr 1;rw [Bool.eq_iff_iff,Bj,Bj];simp [h]
theorem JW {β:Type} {x:β}:AO p x x=x:=by
 by_cases h:p
 · exact Ag h
 · exact Af h
noncomputable def ck {δ ρ:Type} (v:ρ) (p:Prop):Lp Unit δ ρ:=AO p (.nx ()) (.rt v)
variable {δ ρ:Type} {v:ρ}
theorem R3:AO p (some (.nx ())) (some (.rt v))=some (ck (δ:=δ) v p):=by
 unfold ck;by_cases h:p
 · rw [Ag h,Ag h]
 · rw [Af h,Af h]
theorem TR:AO p (some (.rt v)) (some (.nx ()))=some (ck (δ:=δ) v ¬ p):=by
 unfold ck;by_cases h:p
 · rw [Ag h,Af (by simp [h])]
 · rw [Af h,Ag h]
theorem X0:AO p (some (ck (δ:=δ) v q)) (some (.rt v))=some (ck v (p∧q)):=by
 unfold ck;by_cases h:p
 · rw [Ag h];simp [h]
 · rw [Af h,Af (by simp [h])]
theorem W6:AO p (some (.rt v)) (some (ck (δ:=δ) v q))=some (ck v (¬ p∧q)):=by
 unfold ck;by_cases h:p
 · rw [Ag h,Af (by simp [h])]
 · rw [Af h];simp [h]
theorem lO:AO p (some (ck (δ:=δ) v q)) (some (.nx ()))=some (ck v (p→q)):=by
 unfold ck;by_cases h:p
 · rw [Ag h];simp [h]
 · rw [Af h,Ag (by simp [h])]
theorem tT:AO p (some (.nx ())) (some (ck (δ:=δ) v q))=some (ck v (p∨q)):=by
 unfold ck;by_cases h:p
 · rw [Ag h,Ag (by simp [h])]
 · rw [Af h];simp [h]
theorem u6:AO p (some (ck (δ:=δ) v q)) (some (ck v r))=some (ck v ((p→q)∧(¬ p→r))):=by
 unfold ck;by_cases h:p
 · rw [Ag h];simp [h]
 · rw [Af h];simp [h]
theorem GR {α β:Type} {l:List α} {body:Nat→α→Unit→Option (Lp Unit Unit ρ)} {P:Nat→α→Prop} {k:Unit→Option β} {kr:ρ→Option β} (hl:l.length≤9223372036854775807) (hb:∀ i y,l[i]?=some y→body i y ()=some (ck v (P i y))):(Gv l.length (AT body (fun _=>()) (l.drop 0) 0 ())).bind (GF k kr)=AO (∀ i y,l[i]?=some y→P i y) (k ()) (kr v):=by
 rw [Fa hl,List.drop_zero]
 have h1:∀ k y,l[k]?=some y→body (0+k) y ()=some (if mb (P (0+k) y) then .nx () else .rt v):=fun k y hy=>by
   rw [Nat.zero_add,hb k y hy]
   unfold ck
   by_cases h:P k y
   · rw [Ag h,if_pos (Bj.2 h)]
   · rw [Af h,if_neg (fun e=>h (Bj.1 e))]
 rw [SK (p:=fun i y=>mb (P i y)) (v:=v) h1]
 have h2:∀ (l:List α) (i:Nat),allI (fun i y=>mb (P i y)) l i=true↔∀ k y,l[k]?=some y→P (i+k) y:=by
   intro l
   induction l with
   | nil=>intro i;simp [allI]
   | cons a l ih =>
     intro i
     rw [allI,Bool.and_eq_true,Bj,ih]
     constructor
     · rintro ⟨h1,h2⟩ k y hk
       cases k with
       | zero=>simp at hk;subst hk;exact h1
       | succ k=>rw [show i+(k+1)=i+1+k by omega];exact h2 k y (by simpa using hk)
     · intro h
       refine ⟨h 0 a rfl,fun k y hk=>?_⟩
       rw [show i+1+k=i+(k+1) by omega]
       exact h (k+1) y (by simpa using hk)
 have h3:=h2 l 0
 simp only [Nat.zero_add] at h3
 by_cases h:∀ i y,l[i]?=some y→P i y
 · rw [Ag h,h3.2 h];rfl
 · rw [Af h]
   have:allI (fun i y=>mb (P i y)) l 0=false:=by
     cases ha:allI (fun i y=>mb (P i y)) l 0
     · rfl
     · exact absurd (h3.1 ha) h
   rw [this];rfl
end
end AI
namespace AI
open Go
def Sp {β:Type} (o:Option β) (Q:β→Prop):Prop:=∃ r,o=some r∧Q r
section
variable {α β γ δ ρ κ:Type} {Q:β→Prop}
theorem MB {r:β}:Sp (some r) Q=Q r:=propext ⟨fun ⟨_,h,k⟩=>by cases h;exact k,fun h=>⟨_,rfl,h⟩⟩
theorem Vy {o:Option κ} {k:κ→Option β}:Sp (o.bind k) Q=Sp o (fun y=>Sp (k y) Q):=propext ⟨fun ⟨r,h,hq⟩=>by
 obtain ⟨y,h1,h2⟩:=Xa h
 exact ⟨y,h1,r,h2,hq⟩,fun ⟨y,h1,r,h2,hq⟩=>⟨r,by rw [h1];exact h2,hq⟩⟩
theorem Sp.mono {Q':β→Prop} {o:Option β} (h:Sp o Q) (k:∀ r,Q r→Q' r):Sp o Q':=h.elim fun r h=>⟨r,h.1,k r h.2⟩
theorem Xx {o:Option β} {r:β}:(o=some r)=Sp o (fun x=>x=r):=propext ⟨fun h=>⟨r,h,rfl⟩,fun ⟨_,h,k⟩=>by rw [h,k]⟩
theorem T9 {p:Prop} {x y:Option β}:Sp (AO p x y) Q=((p→Sp x Q)∧(¬ p→Sp y Q)):=propext (by
 by_cases h:p
 · rw [Ag h];exact ⟨fun a=>⟨fun _=>a,fun n=>absurd h n⟩,fun a=>a.1 h⟩
 · rw [Af h];exact ⟨fun a=>⟨fun n=>absurd n h,fun _=>a⟩,fun a=>a.2 h⟩)
theorem FD (a b:Int):K2 a b=mb (a≤b):=by rw [Yu,Bool.eq_iff_iff,Bj,decide_eq_true_iff]
theorem Ej (a b:Int):FV a b=mb (a < b):=by rw [Kp,Bool.eq_iff_iff,Bj,decide_eq_true_iff]
theorem Bk (a b:Int):Br a b=mb (a=b):=by rw [JU,Bool.eq_iff_iff,Bj,beq_iff_eq]
theorem Cn (a b:ByteArray):BL a.data.toList b.data.toList=mb (a=b):=by
 rw [Pz,Bool.eq_iff_iff,Bj,beq_iff_eq]
 exact ⟨fun h=>ByteArray.ext (Array.ext' h),fun h=>by rw [h]⟩
theorem FY {p:Prop}:(mb p=true)=p:=propext Bj
theorem NH {p:Prop}:(mb p=false)=¬ p:=by rw [← Bool.not_eq_true,FY]
theorem PN {p:Prop}:(true=mb p)=p:=by rw [@eq_comm _ true,FY]
theorem NR {p:Prop}:(false=mb p)=¬ p:=by rw [@eq_comm _ false,NH]
theorem JN {p q:Prop} (h:p↔q):some (mb p)=some (mb q):=by rw [FI h]
theorem GK {p:Prop} (h:¬ p):some false=some (mb p):=congrArg some (by rw [NR];exact h)
theorem qD {p:Prop} (h:p):some true=some (mb p):=congrArg some (by rw [PN];exact h)
theorem fJ {l:List α} {body:Nat→α→γ→Option (Lp γ δ ρ)} {done:γ→δ} {k:δ→Option β} {kr:ρ→Option β} {x0:γ} (I:Nat→γ→Prop) (hl:l.length≤9223372036854775807) (h0:I 0 x0)
   (hb:∀ i y x,l[i]?=some y→I i x→Sp (body i y x) (RQ (I (i+1)) (fun d=>Sp (k d) Q) (fun v=>Sp (kr v) Q)))
   (hz:∀ x,I l.length x→Sp (k (done x)) Q):Sp ((Gv l.length (AT body done (l.drop 0) 0 x0)).bind (GF k kr)) Q:=by
 rw [Fa hl,List.drop_zero]
 have key:∀ (m:List α) (i:Nat) (x:γ),l.drop i=m→i≤l.length→I i x→Sp ((AT body done m i x).bind (GF k kr)) Q:=by
   intro m
   induction m with
   | nil =>
     intro i x hd hle hi
     have h1:=List.drop_eq_nil_iff.1 hd
     have:i=l.length:=by omega
     subst this
     exact hz x hi
   | cons y m ih =>
     intro i x hd hle hi
     have hlt:i < l.length:=by
       rcases Nat.lt_or_ge i l.length with h1 | h1
       · exact h1
       · rw [List.drop_eq_nil_of_le h1] at hd;cases hd
     have hy:l[i]?=some y:=by rw [← List.head?_drop,hd];rfl
     have hd2:l.drop (i+1)=m:=by rw [← List.tail_drop,hd];rfl
     obtain ⟨r,hr,hq⟩:=hb i y x hy hi
     rw [AT,hr]
     cases r with
     | nx x'=>exact ih (i+1) x' hd2 hlt hq
     | ex d=>exact hq
     | rt v=>exact hq
 exact key l 0 x0 rfl (Nat.zero_le _) h0
theorem tO {Qn:γ→Prop} {Qx:δ→Prop} {Qr:ρ→Prop} {x:γ}:RQ Qn Qx Qr (.nx x)=Qn x:=rfl
theorem tB {Qn:γ→Prop} {Qx:δ→Prop} {Qr:ρ→Prop} {x:δ}:RQ Qn Qx Qr (.ex x)=Qx x:=rfl
theorem oJ {n:Nat} {body:Nat→γ→Option (Lp γ δ ρ)} {done:γ→δ} {k:δ→Option β} {kr:ρ→Option β} {x0:γ} (I:Nat→γ→Prop) (hl:n≤9223372036854775807) (h0:I 0 x0)
   (hb:∀ i x,i < n→I i x→Sp (body i x) (RQ (I (i+1)) (fun d=>Sp (k d) Q) (fun v=>Sp (kr v) Q)))
   (hz:∀ x,I n x→Sp (k (done x)) Q):Sp ((Gv n (Re body done n 0 x0)).bind (GF k kr)) Q:=by
 rw [Fa hl]
 have key:∀ (d i:Nat) (x:γ),i+d=n→I i x→Sp ((Re body done d i x).bind (GF k kr)) Q:=by
   intro d
   induction d with
   | zero =>
     intro i x hd hi
     have:i=n:=by omega
     subst this
     exact hz x hi
   | succ d ih =>
     intro i x hd hi
     obtain ⟨r,hr,hq⟩:=hb i x (by omega) hi
     rw [Re,hr]
     cases r with
     | nx x'=>exact ih (i+1) x' (by omega) hq
     | ex d=>exact hq
     | rt v=>exact hq
 exact key n 0 x0 (by omega) h0
end
theorem LW {n:Int} (h:-9223372036854775808≤n∧n≤9223372036854775807):KK .i64 n=n:=by
 rw [Mk]
 exact IntWalk.i64_in n (by omega)
theorem C0 {a b:Int} (h:-9223372036854775808≤a+b∧a+b≤9223372036854775807):BK a b=a+b:=by
 unfold BK
 rw [RT,LW h]
theorem Mg {a b:Int} (h:-9223372036854775808≤a - b∧a - b≤9223372036854775807):RB a b=a - b:=by
 unfold RB
 rw [VH,LW h]
theorem Va {a b:Int} (h:-9223372036854775808≤a*b∧a*b≤9223372036854775807):P5 a b=a*b:=by
 unfold P5
 rw [LW h]
end AI
namespace Go.Proofs.YtkfplcngmiljaaaGreatDoor
open AI Go
namespace Mo
set_option maxRecDepth 100000
set_option maxHeartbeats 4000000
noncomputable def u5:Code:=A4 Tryz.f40
theorem b40:Tryz.f40.body=some u5:=by kernel_rfl
noncomputable def C7 (DV:Nd→Int→Option Int) (limit:Int) (i0:Nat) (e0:Nd) (out5:Int):Option (Lp Int Int Int):=cond (FV out5 limit) ((DV e0 (RB limit out5)).bind fun y1=>some (.nx (BK out5 y1))) (some (.ex out5))
noncomputable def DU (DV:Nd→Int→Option Int) (n:Nd) (limit:Int):Option Int:=cond (K2 limit 0) (some 0) ((Gv n.kids.length (AT (fun i y x=>C7 DV limit i y x) (fun x=>x) (n.kids.drop 0) 0 1)).bind (GF (fun (out5_2:Int)=>some out5_2) (fun v=>some v)))
theorem Ng (DV:Nd→Int→Option Int) (OM:∀ {n:Nd} {limit:Int} {yR:Int},DV n limit=some yR→Pure P G 40 [.agg (A9 n),.sc (.int .i64 limit)] (.sc (.int .i64 yR))) {n:Nd} {limit:Int} {yR:Int} (h:DU DV n limit=some yR):Pure P G 40 [.agg (A9 n),.sc (.int .i64 limit)] (.sc (.int .i64 yR)):=by
 unfold DU at h
 refine BH Hd.mixed Hd.Ac (AG Tryz.func40 b40 ?_) (Bl (Am.F1 n) (Bl rfl rfl)) rfl
 revert h
 refine Ae (fun hb1=>?_) fun hb1=>?_
 rintro ⟨⟩
 exact rS (Aa 300 [pb hb1]) (by kernel_rfl)
 refine DJ (fun Q v=>DI P Tryz.f40 0 Q (.sc (.int .i64 v))) (fun i0 (out5:Int) (j0:List Value)=>fr 33 [(1,.sc (.int .i64 limit)),(2,.ptr 0 0),(5,.sc (.int .i64 out5)),(6,.sc (.int .i64 ((i0:Nat):Int)))] [8,13,14,17,18] j0) (fun (out5:Int)=>⟨[(0,.cells (A9 n))],1,[],0⟩) (fun (out5:Int) (jx:List Value)=>fr 33 [(5,.sc (.int .i64 out5))] [8,13,14,17,18] jx) (fun (out5:Int)=>⟨[(0,.cells (A9 n))],1,[],0⟩) [.bool false] (DG [] 0 (sb u5 244) [.code (sb u5 31)] (Aa 300 [pb hb1]) (by kernel_rfl)) ?_ ?_ ?_ (fun v h=>by cases h;exact .outer .body)
 rintro i0 out5 j0 hge hq
 exact BV (Aa 300 [pb (II hge)]) (by kernel_rfl) (hq [(jv j0 0),.bool false,.bool false,undef,.bool false])
 rintro i0 e0 out5 j0 r he0 hi0 mi0 k
 show C7 DV limit i0 e0 out5=some r→_
 unfold C7
 refine Ae (fun hb2=>?_) fun hb2=>?_
 refine Aj fun y1 hy1=>?_
 rintro ⟨⟩
 exact C9 (Aa 300 [pb (F5 hi0),pb hb2,CL (Bu .lost he0),pk,Ak (OM hy1),pk,pi mi0]) (by kernel_rfl) (k [(jv j0 0),.bool true,.bool true,.bool true,.bool true])
 rintro ⟨⟩
 exact BV (Aa 300 [pb (F5 hi0),pb hb2]) (by kernel_rfl) (k [(jv j0 0),.bool true,.bool true,.bool false,.bool false])
 rintro out5_2 jx_2
 intro h
 have hE:=Option.some.inj h
 subst hE
 exact AA _ _ (BU 300 []) (by kernel_rfl) .body .sc
noncomputable def Bt:Nat→Nd→Int→Option Int
 | 0,_,_=>none
 | qn+1,n,limit=>DU (Bt qn) n limit
theorem N2:∀ qn:Nat,∀ {n:Nd} {limit:Int} {yR:Int},Bt qn n limit=some yR→Pure P G 40 [.agg (A9 n),.sc (.int .i64 limit)] (.sc (.int .i64 yR)):=by
 intro qn
 induction qn with
 | zero=>exact (fun h=>by simp only [Bt] at h;cases h)
 | succ qn ih=>exact (fun h=>Ng (Bt qn) ih (by rw [Bt] at h;exact h))
noncomputable def GZ (n:Nd) (limit:Int):Option Int:=V8 (fun qn=>Bt qn n limit)
theorem Kt {n:Nd} {limit:Int} {yR:Int} (h:GZ n limit=some yR):Pure P G 40 [.agg (A9 n),.sc (.int .i64 limit)] (.sc (.int .i64 yR)):=by
 obtain ⟨qn,h⟩:=Tu h
 exact (N2 qn) h
noncomputable def B23:Code:=A4 Tryz.f23
theorem b23:Tryz.f23.body=some B23:=by kernel_rfl
noncomputable def DQ  (n:Nd) (limit:Int):Option Bool:=(GZ n (BK limit 1)).bind fun y1=>cond (K2 y1 limit) (some true) (some false)
theorem E8   {n:Nd} {limit:Int} {yR:Bool} (h:DQ  n limit=some yR):Pure P G 23 [.agg (A9 n),.sc (.int .i64 limit)] (.sc (.bool yR)):=by
 unfold DQ at h
 refine BH Hd.mixed Hd.Ac (AG Tryz.func23 b23 ?_) (Bl (Am.F1 n) (Bl rfl rfl)) rfl
 revert h
 refine Aj fun y1 hy1=>?_
 refine Ae (fun hb1=>?_) fun hb1=>?_
 rintro ⟨⟩
 exact rS (Aa 300 [pk,Ak (Kt hy1),pb hb1]) (by kernel_rfl)
 rintro ⟨⟩
 exact rS (Aa 300 [pk,Ak (Kt hy1),pb hb1]) (by kernel_rfl)
noncomputable def B12:Code:=A4 Tryz.f12
theorem b12:Tryz.f12.body=some B12:=by kernel_rfl
noncomputable def He  (a:Nd) (b:Nd):Option Bool:=(DQ a 400).bind fun y1=>cond y1 ((DQ b 400).bind fun y2=>some y2) (some false)
theorem Pa   {a:Nd} {b:Nd} {yR:Bool} (h:He  a b=some yR):Pure P G 12 [.agg (A9 a),.agg (A9 b)] (.sc (.bool yR)):=by
 unfold He at h
 refine BH Hd.mixed Hd.Ac (AG Tryz.func12 b12 ?_) (Bl (Am.F1 a) (Bl (Am.F1 b) rfl)) rfl
 revert h
 refine Aj fun y1 hy1=>?_
 refine Ae (fun hv=>?_) fun hv=>?_
 subst hv
 refine Aj fun y2 hy2=>?_
 intro h
 have hE:=Option.some.inj h
 subst hE
 exact rS (Aa 300 [Ak (E8 hy1),Ak (E8 hy2)]) (by kernel_rfl)
 subst hv
 rintro ⟨⟩
 exact rS (Aa 300 [Ak (E8 hy1)]) (by kernel_rfl)
noncomputable def B50:Code:=A4 Tryz.f50
theorem b50:Tryz.f50.body=some B50:=by kernel_rfl
noncomputable def Bf  (c:Ck) (n:Nd) (depth:Int):Option (Bool×Int):=cond (K2 (BK c.nodes 1) 2000) ((some (K2 depth 40)).bind fun q1=>some (q1,(BK c.nodes 1))) (some (false,(BK c.nodes 1)))
theorem CW {c:Ck} {n:Nd} {depth:Int} {yR:Bool} {qc_nodesR:Int} (hS:Sound P G (.call 50 [.ptr 0 0,.agg (A9 n),.sc (.int .i64 depth)] ⟨[(0,.cells (EQ c))],1,[],0⟩ (.ret (.sc (.bool yR))) ⟨[(0,.cells [.sc (.int .i64 qc_nodesR)])],1,[],0⟩)) (u0:Nat) (hnb:[u0].Nodup:=by decide) (hnt:([]:List Nat).Nodup:=by decide):Cd.ok P G (.callU 50 [.ptr u0 0,.agg (A9 n),.sc (.int .i64 depth)] (.ret (.sc (.bool yR))) [(u0,.cells (EQ c))] [] [(u0,.cells [.sc (.int .i64 qc_nodesR)])] []) :=
 ER (M:=[.cells (EQ c)]) (M2:=[.cells [.sc (.int .i64 qc_nodesR)]]) (T:=[]) (T2:=[]) (k:=1) (j:=0) Hd.Ac _ _ _ _ hS rfl rfl rfl rfl rfl hnb hnt rfl rfl (.cons (.cells (.pl (J8.pl c))) .nil) (.cons (.cells (.pl (Bl rfl rfl))) .nil) (.cons (.ptr (by decide)) (.cons (.pl (Am.F1 n)) (.cons (.pl rfl) .nil))) (.pl rfl) (fun e he=>by simp only [List.mem_singleton] at he;subst he;exact (.arg (.here .ptr)))
theorem Cl   {c:Ck} {n:Nd} {depth:Int} {yR:Bool} {qc_nodesR:Int} (h:Bf  c n depth=some (yR,qc_nodesR)):Sound P G (.call 50 [.ptr 0 0,.agg (A9 n),.sc (.int .i64 depth)] ⟨[(0,.cells (EQ c))],1,[],0⟩ (.ret (.sc (.bool yR))) ⟨[(0,.cells [.sc (.int .i64 qc_nodesR)])],1,[],0⟩):=by
 unfold Bf at h
 refine E4 Hd.mixed (AG Tryz.func50 b50 ?_)
 revert h
 refine Ae (fun hb1=>?_) fun hb1=>?_
 refine Aj fun q1 hq1=>?_
 intro h
 have hE:=Option.some.inj h
 obtain ⟨hE0,hF0⟩:=Prod.mk.inj hE
 subst hE0 hF0
 exact Aq Hd.Ac _ _ [] [none] (Aa 300 [pk,pb hb1,K1 (sW hq1 (.tmp 20) (.const (.int .i64 40)))]) (by kernel_rfl) .body
 intro h
 have hE:=Option.some.inj h
 obtain ⟨hE0,hF0⟩:=Prod.mk.inj hE
 subst hE0 hF0
 exact Aq Hd.Ac _ _ [] [none] (Aa 300 [pk,pb hb1]) (by kernel_rfl) .body
noncomputable def xE:Code:=A4 Tryz.f82
theorem b82:Tryz.f82.body=some xE:=by kernel_rfl
noncomputable def G5  (s2:(List Pc)) (i0:Nat) (e0:Pc) :Option (Lp Unit Unit Bool):=(s2[i0]?).bind fun x1=>cond (Nh e0 x1) (some (.nx ())) (some (.rt false))
noncomputable def Gz  (s1:(List Pc)) (s2:(List Pc)):Option Bool:=cond (Br ((s1.length:Nat):Int) ((s2.length:Nat):Int)) ((Gv s1.length (AT (fun i y x=>G5  s2 i y ) (fun x=>()) (s1.drop 0) 0 ())).bind (GF (fun (_:Unit)=>some true) (fun v=>some v))) (some false)
theorem N4   {s1:(List Pc)} {s2:(List Pc)} {yR:Bool} (h:Gz  s1 s2=some yR):Pure P G 82 [.sl .lost s1.length (rows FF s1),.sl .lost s2.length (rows FF s2)] (.sc (.bool yR)):=by
 unfold Gz at h
 refine BH Hd.mixed Hd.Ac (AG Tryz.func82 b82 ?_) (Bl (Mb.EL s1) (Bl (Mb.EL s2) rfl)) rfl
 revert h
 refine Ae (fun hb1=>?_) fun hb1=>?_
 refine DJ (fun Q v=>DI P Tryz.f82 0 Q (.sc (.bool v))) (fun i0 (_:Unit) (j0:List Value)=>fr 26 [(0,.sl .lost s1.length (rows FF s1)),(1,.sl .lost s2.length (rows FF s2)),(12,.sc (.int .i64 ((s1.length:Nat):Int))),(13,.sc (.int .i64 ((i0:Nat):Int)))] [4,10,14,24] j0) (fun (_:Unit)=>⟨[],0,[],0⟩) (fun (_:Unit) (jx:List Value)=>fr 26 [] [4,10,14,24] jx) (fun (_:Unit)=>⟨[],0,[],0⟩) [.bool false,.bool false] (DG [] 0 (sb xE 116) [.code (sb xE 15)] (Aa 300 [pn hb1]) (by kernel_rfl)) ?_ ?_ ?_ (fun v h=>by cases h;exact .outer .body)
 rintro i0 ⟨⟩ j0 hge hq
 exact BV (Aa 300 [pb (II hge)]) (by kernel_rfl) (hq (js 4 j0 [(2,.bool false)]))
 rintro i0 e0 ⟨⟩ j0 r he0 hi0 mi0 k
 show G5  s2 i0 e0 =some r→_
 unfold G5
 refine Aj fun x1 hx1=>?_
 refine Ae (fun hb2=>?_) fun hb2=>?_
 rintro ⟨⟩
 exact C9 (Aa 300 [pb (F5 hi0),CL (SE .lost he0),CL (SE .lost hx1),K1 (gZ hb2 (.tmp 19) (.tmp 23)),pi mi0]) (by kernel_rfl) (k (js 4 j0 [(2,.bool true),(3,.bool false)]))
 rintro ⟨⟩
 exact AA _ _ (Aa 300 [pb (F5 hi0),CL (SE .lost he0),CL (SE .lost hx1),K1 (gZ hb2 (.tmp 19) (.tmp 23))]) (by kernel_rfl) (.GX k) .sc
 rintro ⟨⟩ jx_2
 intro h
 have hE:=Option.some.inj h
 subst hE
 exact AA _ _ (BU 300 []) (by kernel_rfl) .body .sc
 rintro ⟨⟩
 exact rS (Aa 300 [pn hb1]) (by kernel_rfl)
noncomputable def B51:Code:=A4 Tryz.f51
theorem b51:Tryz.f51.body=some B51:=by kernel_rfl
noncomputable def A6  (n:Nd) (fields:Nd):Option Bool:=cond (BL n.name.data.toList fields.name.data.toList) (cond (BL n.unit.data.toList fields.unit.data.toList) (cond (Br n.n fields.n) (cond (Br n.fr fields.fr) (cond (Br n.to fields.to) (cond (Br n.known fields.known) (cond (Br n.tab.den fields.tab.den) ((Gz n.tab.ps fields.tab.ps).bind fun y1=>some y1) (some false)) (some false)) (some false)) (some false)) (some false)) (some false)) (some false)
theorem A5   {n:Nd} {fields:Nd} {yR:Bool} (h:A6  n fields=some yR):Pure P G 51 [.agg (A9 n),.agg (A9 fields)] (.sc (.bool yR)):=by
 unfold A6 at h
 refine BH Hd.mixed Hd.Ac (AG Tryz.func51 b51 ?_) (Bl (Am.F1 n) (Bl (Am.F1 fields) rfl)) rfl
 revert h
 refine Ae (fun hb1=>?_) fun hb1=>?_
 refine Ae (fun hb2=>?_) fun hb2=>?_
 let o1:List (PC P G):=[pn hb1,pn hb2]
 refine Ae (fun hb3=>?_) fun hb3=>?_
 refine Ae (fun hb4=>?_) fun hb4=>?_
 refine Ae (fun hb5=>?_) fun hb5=>?_
 refine Ae (fun hb6=>?_) fun hb6=>?_
 refine Ae (fun hb7=>?_) fun hb7=>?_
 refine Aj fun y1 hy1=>?_
 intro h
 have hE:=Option.some.inj h
 subst hE
 exact rS (Aa 300 (o1++[pn hb3,pn hb4,pn hb5,pn hb6,pb hb7,Ak (N4 hy1)])) (by kernel_rfl)
 rintro ⟨⟩
 exact rS (Aa 300 (o1++[pn hb3,pn hb4,pn hb5,pn hb6,pb hb7])) (by kernel_rfl)
 rintro ⟨⟩
 exact rS (Aa 300 (o1++[pn hb3,pn hb4,pn hb5,pn hb6])) (by kernel_rfl)
 rintro ⟨⟩
 exact rS (Aa 300 (o1++[pn hb3,pn hb4,pn hb5])) (by kernel_rfl)
 rintro ⟨⟩
 exact rS (Aa 300 (o1++[pn hb3,pn hb4])) (by kernel_rfl)
 rintro ⟨⟩
 exact rS (Aa 300 (o1++[pn hb3])) (by kernel_rfl)
 rintro ⟨⟩
 exact rS (Aa 300 [pn hb1,pn hb2]) (by kernel_rfl)
 rintro ⟨⟩
 exact rS (Aa 300 [pn hb1]) (by kernel_rfl)
noncomputable def mU:Code:=A4 Tryz.f113
theorem vH:Tryz.f113.body=some mU:=by kernel_rfl
noncomputable def EO   (i0:Nat) (e0:UInt8) :Option (Lp Unit Unit Bool):=cond (FV ((e0.toNat:Nat):Int) 65) (some (.rt false)) (cond (FV 90 ((e0.toNat:Nat):Int)) (some (.rt false)) (some (.nx ())))
noncomputable def D4  (text:ByteArray):Option Bool:=cond (Br ((text.data.toList.length:Nat):Int) 3) ((Gv text.data.toList.length (AT (fun i y x=>EO   i y ) (fun x=>()) (text.data.toList.drop 0) 0 ())).bind (GF (fun (_:Unit)=>some true) (fun v=>some v))) (some false)
theorem K5   {text:ByteArray} {yR:Bool} (h:D4  text=some yR):Pure P G 113 [.sc (.string text)] (.sc (.bool yR)):=by
 unfold D4 at h
 refine BH Hd.mixed Hd.Ac (AG Tryz.func113 vH ?_) (Bl rfl rfl) rfl
 revert h
 refine Ae (fun hb1=>?_) fun hb1=>?_
 refine DJ (fun Q v=>DI P Tryz.f113 0 Q (.sc (.bool v))) (fun i0 (_:Unit) (j0:List Value)=>fr 23 [(0,.sc (.string text)),(8,.sc (.int .i64 ((text.data.toList.length:Nat):Int))),(9,.sc (.int .i64 ((i0:Nat):Int)))] [2,6,10,15,16,20,21] j0) (fun (_:Unit)=>⟨[],0,[],0⟩) (fun (_:Unit) (jx:List Value)=>fr 23 [] [2,6,10,15,16,20,21] jx) (fun (_:Unit)=>⟨[],0,[],0⟩) [.bool false,.bool false] (DG [] 0 (sb mU 116) [.code (sb mU 15)] (Aa 300 [pn hb1]) (by kernel_rfl)) ?_ ?_ ?_ (fun v h=>by cases h;exact .outer .body)
 rintro i0 ⟨⟩ j0 hge hq
 exact BV (Aa 300 [pb (II hge)]) (by kernel_rfl) (hq (js 7 j0 [(2,.bool false)]))
 rintro i0 e0 ⟨⟩ j0 r he0 hi0 mi0 k
 show EO   i0 e0 =some r→_
 unfold EO
 refine Ae (fun hb2=>?_) fun hb2=>?_
 rintro ⟨⟩
 exact AA _ _ (Aa 300 [pb (F5 hi0),Q8 (JX he0),pb hb2]) (by kernel_rfl) (.GX k) .sc
 refine Ae (fun hb3=>?_) fun hb3=>?_
 rintro ⟨⟩
 exact AA _ _ (Aa 300 [pb (F5 hi0),Q8 (JX he0),pb hb2,Q8 (JX he0),pb hb3]) (by kernel_rfl) (.GX k) .sc
 rintro ⟨⟩
 exact C9 (Aa 300 [pb (F5 hi0),Q8 (JX he0),pb hb2,Q8 (JX he0),pb hb3,pi mi0]) (by kernel_rfl) (k [(jv j0 0),(jv j0 1),.bool true,.bool false,.bool false,.bool false,.bool false])
 rintro ⟨⟩ jx_1
 intro h
 have hE:=Option.some.inj h
 subst hE
 exact AA _ _ (BU 300 []) (by kernel_rfl) .body .sc
 rintro ⟨⟩
 exact rS (Aa 300 [pn hb1]) (by kernel_rfl)
noncomputable def B76:Code:=A4 Tryz.f76
theorem b76:Tryz.f76.body=some B76:=by kernel_rfl
noncomputable def CE  (text:ByteArray):Option Bool:=cond (BL text.data.toList A3.data.toList) (some true) (cond (BL text.data.toList By.data.toList) (some true) (cond (BL text.data.toList Cm.data.toList) (some true) ((D4 text).bind fun y1=>some y1)))
theorem C6   {text:ByteArray} {yR:Bool} (h:CE  text=some yR):Pure P G 76 [.sc (.string text)] (.sc (.bool yR)):=by
 unfold CE at h
 refine BH Hd.mixed Hd.Ac (AG Tryz.func76 b76 ?_) (Bl rfl rfl) rfl
 revert h
 refine Ae (fun hb1=>?_) fun hb1=>?_
 rintro ⟨⟩
 exact rS (Aa 300 [pb hb1]) (by kernel_rfl)
 refine Ae (fun hb2=>?_) fun hb2=>?_
 rintro ⟨⟩
 exact rS (Aa 300 [pb hb1,pb hb2]) (by kernel_rfl)
 refine Ae (fun hb3=>?_) fun hb3=>?_
 rintro ⟨⟩
 exact rS (Aa 300 [pb hb1,pb hb2,pb hb3]) (by kernel_rfl)
 refine Aj fun y1 hy1=>?_
 intro h
 have hE:=Option.some.inj h
 subst hE
 exact rS (Aa 300 [pb hb1,pb hb2,pb hb3,Ak (K5 hy1)]) (by kernel_rfl)
noncomputable def wX:Code:=A4 Tryz.f114
theorem vK:Tryz.f114.body=some wX:=by kernel_rfl
noncomputable def E6  (word:ByteArray):Option Bool:=cond (BL word.data.toList Q5.data.toList) (some true) (cond (BL word.data.toList QS.data.toList) (some true) (cond (BL word.data.toList Jj.data.toList) (some true) (cond (BL word.data.toList V4.data.toList) (some true) (cond (BL word.data.toList QE.data.toList) (some true) (cond (BL word.data.toList Q0.data.toList) (some true) (cond (BL word.data.toList oQ.data.toList) (some true) (cond (BL word.data.toList Ni.data.toList) (some true) (cond (BL word.data.toList QO.data.toList) (some true) (cond (BL word.data.toList KN.data.toList) (some true) (cond (BL word.data.toList KY.data.toList) (some true) (cond (BL word.data.toList A3.data.toList) (some true) (cond (BL word.data.toList By.data.toList) (some true) (cond (BL word.data.toList Cm.data.toList) (some true) (cond (BL word.data.toList WS.data.toList) (some true) (cond (BL word.data.toList Qe.data.toList) (some true) (cond (BL word.data.toList KW.data.toList) (some true) (cond (BL word.data.toList M0.data.toList) (some true) (cond (BL word.data.toList QY.data.toList) (some true) (cond (BL word.data.toList Sl.data.toList) (some true) (cond (BL word.data.toList IK.data.toList) (some true) (cond (BL word.data.toList V7.data.toList) (some true) (cond (BL word.data.toList Tl.data.toList) (some true) (cond (BL word.data.toList QU.data.toList) (some true) (cond (BL word.data.toList Np.data.toList) (some true) (cond (BL word.data.toList Wm.data.toList) (some true) (cond (BL word.data.toList EA.data.toList) (some true) (cond (BL word.data.toList NY.data.toList) (some true) (cond (BL word.data.toList Ht.data.toList) (some true) (cond (BL word.data.toList JZ.data.toList) (some true) (cond (BL word.data.toList GP.data.toList) (some true) (cond (BL word.data.toList D8.data.toList) (some true) (cond (BL word.data.toList MW.data.toList) (some true) (some false)))))))))))))))))))))))))))))))))
theorem IU   {word:ByteArray} {yR:Bool} (h:E6  word=some yR):Pure P G 114 [.sc (.string word)] (.sc (.bool yR)):=by
 unfold E6 at h
 refine BH Hd.mixed Hd.Ac (AG Tryz.func114 vK ?_) (Bl rfl rfl) rfl
 revert h
 refine Ae (fun hb1=>?_) fun hb1=>?_
 rintro ⟨⟩
 exact rS (Aa 300 [pb hb1]) (by kernel_rfl)
 let o1:List (PC P G):=[pb hb1]
 refine Ae (fun hb2=>?_) fun hb2=>?_
 rintro ⟨⟩
 exact rS (Aa 300 (o1++[pb hb2])) (by kernel_rfl)
 let o2:List (PC P G):=o1++[pb hb2]
 refine Ae (fun hb3=>?_) fun hb3=>?_
 rintro ⟨⟩
 exact rS (Aa 300 (o2++[pb hb3])) (by kernel_rfl)
 let o3:List (PC P G):=o2++[pb hb3]
 refine Ae (fun hb4=>?_) fun hb4=>?_
 rintro ⟨⟩
 exact rS (Aa 300 (o3++[pb hb4])) (by kernel_rfl)
 let o4:List (PC P G):=o3++[pb hb4]
 refine Ae (fun hb5=>?_) fun hb5=>?_
 rintro ⟨⟩
 exact rS (Aa 300 (o4++[pb hb5])) (by kernel_rfl)
 let o5:List (PC P G):=o4++[pb hb5]
 refine Ae (fun hb6=>?_) fun hb6=>?_
 rintro ⟨⟩
 exact rS (Aa 300 (o5++[pb hb6])) (by kernel_rfl)
 let o6:List (PC P G):=o5++[pb hb6]
 refine Ae (fun hb7=>?_) fun hb7=>?_
 rintro ⟨⟩
 exact rS (Aa 300 (o6++[pb hb7])) (by kernel_rfl)
 let o7:List (PC P G):=o6++[pb hb7]
 refine Ae (fun hb8=>?_) fun hb8=>?_
 rintro ⟨⟩
 exact rS (Aa 300 (o7++[pb hb8])) (by kernel_rfl)
 let o8:List (PC P G):=o7++[pb hb8]
 refine Ae (fun hb9=>?_) fun hb9=>?_
 rintro ⟨⟩
 exact rS (Aa 300 (o8++[pb hb9])) (by kernel_rfl)
 let o9:List (PC P G):=o8++[pb hb9]
 refine Ae (fun hb10=>?_) fun hb10=>?_
 rintro ⟨⟩
 exact rS (Aa 300 (o9++[pb hb10])) (by kernel_rfl)
 let o10:List (PC P G):=o9++[pb hb10]
 refine Ae (fun hb11=>?_) fun hb11=>?_
 rintro ⟨⟩
 exact rS (Aa 300 (o10++[pb hb11])) (by kernel_rfl)
 let o11:List (PC P G):=o10++[pb hb11]
 refine Ae (fun hb12=>?_) fun hb12=>?_
 rintro ⟨⟩
 exact rS (Aa 300 (o11++[pb hb12])) (by kernel_rfl)
 let o12:List (PC P G):=o11++[pb hb12]
 refine Ae (fun hb13=>?_) fun hb13=>?_
 rintro ⟨⟩
 exact rS (Aa 300 (o12++[pb hb13])) (by kernel_rfl)
 let o13:List (PC P G):=o12++[pb hb13]
 refine Ae (fun hb14=>?_) fun hb14=>?_
 rintro ⟨⟩
 exact rS (Aa 300 (o13++[pb hb14])) (by kernel_rfl)
 let o14:List (PC P G):=o13++[pb hb14]
 refine Ae (fun hb15=>?_) fun hb15=>?_
 rintro ⟨⟩
 exact rS (Aa 300 (o14++[pb hb15])) (by kernel_rfl)
 let o15:List (PC P G):=o14++[pb hb15]
 refine Ae (fun hb16=>?_) fun hb16=>?_
 rintro ⟨⟩
 exact rS (Aa 300 (o15++[pb hb16])) (by kernel_rfl)
 let o16:List (PC P G):=o15++[pb hb16]
 refine Ae (fun hb17=>?_) fun hb17=>?_
 rintro ⟨⟩
 exact rS (Aa 300 (o16++[pb hb17])) (by kernel_rfl)
 let o17:List (PC P G):=o16++[pb hb17]
 refine Ae (fun hb18=>?_) fun hb18=>?_
 rintro ⟨⟩
 exact rS (Aa 300 (o17++[pb hb18])) (by kernel_rfl)
 let o18:List (PC P G):=o17++[pb hb18]
 refine Ae (fun hb19=>?_) fun hb19=>?_
 rintro ⟨⟩
 exact rS (Aa 300 (o18++[pb hb19])) (by kernel_rfl)
 let o19:List (PC P G):=o18++[pb hb19]
 refine Ae (fun hb20=>?_) fun hb20=>?_
 rintro ⟨⟩
 exact rS (Aa 300 (o19++[pb hb20])) (by kernel_rfl)
 let o20:List (PC P G):=o19++[pb hb20]
 refine Ae (fun hb21=>?_) fun hb21=>?_
 rintro ⟨⟩
 exact rS (Aa 300 (o20++[pb hb21])) (by kernel_rfl)
 let o21:List (PC P G):=o20++[pb hb21]
 refine Ae (fun hb22=>?_) fun hb22=>?_
 rintro ⟨⟩
 exact rS (Aa 300 (o21++[pb hb22])) (by kernel_rfl)
 let o22:List (PC P G):=o21++[pb hb22]
 refine Ae (fun hb23=>?_) fun hb23=>?_
 rintro ⟨⟩
 exact rS (Aa 300 (o22++[pb hb23])) (by kernel_rfl)
 let o23:List (PC P G):=o22++[pb hb23]
 refine Ae (fun hb24=>?_) fun hb24=>?_
 rintro ⟨⟩
 exact rS (Aa 300 (o23++[pb hb24])) (by kernel_rfl)
 let qK:List (PC P G):=o23++[pb hb24]
 refine Ae (fun hb25=>?_) fun hb25=>?_
 rintro ⟨⟩
 exact rS (Aa 300 (qK++[pb hb25])) (by kernel_rfl)
 refine Ae (fun hb26=>?_) fun hb26=>?_
 rintro ⟨⟩
 exact rS (Aa 300 (qK++[pb hb25,pb hb26])) (by kernel_rfl)
 let o25:List (PC P G):=qK++[pb hb25,pb hb26]
 refine Ae (fun hb27=>?_) fun hb27=>?_
 rintro ⟨⟩
 exact rS (Aa 300 (o25++[pb hb27])) (by kernel_rfl)
 refine Ae (fun hb28=>?_) fun hb28=>?_
 rintro ⟨⟩
 exact rS (Aa 300 (o25++[pb hb27,pb hb28])) (by kernel_rfl)
 let o26:List (PC P G):=o25++[pb hb27,pb hb28]
 refine Ae (fun hb29=>?_) fun hb29=>?_
 rintro ⟨⟩
 exact rS (Aa 300 (o26++[pb hb29])) (by kernel_rfl)
 refine Ae (fun hb30=>?_) fun hb30=>?_
 rintro ⟨⟩
 exact rS (Aa 300 (o26++[pb hb29,pb hb30])) (by kernel_rfl)
 refine Ae (fun hb31=>?_) fun hb31=>?_
 rintro ⟨⟩
 exact rS (Aa 300 (o26++[pb hb29,pb hb30,pb hb31])) (by kernel_rfl)
 refine Ae (fun hb32=>?_) fun hb32=>?_
 rintro ⟨⟩
 exact rS (Aa 300 (o26++[pb hb29,pb hb30,pb hb31,pb hb32])) (by kernel_rfl)
 refine Ae (fun hb33=>?_) fun hb33=>?_
 rintro ⟨⟩
 exact rS (Aa 300 (o26++[pb hb29,pb hb30,pb hb31,pb hb32,pb hb33])) (by kernel_rfl)
 rintro ⟨⟩
 exact rS (Aa 300 (o26++[pb hb29,pb hb30,pb hb31,pb hb32,pb hb33])) (by kernel_rfl)
noncomputable def wM:Code:=A4 Tryz.f77
theorem b77:Tryz.f77.body=some wM:=by kernel_rfl
noncomputable def Es   (i0:Nat) (e0:UInt8) :Option (Lp Unit Unit Bool):=cond (FV ((e0.toNat:Nat):Int) 97) (cond (FV ((e0.toNat:Nat):Int) 48) (some (.rt false)) (cond (FV 57 ((e0.toNat:Nat):Int)) (cond (Br ((e0.toNat:Nat):Int) 95) (some (.nx ())) (some (.rt false))) (some (.nx ())))) (cond (FV 122 ((e0.toNat:Nat):Int)) (some (.rt false)) (some (.nx ())))
noncomputable def Cg  (text:ByteArray):Option Bool:=cond (BL text.data.toList ByteArray.empty.data.toList) (some false) (cond (FV 16 ((text.data.toList.length:Nat):Int)) (some false) ((text.data.toList[0]?).bind fun c1=>cond (FV ((c1.toNat:Nat):Int) 97) (some false) (cond (FV 122 ((c1.toNat:Nat):Int)) (some false) ((E6 text).bind fun y2=>cond y2 (some false) ((Gv text.data.toList.length (AT (fun i y x=>Es   i y ) (fun x=>()) (text.data.toList.drop 0) 0 ())).bind (GF (fun (_:Unit)=>some true) (fun v=>some v)))))))
theorem DS   {text:ByteArray} {yR:Bool} (h:Cg  text=some yR):Pure P G 77 [.sc (.string text)] (.sc (.bool yR)):=by
 unfold Cg at h
 refine BH Hd.mixed Hd.Ac (AG Tryz.func77 b77 ?_) (Bl rfl rfl) rfl
 revert h
 refine Ae (fun hb1=>?_) fun hb1=>?_
 rintro ⟨⟩
 exact rS (Aa 300 [pb hb1]) (by kernel_rfl)
 refine Ae (fun hb2=>?_) fun hb2=>?_
 rintro ⟨⟩
 exact rS (Aa 300 [pb hb1,pb hb2]) (by kernel_rfl)
 refine Aj fun c1 hc1=>?_
 let o1:List (PC P G):=[pb hb1,pb hb2,Q8 (JX hc1)]
 refine Ae (fun hb3=>?_) fun hb3=>?_
 rintro ⟨⟩
 exact rS (Aa 300 (o1++[pb hb3])) (by kernel_rfl)
 refine Ae (fun hb4=>?_) fun hb4=>?_
 rintro ⟨⟩
 exact rS (Aa 300 (o1++[pb hb3,Q8 (JX hc1),pb hb4])) (by kernel_rfl)
 refine Aj fun y2 hy2=>?_
 refine Ae (fun hv=>?_) fun hv=>?_
 subst hv
 rintro ⟨⟩
 exact rS (Aa 300 (o1++[pb hb3,Q8 (JX hc1),pb hb4,Ak (IU hy2)])) (by kernel_rfl)
 subst hv
 refine DJ (fun Q v=>DI P Tryz.f77 0 Q (.sc (.bool v))) (fun i0 (_:Unit) (j0:List Value)=>fr 53 [(0,.sc (.string text)),(27,.sc (.int .i64 ((text.data.toList.length:Nat):Int))),(28,.sc (.int .i64 ((i0:Nat):Int)))] [2,6,7,10,11,12,15,16,17,20,21,22,24,25,29,35,36,38,39,40,42,43,45,46,47,48,50,51] j0) (fun (_:Unit)=>⟨[],0,[],0⟩) (fun (_:Unit) (jx:List Value)=>fr 53 [] [2,6,7,10,11,12,15,16,17,20,21,22,24,25,29,35,36,38,39,40,42,43,45,46,47,48,50,51] jx) (fun (_:Unit)=>⟨[],0,[],0⟩) [.bool false,.bool false,.bool false,.bool false,.bool false,.bool false,.bool false,.bool false,.bool false,.bool false,.bool false,.bool false,.bool false,.bool false] (DG [] 0 (sb wM 116) [.code (sb wM 15)] (Aa 300 (o1++[pb hb3,Q8 (JX hc1),pb hb4,Ak (IU hy2)])) (by kernel_rfl)) ?_ ?_ ?_ (fun v h=>by cases h;exact .outer .body)
 rintro i0 ⟨⟩ j0 hge hq
 exact BV (Aa 300 [pb (II hge)]) (by kernel_rfl) (hq (js 28 j0 [(14,.bool false)]))
 rintro i0 e0 ⟨⟩ j0 r he0 hi0 mi0 k
 show Es   i0 e0 =some r→_
 unfold Es
 let o2:List (PC P G):=[pb (F5 hi0),Q8 (JX he0)]
 refine Ae (fun hb5=>?_) fun hb5=>?_
 refine Ae (fun hb6=>?_) fun hb6=>?_
 rintro ⟨⟩
 exact AA _ _ (Aa 300 (o2++[pb hb5,pb hb6,pn (B:=Br ((e0.toNat:Nat):Int) 95) (b:=false) (gQ (by have:=NM hb5;have:=NM hb6;omega))])) (by kernel_rfl) (.GX k) .sc
 refine Ae (fun hb7=>?_) fun hb7=>?_
 refine Ae (fun hb8=>?_) fun hb8=>?_
 rintro ⟨⟩
 exact C9 (Aa 300 (o2++[pb hb5,pb hb6,pb hb7,pn hb8,pi mi0])) (by kernel_rfl) (k (js 28 j0 [(14,.bool true),(15,.bool true),(16,.bool true),(17,undef),(18,.bool true),(19,.bool true),(20,.bool false),(21,.bool false),(22,.bool true),(23,.bool true),(24,.bool true),(25,.bool true),(26,.bool false),(27,.bool false)]))
 rintro ⟨⟩
 exact AA _ _ (Aa 300 (o2++[pb hb5,pb hb6,pb hb7,pn hb8])) (by kernel_rfl) (.GX k) .sc
 rintro ⟨⟩
 exact C9 (Aa 300 (o2++[pb hb5,pb hb6,pb hb7,pi mi0])) (by kernel_rfl) (k (js 28 j0 [(14,.bool true),(15,.bool true),(16,.bool true),(17,undef),(18,.bool true),(19,.bool true),(20,.bool false),(21,.bool false),(22,.bool false),(23,.bool false),(24,.bool false),(25,.bool false),(26,undef),(27,.bool false)]))
 refine Ae (fun hb9=>?_) fun hb9=>?_
 rintro ⟨⟩
 exact AA _ _ (Aa 300 (o2++[pb hb5,pb hb9,pb (B:=FV ((e0.toNat:Nat):Int) 48) (b:=false) (iE (by have:=XC hb5;have:=NM hb9;omega)),pb (B:=FV 57 ((e0.toNat:Nat):Int)) (b:=true) (sC (by have:=XC hb5;have:=NM hb9;omega)),pn (B:=Br ((e0.toNat:Nat):Int) 95) (b:=false) (gQ (by have:=XC hb5;have:=NM hb9;omega))])) (by kernel_rfl) (.GX k) .sc
 rintro ⟨⟩
 exact C9 (Aa 300 (o2++[pb hb5,pb hb9,pi mi0])) (by kernel_rfl) (k (js 28 j0 [(14,.bool true),(15,.bool false),(16,.bool false),(17,.bool false),(18,.bool false),(19,.bool false),(20,undef),(21,undef),(22,undef),(23,undef),(24,.bool false),(25,.bool false),(26,undef),(27,.bool false)]))
 rintro ⟨⟩ jx_3
 intro h
 have hE:=Option.some.inj h
 subst hE
 exact AA _ _ (BU 300 []) (by kernel_rfl) .body .sc
noncomputable def B78:Code:=A4 Tryz.f78
theorem b78:Tryz.f78.body=some B78:=by kernel_rfl
noncomputable def BY  (n:Int):Option Bool:=cond (K2 1 n) (cond (K2 n 1000000) (some true) (some false)) (some false)
theorem DC   {n:Int} {yR:Bool} (h:BY  n=some yR):Pure P G 78 [.sc (.int .i64 n)] (.sc (.bool yR)):=by
 unfold BY at h
 refine BH Hd.mixed Hd.Ac (AG Tryz.func78 b78 ?_) (Bl rfl rfl) rfl
 revert h
 refine Ae (fun hb1=>?_) fun hb1=>?_
 refine Ae (fun hb2=>?_) fun hb2=>?_
 rintro ⟨⟩
 exact rS (Aa 300 [pb hb1,pb hb2]) (by kernel_rfl)
 rintro ⟨⟩
 exact rS (Aa 300 [pb hb1,pb hb2]) (by kernel_rfl)
 rintro ⟨⟩
 exact rS (Aa 300 [pb hb1]) (by kernel_rfl)
noncomputable def B79:Code:=A4 Tryz.f79
theorem b79:Tryz.f79.body=some B79:=by kernel_rfl
noncomputable def Dm  (word:ByteArray):Option Bool:=cond (BL word.data.toList EA.data.toList) (some true) (cond (BL word.data.toList NY.data.toList) (some true) (cond (BL word.data.toList Ht.data.toList) (some true) (cond (BL word.data.toList JZ.data.toList) (some true) (some false))))
theorem JK   {word:ByteArray} {yR:Bool} (h:Dm  word=some yR):Pure P G 79 [.sc (.string word)] (.sc (.bool yR)):=by
 unfold Dm at h
 refine BH Hd.mixed Hd.Ac (AG Tryz.func79 b79 ?_) (Bl rfl rfl) rfl
 revert h
 refine Ae (fun hb1=>?_) fun hb1=>?_
 rintro ⟨⟩
 exact rS (Aa 300 [pb hb1]) (by kernel_rfl)
 refine Ae (fun hb2=>?_) fun hb2=>?_
 rintro ⟨⟩
 exact rS (Aa 300 [pb hb1,pb hb2]) (by kernel_rfl)
 refine Ae (fun hb3=>?_) fun hb3=>?_
 rintro ⟨⟩
 exact rS (Aa 300 [pb hb1,pb hb2,pb hb3]) (by kernel_rfl)
 refine Ae (fun hb4=>?_) fun hb4=>?_
 rintro ⟨⟩
 exact rS (Aa 300 [pb hb1,pb hb2,pb hb3,pb hb4]) (by kernel_rfl)
 rintro ⟨⟩
 exact rS (Aa 300 [pb hb1,pb hb2,pb hb3,pb hb4]) (by kernel_rfl)
noncomputable def vY:Code:=A4 Tryz.f81
theorem b81:Tryz.f81.body=some vY:=by kernel_rfl
noncomputable def D1  (f:Fn) (i0:Nat) (e0:Pc) :Option (Lp Unit Unit Bool):=cond (FV 999999999999 e0.fr) (some (.rt false)) (cond (FV 0 ((i0:Nat):Int)) ((RZ f.ps (RB ((i0:Nat):Int) 1)).bind fun x3=>cond (K2 e0.fr x3.fr) (some (.rt false)) ((PT e0.att f.den).bind fun z4=>cond (Br z4 0) (cond (FV (P5 999999999999 f.den) e0.att) (some (.rt false)) (cond (FV e0.att (P5 (-999999999999) f.den)) (some (.rt false)) (cond (FV 1000000 e0.slope) (some (.rt false)) (cond (FV e0.slope (-1000000)) (some (.rt false)) (some (.nx ())))))) (some (.rt false)))) ((PT e0.att f.den).bind fun z5=>cond (Br z5 0) (cond (FV (P5 999999999999 f.den) e0.att) (some (.rt false)) (cond (FV e0.att (P5 (-999999999999) f.den)) (some (.rt false)) (cond (FV 1000000 e0.slope) (some (.rt false)) (cond (FV e0.slope (-1000000)) (some (.rt false)) (some (.nx ())))))) (some (.rt false))))
noncomputable def Dx  (f:Fn):Option Bool:=(BY f.den).bind fun y1=>cond y1 (cond (FV ((f.ps.length:Nat):Int) 1) (some false) (cond (FV 64 ((f.ps.length:Nat):Int)) (some false) ((f.ps[0]?).bind fun x2=>cond (Br x2.fr 0) ((Gv f.ps.length (AT (fun i y x=>D1  f i y ) (fun x=>()) (f.ps.drop 0) 0 ())).bind (GF (fun (_:Unit)=>some true) (fun v=>some v))) (some false)))) (some false)
theorem EJ   {f:Fn} {yR:Bool} (h:Dx  f=some yR):Pure P G 81 [.agg (Xh f)] (.sc (.bool yR)):=by
 unfold Dx at h
 refine BH Hd.mixed Hd.Ac (AG Tryz.func81 b81 ?_) (Bl (OG.F1 f) rfl) rfl
 revert h
 refine Aj fun y1 hy1=>?_
 let o1:List (PC P G):=[Ak (DC hy1)]
 refine Ae (fun hv=>?_) fun hv=>?_
 subst hv
 refine Ae (fun hb1=>?_) fun hb1=>?_
 rintro ⟨⟩
 exact rS (Aa 300 (o1++[pb hb1])) (by kernel_rfl)
 refine Ae (fun hb2=>?_) fun hb2=>?_
 rintro ⟨⟩
 exact rS (Aa 300 (o1++[pb hb1,pb hb2])) (by kernel_rfl)
 refine Aj fun x2 hx2=>?_
 refine Ae (fun hb3=>?_) fun hb3=>?_
 refine DJ (fun Q v=>DI P Tryz.f81 0 Q (.sc (.bool v))) (fun i0 (_:Unit) (j0:List Value)=>fr 87 [(1,.ptr 0 0),(30,.sl .lost f.ps.length (rows FF f.ps)),(31,.sc (.int .i64 ((f.ps.length:Nat):Int))),(32,.sc (.int .i64 ((i0:Nat):Int)))] [2,7,8,9,13,14,15,19,20,21,27,28,33,39,40,42,43,53,54,55,61,62,68,69,70,76,77,80,81,84,85] j0) (fun (_:Unit)=>⟨[(0,.cells (Xh f))],1,[],0⟩) (fun (_:Unit) (jx:List Value)=>fr 87 [] [2,7,8,9,13,14,15,19,20,21,27,28,33,39,40,42,43,53,54,55,61,62,68,69,70,76,77,80,81,84,85] jx) (fun (_:Unit)=>⟨[(0,.cells (Xh f))],1,[],0⟩) [.bool false,.bool true,.bool false,.bool false,.bool false,.bool false,.bool false,.bool false,.bool false,.bool false,.bool false,.bool false] (DG [] 0 (sb vY 116) [.code (sb vY 15)] (Aa 300 (o1++[pb hb1,pb hb2,CL (SE .lost hx2),pn hb3])) (by kernel_rfl)) ?_ ?_ ?_ (fun v h=>by cases h;exact .outer .body)
 rintro i0 ⟨⟩ j0 hge hq
 exact BV (Aa 300 [pb (II hge)]) (by kernel_rfl) (hq (js 31 j0 [(12,.bool false)]))
 rintro i0 e0 ⟨⟩ j0 r he0 hi0 mi0 k
 show D1  f i0 e0 =some r→_
 unfold D1
 let o2:List (PC P G):=[pb (F5 hi0),CL (SE .lost he0)]
 refine Ae (fun hb4=>?_) fun hb4=>?_
 rintro ⟨⟩
 exact AA _ _ (Aa 300 (o2++[pb hb4])) (by kernel_rfl) (.GX k) .sc
 let o3:List (PC P G):=o2++[pb hb4]
 refine Ae (fun hb5=>?_) fun hb5=>?_
 refine Aj fun x3 hx3=>?_
 let o4:List (PC P G):=o3++[pb hb5,pk,CL (Yn .lost hx3)]
 refine Ae (fun hb6=>?_) fun hb6=>?_
 rintro ⟨⟩
 exact AA _ _ (Aa 300 (o4++[pb hb6])) (by kernel_rfl) (.GX k) .sc
 refine Aj fun z4 hz4=>?_
 let o5:List (PC P G):=o4++[pb hb6,K1 (RY hz4 (.tmp 57) (.tmp 59))]
 refine Ae (fun hb7=>?_) fun hb7=>?_
 refine Ae (fun hb8=>?_) fun hb8=>?_
 rintro ⟨⟩
 exact AA _ _ (Aa 300 (o5++[pn hb7,pk,pb hb8])) (by kernel_rfl) (.GX k) .sc
 refine Ae (fun hb9=>?_) fun hb9=>?_
 rintro ⟨⟩
 exact AA _ _ (Aa 300 (o5++[pn hb7,pk,pb hb8,pk,pb hb9])) (by kernel_rfl) (.GX k) .sc
 refine Ae (fun hb10=>?_) fun hb10=>?_
 rintro ⟨⟩
 exact AA _ _ (Aa 300 (o5++[pn hb7,pk,pb hb8,pk,pb hb9,pb hb10])) (by kernel_rfl) (.GX k) .sc
 refine Ae (fun hb11=>?_) fun hb11=>?_
 rintro ⟨⟩
 exact AA _ _ (Aa 300 (o5++[pn hb7,pk,pb hb8,pk,pb hb9,pb hb10,pb hb11])) (by kernel_rfl) (.GX k) .sc
 rintro ⟨⟩
 exact B4 Hd.Ac [fq (Mb.EL f.ps)] [bp (OG.pl f)] (Aa 300 (o5++[pn hb7,pk,pb hb8,pk,pb hb9,pb hb10,pb hb11,pi mi0])) (by kernel_rfl) (k (js 31 j0 [(12,.bool true),(13,.bool false),(14,.bool false),(15,.bool true),(16,.bool true),(17,.bool false),(18,.bool false),(19,.bool false),(20,.bool false),(21,.bool false),(22,.bool false),(23,.bool false),(24,.bool false),(25,.bool false),(26,.bool false),(27,.bool false),(28,.bool false),(29,.bool false),(30,.bool false)]))
 rintro ⟨⟩
 exact AA _ _ (Aa 300 (o5++[pn hb7])) (by kernel_rfl) (.GX k) .sc
 refine Aj fun z5 hz5=>?_
 let o6:List (PC P G):=o3++[pb hb5,K1 (RY hz5 (.tmp 57) (.tmp 59))]
 refine Ae (fun hb12=>?_) fun hb12=>?_
 refine Ae (fun hb13=>?_) fun hb13=>?_
 rintro ⟨⟩
 exact AA _ _ (Aa 300 (o6++[pn hb12,pk,pb hb13])) (by kernel_rfl) (.GX k) .sc
 refine Ae (fun hb14=>?_) fun hb14=>?_
 rintro ⟨⟩
 exact AA _ _ (Aa 300 (o6++[pn hb12,pk,pb hb13,pk,pb hb14])) (by kernel_rfl) (.GX k) .sc
 refine Ae (fun hb15=>?_) fun hb15=>?_
 rintro ⟨⟩
 exact AA _ _ (Aa 300 (o6++[pn hb12,pk,pb hb13,pk,pb hb14,pb hb15])) (by kernel_rfl) (.GX k) .sc
 refine Ae (fun hb16=>?_) fun hb16=>?_
 rintro ⟨⟩
 exact AA _ _ (Aa 300 (o6++[pn hb12,pk,pb hb13,pk,pb hb14,pb hb15,pb hb16])) (by kernel_rfl) (.GX k) .sc
 rintro ⟨⟩
 exact B4 Hd.Ac [fq (Mb.EL f.ps)] [bp (OG.pl f)] (Aa 300 (o6++[pn hb12,pk,pb hb13,pk,pb hb14,pb hb15,pb hb16,pi mi0])) (by kernel_rfl) (k (js 31 j0 [(12,.bool true),(13,.bool false),(14,.bool false),(15,.bool false),(16,.bool false),(17,undef),(18,.bool false),(19,.bool false),(20,.bool false),(21,.bool false),(22,.bool false),(23,.bool false),(24,.bool false),(25,.bool false),(26,.bool false),(27,.bool false),(28,.bool false),(29,.bool false),(30,.bool false)]))
 rintro ⟨⟩
 exact AA _ _ (Aa 300 (o6++[pn hb12])) (by kernel_rfl) (.GX k) .sc
 rintro ⟨⟩ jx_6
 intro h
 have hE:=Option.some.inj h
 subst hE
 exact AA _ _ (BU 300 []) (by kernel_rfl) .body .sc
 rintro ⟨⟩
 exact rS (Aa 300 (o1++[pb hb1,pb hb2,CL (SE .lost hx2),pn hb3])) (by kernel_rfl)
 subst hv
 rintro ⟨⟩
 exact rS (Aa 300 o1) (by kernel_rfl)
theorem AL {c:Ck} {n:Nd} {depth:Int} {yR:Bool} {qc_nodesR:Int} (hS:Sound P G (.call 49 [.ptr 0 0,.agg (A9 n),.sc (.int .i64 depth)] ⟨[(0,.cells (EQ c))],1,[],0⟩ (.ret (.sc (.bool yR))) ⟨[(0,.cells [.sc (.int .i64 qc_nodesR)])],1,[],0⟩)) (u0:Nat) (hnb:[u0].Nodup:=by decide) (hnt:([]:List Nat).Nodup:=by decide):Cd.ok P G (.callU 49 [.ptr u0 0,.agg (A9 n),.sc (.int .i64 depth)] (.ret (.sc (.bool yR))) [(u0,.cells (EQ c))] [] [(u0,.cells [.sc (.int .i64 qc_nodesR)])] []) :=
 ER (M:=[.cells (EQ c)]) (M2:=[.cells [.sc (.int .i64 qc_nodesR)]]) (T:=[]) (T2:=[]) (k:=1) (j:=0) Hd.Ac _ _ _ _ hS rfl rfl rfl rfl rfl hnb hnt rfl rfl (.cons (.cells (.pl (J8.pl c))) .nil) (.cons (.cells (.pl (Bl rfl rfl))) .nil) (.cons (.ptr (by decide)) (.cons (.pl (Am.F1 n)) (.cons (.pl rfl) .nil))) (.pl rfl) (fun e he=>by simp only [List.mem_singleton] at he;subst he;exact (.arg (.here .ptr)))
theorem Jq {c:Ck} {n:Nd} {depth:Int} {yR:Bool} {qc_nodesR:Int} (hS:Sound P G (.call 80 [.ptr 0 0,.agg (A9 n),.sc (.int .i64 depth)] ⟨[(0,.cells (EQ c))],1,[],0⟩ (.ret (.sc (.bool yR))) ⟨[(0,.cells [.sc (.int .i64 qc_nodesR)])],1,[],0⟩)) (u0:Nat) (hnb:[u0].Nodup:=by decide) (hnt:([]:List Nat).Nodup:=by decide):Cd.ok P G (.callU 80 [.ptr u0 0,.agg (A9 n),.sc (.int .i64 depth)] (.ret (.sc (.bool yR))) [(u0,.cells (EQ c))] [] [(u0,.cells [.sc (.int .i64 qc_nodesR)])] []) :=
 ER (M:=[.cells (EQ c)]) (M2:=[.cells [.sc (.int .i64 qc_nodesR)]]) (T:=[]) (T2:=[]) (k:=1) (j:=0) Hd.Ac _ _ _ _ hS rfl rfl rfl rfl rfl hnb hnt rfl rfl (.cons (.cells (.pl (J8.pl c))) .nil) (.cons (.cells (.pl (Bl rfl rfl))) .nil) (.cons (.ptr (by decide)) (.cons (.pl (Am.F1 n)) (.cons (.pl rfl) .nil))) (.pl rfl) (fun e he=>by simp only [List.mem_singleton] at he;subst he;exact (.arg (.here .ptr)))
theorem F7 {c:Ck} {n:Nd} {depth:Int} {yR:Bool} {qc_nodesR:Int} (hS:Sound P G (.call 115 [.ptr 0 0,.agg (A9 n),.sc (.int .i64 depth)] ⟨[(0,.cells (EQ c))],1,[],0⟩ (.ret (.sc (.bool yR))) ⟨[(0,.cells [.sc (.int .i64 qc_nodesR)])],1,[],0⟩)) (u0:Nat) (hnb:[u0].Nodup:=by decide) (hnt:([]:List Nat).Nodup:=by decide):Cd.ok P G (.callU 115 [.ptr u0 0,.agg (A9 n),.sc (.int .i64 depth)] (.ret (.sc (.bool yR))) [(u0,.cells (EQ c))] [] [(u0,.cells [.sc (.int .i64 qc_nodesR)])] []) :=
 ER (M:=[.cells (EQ c)]) (M2:=[.cells [.sc (.int .i64 qc_nodesR)]]) (T:=[]) (T2:=[]) (k:=1) (j:=0) Hd.Ac _ _ _ _ hS rfl rfl rfl rfl rfl hnb hnt rfl rfl (.cons (.cells (.pl (J8.pl c))) .nil) (.cons (.cells (.pl (Bl rfl rfl))) .nil) (.cons (.ptr (by decide)) (.cons (.pl (Am.F1 n)) (.cons (.pl rfl) .nil))) (.pl rfl) (fun e he=>by simp only [List.mem_singleton] at he;subst he;exact (.arg (.here .ptr)))
theorem Fz {c:Ck} {list:(List Nd)} {depth:Int} {yR:Bool} {qc_nodesR:Int} (hS:Sound P G (.call 52 [.ptr 0 0,.sl .lost list.length (A7 list),.sc (.int .i64 depth),.fn (.func 49) [.ptr 0 0] []] ⟨[(0,.cells (EQ c))],1,[],0⟩ (.ret (.sc (.bool yR))) ⟨[(0,.cells [.sc (.int .i64 qc_nodesR)])],1,[],0⟩)) (u0:Nat) (hnb:[u0].Nodup:=by decide) (hnt:([]:List Nat).Nodup:=by decide):Cd.ok P G (.callU 52 [.ptr u0 0,.sl .lost list.length (A7 list),.sc (.int .i64 depth),.fn (.func 49) [.ptr u0 0] []] (.ret (.sc (.bool yR))) [(u0,.cells (EQ c))] [] [(u0,.cells [.sc (.int .i64 qc_nodesR)])] []) :=
 ER (M:=[.cells (EQ c)]) (M2:=[.cells [.sc (.int .i64 qc_nodesR)]]) (T:=[]) (T2:=[]) (k:=1) (j:=0) Hd.Ac _ _ _ _ hS rfl rfl rfl rfl rfl hnb hnt rfl rfl (.cons (.cells (.pl (J8.pl c))) .nil) (.cons (.cells (.pl (Bl rfl rfl))) .nil) (.cons (.ptr (by decide)) (.cons (.pl (Am.EL list)) (.cons (.pl rfl) (.cons (.fn (.cons (.ptr (by decide)) .nil) (.pl rfl)) .nil)))) (.pl rfl) (fun e he=>by simp only [List.mem_singleton] at he;subst he;exact (.arg (.here .ptr)))
noncomputable def B49:Code:=A4 Tryz.f49
theorem b49:Tryz.f49.body=some B49:=by kernel_rfl
noncomputable def Cj (Ai:Ck→Nd→Int→Option (Bool×Int)) (Ay:Ck→Nd→Int→Option (Bool×Int)) (Az:Ck→Nd→Int→Option (Bool×Int)) (Ap:Ck→(List Nd)→Int→Option (Bool×Int)) (c:Ck) (n:Nd) (depth:Int):Option (Bool×Int):=(Bf c n depth).bind fun (y1a,y1b)=>cond y1a (cond (Br n.kind 11) ((CE n.unit).bind fun y2=>cond y2 (cond (FV n.n 0) (some (false,y1b)) (cond (FV 999999999999 n.n) (some (false,y1b)) (cond (BL n.unit.data.toList A3.data.toList) (cond (FV 1 n.n) (some (false,y1b)) (cond (Br ((n.kids.length:Nat):Int) 0) ((A6 n (⟨0,ByteArray.empty,n.unit,n.n,0,0,0,(⟨0,[]⟩:Fn),[],0⟩:Nd)).bind fun y3=>some (y3,y1b)) (some (false,y1b)))) (cond (Br ((n.kids.length:Nat):Int) 0) ((A6 n (⟨0,ByteArray.empty,n.unit,n.n,0,0,0,(⟨0,[]⟩:Fn),[],0⟩:Nd)).bind fun y4=>some (y4,y1b)) (some (false,y1b)))))) (some (false,y1b))) (cond (Br n.kind 12) ((Cg n.name).bind fun y5=>cond y5 (cond (Br ((n.kids.length:Nat):Int) 0) ((A6 n (⟨0,n.name,ByteArray.empty,0,0,0,0,(⟨0,[]⟩:Fn),[],0⟩:Nd)).bind fun y6=>some (y6,y1b)) (some (false,y1b))) (some (false,y1b))) (cond (Br n.kind 13) ((BY n.n).bind fun y7=>cond y7 (cond (Br ((n.kids.length:Nat):Int) 0) ((A6 n (⟨0,ByteArray.empty,ByteArray.empty,n.n,0,0,0,(⟨0,[]⟩:Fn),[],0⟩:Nd)).bind fun y8=>some (y8,y1b)) (some (false,y1b))) (some (false,y1b))) (cond (Br n.kind 14) ((Dm n.name).bind fun y9=>cond y9 (cond (Br ((n.kids.length:Nat):Int) 0) ((A6 n (⟨0,n.name,ByteArray.empty,0,0,0,0,(⟨0,[]⟩:Fn),[],0⟩:Nd)).bind fun y10=>some (y10,y1b)) (some (false,y1b))) (some (false,y1b))) (cond (Br n.kind 15) (cond (Br ((n.kids.length:Nat):Int) 1) ((A6 n (⟨0,ByteArray.empty,ByteArray.empty,0,0,0,0,(⟨0,[]⟩:Fn),[],0⟩:Nd)).bind fun y11=>cond y11 ((n.kids[0]?).bind fun x12=>(Ai (⟨y1b⟩:Ck) x12 (BK depth 1)).bind fun (y13a,y13b)=>some (y13a,y13b)) (some (false,y1b))) (some (false,y1b))) (cond (Br n.kind 16) ((A6 n (⟨0,n.name,ByteArray.empty,0,0,0,0,(⟨0,[]⟩:Fn),[],0⟩:Nd)).bind fun y14=>cond y14 ((Ay (⟨y1b⟩:Ck) n depth).bind fun (y15a,y15b)=>some (y15a,y15b)) (some (false,y1b))) (cond (Br n.kind 17) (cond (BL n.name.data.toList GP.data.toList) ((A6 n (⟨0,n.name,ByteArray.empty,0,0,0,0,(⟨0,[]⟩:Fn),[],0⟩:Nd)).bind fun y16=>cond y16 (cond (K2 2 ((n.kids.length:Nat):Int)) ((Ap (⟨y1b⟩:Ck) n.kids (BK depth 1)).bind fun (y17a,y17b)=>some (y17a,y17b)) (some (false,y1b))) (some (false,y1b))) (cond (BL n.name.data.toList D8.data.toList) ((A6 n (⟨0,n.name,ByteArray.empty,0,0,0,0,(⟨0,[]⟩:Fn),[],0⟩:Nd)).bind fun y18=>cond y18 (cond (K2 2 ((n.kids.length:Nat):Int)) ((Ap (⟨y1b⟩:Ck) n.kids (BK depth 1)).bind fun (y19a,y19b)=>some (y19a,y19b)) (some (false,y1b))) (some (false,y1b))) (some (false,y1b)))) (cond (Br n.kind 18) ((A6 n (⟨0,ByteArray.empty,ByteArray.empty,0,0,0,0,n.tab,[],0⟩:Nd)).bind fun y20=>cond y20 ((Dx n.tab).bind fun y21=>cond y21 (cond (Br ((n.kids.length:Nat):Int) 1) ((n.kids[0]?).bind fun x22=>(Ai (⟨y1b⟩:Ck) x22 (BK depth 1)).bind fun (y23a,y23b)=>some (y23a,y23b)) (some (false,y1b))) (some (false,y1b))) (some (false,y1b))) (some (false,y1b)))))))))) (some (false,y1b))
theorem I6 (Ai:Ck→Nd→Int→Option (Bool×Int)) (Ay:Ck→Nd→Int→Option (Bool×Int)) (Az:Ck→Nd→Int→Option (Bool×Int)) (Ap:Ck→(List Nd)→Int→Option (Bool×Int)) (AE:∀ {c:Ck} {n:Nd} {depth:Int} {yR:Bool} {qc_nodesR:Int},Ai c n depth=some (yR,qc_nodesR)→Sound P G (.call 49 [.ptr 0 0,.agg (A9 n),.sc (.int .i64 depth)] ⟨[(0,.cells (EQ c))],1,[],0⟩ (.ret (.sc (.bool yR))) ⟨[(0,.cells [.sc (.int .i64 qc_nodesR)])],1,[],0⟩)) (C4:∀ {c:Ck} {n:Nd} {depth:Int} {yR:Bool} {qc_nodesR:Int},Ay c n depth=some (yR,qc_nodesR)→Sound P G (.call 80 [.ptr 0 0,.agg (A9 n),.sc (.int .i64 depth)] ⟨[(0,.cells (EQ c))],1,[],0⟩ (.ret (.sc (.bool yR))) ⟨[(0,.cells [.sc (.int .i64 qc_nodesR)])],1,[],0⟩)) (C3:∀ {c:Ck} {n:Nd} {depth:Int} {yR:Bool} {qc_nodesR:Int},Az c n depth=some (yR,qc_nodesR)→Sound P G (.call 115 [.ptr 0 0,.agg (A9 n),.sc (.int .i64 depth)] ⟨[(0,.cells (EQ c))],1,[],0⟩ (.ret (.sc (.bool yR))) ⟨[(0,.cells [.sc (.int .i64 qc_nodesR)])],1,[],0⟩)) (BW:∀ {c:Ck} {list:(List Nd)} {depth:Int} {yR:Bool} {qc_nodesR:Int},Ap c list depth=some (yR,qc_nodesR)→Sound P G (.call 52 [.ptr 0 0,.sl .lost list.length (A7 list),.sc (.int .i64 depth),.fn (.func 49) [.ptr 0 0] []] ⟨[(0,.cells (EQ c))],1,[],0⟩ (.ret (.sc (.bool yR))) ⟨[(0,.cells [.sc (.int .i64 qc_nodesR)])],1,[],0⟩)) {c:Ck} {n:Nd} {depth:Int} {yR:Bool} {qc_nodesR:Int} (h:Cj Ai Ay Az Ap c n depth=some (yR,qc_nodesR)):Sound P G (.call 49 [.ptr 0 0,.agg (A9 n),.sc (.int .i64 depth)] ⟨[(0,.cells (EQ c))],1,[],0⟩ (.ret (.sc (.bool yR))) ⟨[(0,.cells [.sc (.int .i64 qc_nodesR)])],1,[],0⟩):=by
 unfold Cj at h
 refine E4 Hd.mixed (AG Tryz.func49 b49 ?_)
 revert h
 refine Aj ?_
 rintro ⟨y1a,y1b⟩ hy1
 dsimp only
 let o1:List (PC P G):=[AK (CW (Cl hy1) 0)]
 refine Ae (fun hv=>?_) fun hv=>?_
 subst hv
 refine Ae (fun hb1=>?_) fun hb1=>?_
 refine Aj fun y2 hy2=>?_
 let o2:List (PC P G):=o1++[pb hb1,Ak (C6 hy2)]
 refine Ae (fun hv=>?_) fun hv=>?_
 subst hv
 refine Ae (fun hb2=>?_) fun hb2=>?_
 intro h
 have hE:=Option.some.inj h
 obtain ⟨hE0,hF0⟩:=Prod.mk.inj hE
 subst hE0 hF0
 exact Aq Hd.Ac _ _ [] [none] (Aa 300 (o2++[pb hb2])) (by kernel_rfl) .body
 refine Ae (fun hb3=>?_) fun hb3=>?_
 intro h
 have hE:=Option.some.inj h
 obtain ⟨hE0,hF0⟩:=Prod.mk.inj hE
 subst hE0 hF0
 exact Aq Hd.Ac _ _ [] [none] (Aa 300 (o2++[pb hb2,pb hb3])) (by kernel_rfl) .body
 refine Ae (fun hb4=>?_) fun hb4=>?_
 refine Ae (fun hb5=>?_) fun hb5=>?_
 intro h
 have hE:=Option.some.inj h
 obtain ⟨hE0,hF0⟩:=Prod.mk.inj hE
 subst hE0 hF0
 exact Aq Hd.Ac _ _ [] [none] (Aa 300 (o2++[pb hb2,pb hb3,pb hb4,pb hb5])) (by kernel_rfl) .body
 refine Ae (fun hb6=>?_) fun hb6=>?_
 refine Aj fun y3 hy3=>?_
 intro h
 have hE:=Option.some.inj h
 obtain ⟨hE0,hF0⟩:=Prod.mk.inj hE
 subst hE0 hF0
 exact Aq Hd.Ac _ _ [] [none] (Aa 300 (o2++[pb hb2,pb hb3,pb hb4,pb hb5,pb hb6,Ev (.r (.g (.r (.r (.r (.r (.r (.r (.r (.r (.z (.z (.r .nil))))))))))) .nil)) (A5 hy3)])) (by kernel_rfl) .body
 intro h
 have hE:=Option.some.inj h
 obtain ⟨hE0,hF0⟩:=Prod.mk.inj hE
 subst hE0 hF0
 exact Aq Hd.Ac _ _ [] [none] (Aa 300 (o2++[pb hb2,pb hb3,pb hb4,pb hb5,pb hb6])) (by kernel_rfl) .body
 refine Ae (fun hb7=>?_) fun hb7=>?_
 refine Aj fun y4 hy4=>?_
 intro h
 have hE:=Option.some.inj h
 obtain ⟨hE0,hF0⟩:=Prod.mk.inj hE
 subst hE0 hF0
 exact Aq Hd.Ac _ _ [] [none] (Aa 300 (o2++[pb hb2,pb hb3,pb hb4,pb hb7,Ev (.r (.g (.r (.r (.r (.r (.r (.r (.r (.r (.z (.z (.r .nil))))))))))) .nil)) (A5 hy4)])) (by kernel_rfl) .body
 intro h
 have hE:=Option.some.inj h
 obtain ⟨hE0,hF0⟩:=Prod.mk.inj hE
 subst hE0 hF0
 exact Aq Hd.Ac _ _ [] [none] (Aa 300 (o2++[pb hb2,pb hb3,pb hb4,pb hb7])) (by kernel_rfl) .body
 subst hv
 intro h
 have hE:=Option.some.inj h
 obtain ⟨hE0,hF0⟩:=Prod.mk.inj hE
 subst hE0 hF0
 exact Aq Hd.Ac _ _ [] [none] (Aa 300 o2) (by kernel_rfl) .body
 let o3:List (PC P G):=o1++[pb hb1]
 refine Ae (fun hb8=>?_) fun hb8=>?_
 refine Aj fun y5 hy5=>?_
 let o4:List (PC P G):=o3++[pb hb8,Ak (DS hy5)]
 refine Ae (fun hv=>?_) fun hv=>?_
 subst hv
 refine Ae (fun hb9=>?_) fun hb9=>?_
 refine Aj fun y6 hy6=>?_
 intro h
 have hE:=Option.some.inj h
 obtain ⟨hE0,hF0⟩:=Prod.mk.inj hE
 subst hE0 hF0
 exact Aq Hd.Ac _ _ [] [none] (Aa 300 (o4++[pb hb9,Ev (.r (.g (.r (.r (.r (.r (.r (.r (.r (.r (.z (.z (.r .nil))))))))))) .nil)) (A5 hy6)])) (by kernel_rfl) .body
 intro h
 have hE:=Option.some.inj h
 obtain ⟨hE0,hF0⟩:=Prod.mk.inj hE
 subst hE0 hF0
 exact Aq Hd.Ac _ _ [] [none] (Aa 300 (o4++[pb hb9])) (by kernel_rfl) .body
 subst hv
 intro h
 have hE:=Option.some.inj h
 obtain ⟨hE0,hF0⟩:=Prod.mk.inj hE
 subst hE0 hF0
 exact Aq Hd.Ac _ _ [] [none] (Aa 300 o4) (by kernel_rfl) .body
 let o5:List (PC P G):=o3++[pb hb8]
 refine Ae (fun hb10=>?_) fun hb10=>?_
 refine Aj fun y7 hy7=>?_
 let o6:List (PC P G):=o5++[pb hb10,Ak (DC hy7)]
 refine Ae (fun hv=>?_) fun hv=>?_
 subst hv
 refine Ae (fun hb11=>?_) fun hb11=>?_
 refine Aj fun y8 hy8=>?_
 intro h
 have hE:=Option.some.inj h
 obtain ⟨hE0,hF0⟩:=Prod.mk.inj hE
 subst hE0 hF0
 exact Aq Hd.Ac _ _ [] [none] (Aa 300 (o6++[pb hb11,Ev (.r (.g (.r (.r (.r (.r (.r (.r (.r (.r (.z (.z (.r .nil))))))))))) .nil)) (A5 hy8)])) (by kernel_rfl) .body
 intro h
 have hE:=Option.some.inj h
 obtain ⟨hE0,hF0⟩:=Prod.mk.inj hE
 subst hE0 hF0
 exact Aq Hd.Ac _ _ [] [none] (Aa 300 (o6++[pb hb11])) (by kernel_rfl) .body
 subst hv
 intro h
 have hE:=Option.some.inj h
 obtain ⟨hE0,hF0⟩:=Prod.mk.inj hE
 subst hE0 hF0
 exact Aq Hd.Ac _ _ [] [none] (Aa 300 o6) (by kernel_rfl) .body
 let o7:List (PC P G):=o5++[pb hb10]
 refine Ae (fun hb12=>?_) fun hb12=>?_
 refine Aj fun y9 hy9=>?_
 let o8:List (PC P G):=o7++[pb hb12,Ak (JK hy9)]
 refine Ae (fun hv=>?_) fun hv=>?_
 subst hv
 refine Ae (fun hb13=>?_) fun hb13=>?_
 refine Aj fun y10 hy10=>?_
 intro h
 have hE:=Option.some.inj h
 obtain ⟨hE0,hF0⟩:=Prod.mk.inj hE
 subst hE0 hF0
 exact Aq Hd.Ac _ _ [] [none] (Aa 300 (o8++[pb hb13,Ev (.r (.g (.r (.r (.r (.r (.r (.r (.r (.r (.z (.z (.r .nil))))))))))) .nil)) (A5 hy10)])) (by kernel_rfl) .body
 intro h
 have hE:=Option.some.inj h
 obtain ⟨hE0,hF0⟩:=Prod.mk.inj hE
 subst hE0 hF0
 exact Aq Hd.Ac _ _ [] [none] (Aa 300 (o8++[pb hb13])) (by kernel_rfl) .body
 subst hv
 intro h
 have hE:=Option.some.inj h
 obtain ⟨hE0,hF0⟩:=Prod.mk.inj hE
 subst hE0 hF0
 exact Aq Hd.Ac _ _ [] [none] (Aa 300 o8) (by kernel_rfl) .body
 let o9:List (PC P G):=o7++[pb hb12]
 refine Ae (fun hb14=>?_) fun hb14=>?_
 refine Ae (fun hb15=>?_) fun hb15=>?_
 refine Aj fun y11 hy11=>?_
 let o10:List (PC P G):=o9++[pb hb14,pb hb15,Ev (.r (.g (.r (.r (.r (.r (.r (.r (.r (.r (.z (.z (.r .nil))))))))))) .nil)) (A5 hy11)]
 refine Ae (fun hv=>?_) fun hv=>?_
 subst hv
 refine Aj fun x12 hx12=>?_
 refine Aj ?_
 rintro ⟨y13a,y13b⟩ hy13
 dsimp only
 intro h
 have hE:=Option.some.inj h
 obtain ⟨hE0,hF0⟩:=Prod.mk.inj hE
 subst hE0 hF0
 exact Aq Hd.Ac _ _ [] [none] (Aa 300 (o10++[CL (Bu .lost hx12),pk,AK (AL (AE hy13) 0)])) (by kernel_rfl) .body
 subst hv
 intro h
 have hE:=Option.some.inj h
 obtain ⟨hE0,hF0⟩:=Prod.mk.inj hE
 subst hE0 hF0
 exact Aq Hd.Ac _ _ [] [none] (Aa 300 o10) (by kernel_rfl) .body
 intro h
 have hE:=Option.some.inj h
 obtain ⟨hE0,hF0⟩:=Prod.mk.inj hE
 subst hE0 hF0
 exact Aq Hd.Ac _ _ [] [none] (Aa 300 (o9++[pb hb14,pb hb15])) (by kernel_rfl) .body
 let o11:List (PC P G):=o9++[pb hb14]
 refine Ae (fun hb16=>?_) fun hb16=>?_
 refine Aj fun y14 hy14=>?_
 let o12:List (PC P G):=o11++[pb hb16,Ev (.r (.g (.r (.r (.r (.r (.r (.r (.r (.r (.z (.z (.r .nil))))))))))) .nil)) (A5 hy14)]
 refine Ae (fun hv=>?_) fun hv=>?_
 subst hv
 refine Aj ?_
 rintro ⟨y15a,y15b⟩ hy15
 dsimp only
 intro h
 have hE:=Option.some.inj h
 obtain ⟨hE0,hF0⟩:=Prod.mk.inj hE
 subst hE0 hF0
 exact Aq Hd.Ac _ _ [] [none] (Aa 300 (o12++[AK (Jq (C4 hy15) 0)])) (by kernel_rfl) .body
 subst hv
 intro h
 have hE:=Option.some.inj h
 obtain ⟨hE0,hF0⟩:=Prod.mk.inj hE
 subst hE0 hF0
 exact Aq Hd.Ac _ _ [] [none] (Aa 300 o12) (by kernel_rfl) .body
 let o13:List (PC P G):=o11++[pb hb16]
 refine Ae (fun hb17=>?_) fun hb17=>?_
 refine Ae (fun hb18=>?_) fun hb18=>?_
 refine Aj fun y16 hy16=>?_
 let o14:List (PC P G):=o13++[pb hb17,pb hb18,Ev (.r (.g (.r (.r (.r (.r (.r (.r (.r (.r (.z (.z (.r .nil))))))))))) .nil)) (A5 hy16)]
 refine Ae (fun hv=>?_) fun hv=>?_
 subst hv
 refine Ae (fun hb19=>?_) fun hb19=>?_
 refine Aj ?_
 rintro ⟨y17a,y17b⟩ hy17
 dsimp only
 intro h
 have hE:=Option.some.inj h
 obtain ⟨hE0,hF0⟩:=Prod.mk.inj hE
 subst hE0 hF0
 exact Aq Hd.Ac _ _ [] [none] (Aa 300 (o14++[pb hb19,pk,AK (Fz (BW hy17) 0)])) (by kernel_rfl) .body
 intro h
 have hE:=Option.some.inj h
 obtain ⟨hE0,hF0⟩:=Prod.mk.inj hE
 subst hE0 hF0
 exact Aq Hd.Ac _ _ [] [none] (Aa 300 (o14++[pb hb19])) (by kernel_rfl) .body
 subst hv
 intro h
 have hE:=Option.some.inj h
 obtain ⟨hE0,hF0⟩:=Prod.mk.inj hE
 subst hE0 hF0
 exact Aq Hd.Ac _ _ [] [none] (Aa 300 o14) (by kernel_rfl) .body
 refine Ae (fun hb20=>?_) fun hb20=>?_
 refine Aj fun y18 hy18=>?_
 let o15:List (PC P G):=o13++[pb hb17,pb hb18,pb hb20,Ev (.r (.g (.r (.r (.r (.r (.r (.r (.r (.r (.z (.z (.r .nil))))))))))) .nil)) (A5 hy18)]
 refine Ae (fun hv=>?_) fun hv=>?_
 subst hv
 refine Ae (fun hb21=>?_) fun hb21=>?_
 refine Aj ?_
 rintro ⟨y19a,y19b⟩ hy19
 dsimp only
 intro h
 have hE:=Option.some.inj h
 obtain ⟨hE0,hF0⟩:=Prod.mk.inj hE
 subst hE0 hF0
 exact Aq Hd.Ac _ _ [] [none] (Aa 300 (o15++[pb hb21,pk,AK (Fz (BW hy19) 0)])) (by kernel_rfl) .body
 intro h
 have hE:=Option.some.inj h
 obtain ⟨hE0,hF0⟩:=Prod.mk.inj hE
 subst hE0 hF0
 exact Aq Hd.Ac _ _ [] [none] (Aa 300 (o15++[pb hb21])) (by kernel_rfl) .body
 subst hv
 intro h
 have hE:=Option.some.inj h
 obtain ⟨hE0,hF0⟩:=Prod.mk.inj hE
 subst hE0 hF0
 exact Aq Hd.Ac _ _ [] [none] (Aa 300 o15) (by kernel_rfl) .body
 intro h
 have hE:=Option.some.inj h
 obtain ⟨hE0,hF0⟩:=Prod.mk.inj hE
 subst hE0 hF0
 exact Aq Hd.Ac _ _ [] [none] (Aa 300 (o13++[pb hb17,pb hb18,pb hb20])) (by kernel_rfl) .body
 refine Ae (fun hb22=>?_) fun hb22=>?_
 refine Aj fun y20 hy20=>?_
 let o16:List (PC P G):=o13++[pb hb17,pb hb22,Ev (.r (.g (.r (.r (.r (.r (.r (.r (.r (.r (.r (.z (.r .nil))))))))))) .nil)) (A5 hy20)]
 refine Ae (fun hv=>?_) fun hv=>?_
 subst hv
 refine Aj fun y21 hy21=>?_
 refine Ae (fun hv=>?_) fun hv=>?_
 subst hv
 refine Ae (fun hb23=>?_) fun hb23=>?_
 refine Aj fun x22 hx22=>?_
 refine Aj ?_
 rintro ⟨y23a,y23b⟩ hy23
 dsimp only
 intro h
 have hE:=Option.some.inj h
 obtain ⟨hE0,hF0⟩:=Prod.mk.inj hE
 subst hE0 hF0
 exact Aq Hd.Ac _ _ [] [none] (Aa 300 (o16++[Ak (EJ hy21),pb hb23,CL (Bu .lost hx22),pk,AK (AL (AE hy23) 0)])) (by kernel_rfl) .body
 intro h
 have hE:=Option.some.inj h
 obtain ⟨hE0,hF0⟩:=Prod.mk.inj hE
 subst hE0 hF0
 exact Aq Hd.Ac _ _ [] [none] (Aa 300 (o16++[Ak (EJ hy21),pb hb23])) (by kernel_rfl) .body
 subst hv
 intro h
 have hE:=Option.some.inj h
 obtain ⟨hE0,hF0⟩:=Prod.mk.inj hE
 subst hE0 hF0
 exact Aq Hd.Ac _ _ [] [none] (Aa 300 (o16++[Ak (EJ hy21)])) (by kernel_rfl) .body
 subst hv
 intro h
 have hE:=Option.some.inj h
 obtain ⟨hE0,hF0⟩:=Prod.mk.inj hE
 subst hE0 hF0
 exact Aq Hd.Ac _ _ [] [none] (Aa 300 o16) (by kernel_rfl) .body
 intro h
 have hE:=Option.some.inj h
 obtain ⟨hE0,hF0⟩:=Prod.mk.inj hE
 subst hE0 hF0
 exact Aq Hd.Ac _ _ [] [none] (Aa 300 (o13++[pb hb17,pb hb22])) (by kernel_rfl) .body
 subst hv
 intro h
 have hE:=Option.some.inj h
 obtain ⟨hE0,hF0⟩:=Prod.mk.inj hE
 subst hE0 hF0
 exact Aq Hd.Ac _ _ [] [none] (Aa 300 o1) (by kernel_rfl) .body
noncomputable def B80:Code:=A4 Tryz.f80
theorem b80:Tryz.f80.body=some B80:=by kernel_rfl
noncomputable def Bz (Ai:Ck→Nd→Int→Option (Bool×Int)) (Ay:Ck→Nd→Int→Option (Bool×Int)) (Az:Ck→Nd→Int→Option (Bool×Int)) (Ap:Ck→(List Nd)→Int→Option (Bool×Int)) (c:Ck) (n:Nd) (depth:Int):Option (Bool×Int):=cond (Br ((n.kids.length:Nat):Int) 2) ((n.kids[0]?).bind fun x1=>(Ai c x1 (BK depth 1)).bind fun (y2a,y2b)=>cond y2a (cond (BL n.name.data.toList Jm.data.toList) ((n.kids[1]?).bind fun x3=>(Az (⟨y2b⟩:Ck) x3 (BK depth 1)).bind fun (y4a,y4b)=>some (y4a,y4b)) (cond (BL n.name.data.toList Sl.data.toList) ((n.kids[1]?).bind fun x5=>(Ai (⟨y2b⟩:Ck) x5 (BK depth 1)).bind fun (y6a,y6b)=>some (y6a,y6b)) (cond (BL n.name.data.toList IK.data.toList) ((n.kids[1]?).bind fun x7=>(Ai (⟨y2b⟩:Ck) x7 (BK depth 1)).bind fun (y8a,y8b)=>some (y8a,y8b)) (cond (BL n.name.data.toList IF.data.toList) ((n.kids[1]?).bind fun x9=>(Ai (⟨y2b⟩:Ck) x9 (BK depth 1)).bind fun (y10a,y10b)=>some (y10a,y10b)) (cond (BL n.name.data.toList Is.data.toList) ((n.kids[1]?).bind fun x11=>(Ai (⟨y2b⟩:Ck) x11 (BK depth 1)).bind fun (y12a,y12b)=>some (y12a,y12b)) (cond (BL n.name.data.toList PQ.data.toList) ((n.kids[1]?).bind fun x13=>(Ai (⟨y2b⟩:Ck) x13 (BK depth 1)).bind fun (y14a,y14b)=>some (y14a,y14b)) (cond (BL n.name.data.toList Iu.data.toList) ((n.kids[1]?).bind fun x15=>(Ai (⟨y2b⟩:Ck) x15 (BK depth 1)).bind fun (y16a,y16b)=>some (y16a,y16b)) (cond (BL n.name.data.toList K6.data.toList) ((n.kids[1]?).bind fun x17=>(Ai (⟨y2b⟩:Ck) x17 (BK depth 1)).bind fun (y18a,y18b)=>some (y18a,y18b)) (cond (BL n.name.data.toList H7.data.toList) ((n.kids[1]?).bind fun x19=>(Ai (⟨y2b⟩:Ck) x19 (BK depth 1)).bind fun (y20a,y20b)=>some (y20a,y20b)) (cond (BL n.name.data.toList O7.data.toList) ((n.kids[1]?).bind fun x21=>(Ai (⟨y2b⟩:Ck) x21 (BK depth 1)).bind fun (y22a,y22b)=>some (y22a,y22b)) (cond (BL n.name.data.toList Tl.data.toList) ((n.kids[1]?).bind fun x23=>(Ai (⟨y2b⟩:Ck) x23 (BK depth 1)).bind fun (y24a,y24b)=>some (y24a,y24b)) (some (false,y2b))))))))))))) (some (false,y2b))) (some (false,c.nodes))
theorem Iw (Ai:Ck→Nd→Int→Option (Bool×Int)) (Ay:Ck→Nd→Int→Option (Bool×Int)) (Az:Ck→Nd→Int→Option (Bool×Int)) (Ap:Ck→(List Nd)→Int→Option (Bool×Int)) (AE:∀ {c:Ck} {n:Nd} {depth:Int} {yR:Bool} {qc_nodesR:Int},Ai c n depth=some (yR,qc_nodesR)→Sound P G (.call 49 [.ptr 0 0,.agg (A9 n),.sc (.int .i64 depth)] ⟨[(0,.cells (EQ c))],1,[],0⟩ (.ret (.sc (.bool yR))) ⟨[(0,.cells [.sc (.int .i64 qc_nodesR)])],1,[],0⟩)) (C4:∀ {c:Ck} {n:Nd} {depth:Int} {yR:Bool} {qc_nodesR:Int},Ay c n depth=some (yR,qc_nodesR)→Sound P G (.call 80 [.ptr 0 0,.agg (A9 n),.sc (.int .i64 depth)] ⟨[(0,.cells (EQ c))],1,[],0⟩ (.ret (.sc (.bool yR))) ⟨[(0,.cells [.sc (.int .i64 qc_nodesR)])],1,[],0⟩)) (C3:∀ {c:Ck} {n:Nd} {depth:Int} {yR:Bool} {qc_nodesR:Int},Az c n depth=some (yR,qc_nodesR)→Sound P G (.call 115 [.ptr 0 0,.agg (A9 n),.sc (.int .i64 depth)] ⟨[(0,.cells (EQ c))],1,[],0⟩ (.ret (.sc (.bool yR))) ⟨[(0,.cells [.sc (.int .i64 qc_nodesR)])],1,[],0⟩)) (BW:∀ {c:Ck} {list:(List Nd)} {depth:Int} {yR:Bool} {qc_nodesR:Int},Ap c list depth=some (yR,qc_nodesR)→Sound P G (.call 52 [.ptr 0 0,.sl .lost list.length (A7 list),.sc (.int .i64 depth),.fn (.func 49) [.ptr 0 0] []] ⟨[(0,.cells (EQ c))],1,[],0⟩ (.ret (.sc (.bool yR))) ⟨[(0,.cells [.sc (.int .i64 qc_nodesR)])],1,[],0⟩)) {c:Ck} {n:Nd} {depth:Int} {yR:Bool} {qc_nodesR:Int} (h:Bz Ai Ay Az Ap c n depth=some (yR,qc_nodesR)):Sound P G (.call 80 [.ptr 0 0,.agg (A9 n),.sc (.int .i64 depth)] ⟨[(0,.cells (EQ c))],1,[],0⟩ (.ret (.sc (.bool yR))) ⟨[(0,.cells [.sc (.int .i64 qc_nodesR)])],1,[],0⟩):=by
 unfold Bz at h
 refine E4 Hd.mixed (AG Tryz.func80 b80 ?_)
 revert h
 refine Ae (fun hb1=>?_) fun hb1=>?_
 refine Aj fun x1 hx1=>?_
 refine Aj ?_
 rintro ⟨y2a,y2b⟩ hy2
 dsimp only
 let o1:List (PC P G):=[pn hb1,CL (Bu .lost hx1),pk,AK (AL (AE hy2) 0)]
 refine Ae (fun hv=>?_) fun hv=>?_
 subst hv
 refine Ae (fun hb2=>?_) fun hb2=>?_
 refine Aj fun x3 hx3=>?_
 refine Aj ?_
 rintro ⟨y4a,y4b⟩ hy4
 dsimp only
 intro h
 have hE:=Option.some.inj h
 obtain ⟨hE0,hF0⟩:=Prod.mk.inj hE
 subst hE0 hF0
 exact Aq Hd.Ac _ _ [] [none] (Aa 300 (o1++[pb hb2,CL (Bu .lost hx3),pk,AK (F7 (C3 hy4) 0)])) (by kernel_rfl) .body
 let o2:List (PC P G):=o1++[pb hb2]
 refine Ae (fun hb3=>?_) fun hb3=>?_
 refine Aj fun x5 hx5=>?_
 refine Aj ?_
 rintro ⟨y6a,y6b⟩ hy6
 dsimp only
 intro h
 have hE:=Option.some.inj h
 obtain ⟨hE0,hF0⟩:=Prod.mk.inj hE
 subst hE0 hF0
 exact Aq Hd.Ac _ _ [] [none] (Aa 300 (o2++[pb hb3,CL (Bu .lost hx5),pk,AK (AL (AE hy6) 0)])) (by kernel_rfl) .body
 refine Ae (fun hb4=>?_) fun hb4=>?_
 refine Aj fun x7 hx7=>?_
 refine Aj ?_
 rintro ⟨y8a,y8b⟩ hy8
 dsimp only
 intro h
 have hE:=Option.some.inj h
 obtain ⟨hE0,hF0⟩:=Prod.mk.inj hE
 subst hE0 hF0
 exact Aq Hd.Ac _ _ [] [none] (Aa 300 (o2++[pb hb3,pb hb4,CL (Bu .lost hx7),pk,AK (AL (AE hy8) 0)])) (by kernel_rfl) .body
 let o3:List (PC P G):=o2++[pb hb3,pb hb4]
 refine Ae (fun hb5=>?_) fun hb5=>?_
 refine Aj fun x9 hx9=>?_
 refine Aj ?_
 rintro ⟨y10a,y10b⟩ hy10
 dsimp only
 intro h
 have hE:=Option.some.inj h
 obtain ⟨hE0,hF0⟩:=Prod.mk.inj hE
 subst hE0 hF0
 exact Aq Hd.Ac _ _ [] [none] (Aa 300 (o3++[pb hb5,CL (Bu .lost hx9),pk,AK (AL (AE hy10) 0)])) (by kernel_rfl) .body
 refine Ae (fun hb6=>?_) fun hb6=>?_
 refine Aj fun x11 hx11=>?_
 refine Aj ?_
 rintro ⟨y12a,y12b⟩ hy12
 dsimp only
 intro h
 have hE:=Option.some.inj h
 obtain ⟨hE0,hF0⟩:=Prod.mk.inj hE
 subst hE0 hF0
 exact Aq Hd.Ac _ _ [] [none] (Aa 300 (o3++[pb hb5,pb hb6,CL (Bu .lost hx11),pk,AK (AL (AE hy12) 0)])) (by kernel_rfl) .body
 let o4:List (PC P G):=o3++[pb hb5,pb hb6]
 refine Ae (fun hb7=>?_) fun hb7=>?_
 refine Aj fun x13 hx13=>?_
 refine Aj ?_
 rintro ⟨y14a,y14b⟩ hy14
 dsimp only
 intro h
 have hE:=Option.some.inj h
 obtain ⟨hE0,hF0⟩:=Prod.mk.inj hE
 subst hE0 hF0
 exact Aq Hd.Ac _ _ [] [none] (Aa 300 (o4++[pb hb7,CL (Bu .lost hx13),pk,AK (AL (AE hy14) 0)])) (by kernel_rfl) .body
 refine Ae (fun hb8=>?_) fun hb8=>?_
 refine Aj fun x15 hx15=>?_
 refine Aj ?_
 rintro ⟨y16a,y16b⟩ hy16
 dsimp only
 intro h
 have hE:=Option.some.inj h
 obtain ⟨hE0,hF0⟩:=Prod.mk.inj hE
 subst hE0 hF0
 exact Aq Hd.Ac _ _ [] [none] (Aa 300 (o4++[pb hb7,pb hb8,CL (Bu .lost hx15),pk,AK (AL (AE hy16) 0)])) (by kernel_rfl) .body
 refine Ae (fun hb9=>?_) fun hb9=>?_
 refine Aj fun x17 hx17=>?_
 refine Aj ?_
 rintro ⟨y18a,y18b⟩ hy18
 dsimp only
 intro h
 have hE:=Option.some.inj h
 obtain ⟨hE0,hF0⟩:=Prod.mk.inj hE
 subst hE0 hF0
 exact Aq Hd.Ac _ _ [] [none] (Aa 300 (o4++[pb hb7,pb hb8,pb hb9,CL (Bu .lost hx17),pk,AK (AL (AE hy18) 0)])) (by kernel_rfl) .body
 refine Ae (fun hb10=>?_) fun hb10=>?_
 refine Aj fun x19 hx19=>?_
 refine Aj ?_
 rintro ⟨y20a,y20b⟩ hy20
 dsimp only
 intro h
 have hE:=Option.some.inj h
 obtain ⟨hE0,hF0⟩:=Prod.mk.inj hE
 subst hE0 hF0
 exact Aq Hd.Ac _ _ [] [none] (Aa 300 (o4++[pb hb7,pb hb8,pb hb9,pb hb10,CL (Bu .lost hx19),pk,AK (AL (AE hy20) 0)])) (by kernel_rfl) .body
 refine Ae (fun hb11=>?_) fun hb11=>?_
 refine Aj fun x21 hx21=>?_
 refine Aj ?_
 rintro ⟨y22a,y22b⟩ hy22
 dsimp only
 intro h
 have hE:=Option.some.inj h
 obtain ⟨hE0,hF0⟩:=Prod.mk.inj hE
 subst hE0 hF0
 exact Aq Hd.Ac _ _ [] [none] (Aa 300 (o4++[pb hb7,pb hb8,pb hb9,pb hb10,pb hb11,CL (Bu .lost hx21),pk,AK (AL (AE hy22) 0)])) (by kernel_rfl) .body
 refine Ae (fun hb12=>?_) fun hb12=>?_
 refine Aj fun x23 hx23=>?_
 refine Aj ?_
 rintro ⟨y24a,y24b⟩ hy24
 dsimp only
 intro h
 have hE:=Option.some.inj h
 obtain ⟨hE0,hF0⟩:=Prod.mk.inj hE
 subst hE0 hF0
 exact Aq Hd.Ac _ _ [] [none] (Aa 300 (o4++[pb hb7,pb hb8,pb hb9,pb hb10,pb hb11,pb hb12,CL (Bu .lost hx23),pk,AK (AL (AE hy24) 0)])) (by kernel_rfl) .body
 intro h
 have hE:=Option.some.inj h
 obtain ⟨hE0,hF0⟩:=Prod.mk.inj hE
 subst hE0 hF0
 exact Aq Hd.Ac _ _ [] [none] (Aa 300 (o4++[pb hb7,pb hb8,pb hb9,pb hb10,pb hb11,pb hb12])) (by kernel_rfl) .body
 subst hv
 intro h
 have hE:=Option.some.inj h
 obtain ⟨hE0,hF0⟩:=Prod.mk.inj hE
 subst hE0 hF0
 exact Aq Hd.Ac _ _ [] [none] (Aa 300 o1) (by kernel_rfl) .body
 intro h
 have hE:=Option.some.inj h
 obtain ⟨hE0,hF0⟩:=Prod.mk.inj hE
 subst hE0 hF0
 exact Aq Hd.Ac _ _ [] [bp (J8.pl c)] (Aa 300 [pn hb1]) (by kernel_rfl) .body
noncomputable def wV:Code:=A4 Tryz.f115
theorem wA:Tryz.f115.body=some wV:=by kernel_rfl
noncomputable def BB (Ai:Ck→Nd→Int→Option (Bool×Int)) (Ay:Ck→Nd→Int→Option (Bool×Int)) (Az:Ck→Nd→Int→Option (Bool×Int)) (Ap:Ck→(List Nd)→Int→Option (Bool×Int)) (c:Ck) (n:Nd) (depth:Int):Option (Bool×Int):=(Ai c n depth).bind fun (y1a,y1b)=>cond y1a (cond (Br n.kind 11) (cond (BL n.unit.data.toList By.data.toList) ((BY n.n).bind fun y2=>some (y2,y1b)) (some (false,y1b))) (some (false,y1b))) (some (false,y1b))
theorem Ik (Ai:Ck→Nd→Int→Option (Bool×Int)) (Ay:Ck→Nd→Int→Option (Bool×Int)) (Az:Ck→Nd→Int→Option (Bool×Int)) (Ap:Ck→(List Nd)→Int→Option (Bool×Int)) (AE:∀ {c:Ck} {n:Nd} {depth:Int} {yR:Bool} {qc_nodesR:Int},Ai c n depth=some (yR,qc_nodesR)→Sound P G (.call 49 [.ptr 0 0,.agg (A9 n),.sc (.int .i64 depth)] ⟨[(0,.cells (EQ c))],1,[],0⟩ (.ret (.sc (.bool yR))) ⟨[(0,.cells [.sc (.int .i64 qc_nodesR)])],1,[],0⟩)) (C4:∀ {c:Ck} {n:Nd} {depth:Int} {yR:Bool} {qc_nodesR:Int},Ay c n depth=some (yR,qc_nodesR)→Sound P G (.call 80 [.ptr 0 0,.agg (A9 n),.sc (.int .i64 depth)] ⟨[(0,.cells (EQ c))],1,[],0⟩ (.ret (.sc (.bool yR))) ⟨[(0,.cells [.sc (.int .i64 qc_nodesR)])],1,[],0⟩)) (C3:∀ {c:Ck} {n:Nd} {depth:Int} {yR:Bool} {qc_nodesR:Int},Az c n depth=some (yR,qc_nodesR)→Sound P G (.call 115 [.ptr 0 0,.agg (A9 n),.sc (.int .i64 depth)] ⟨[(0,.cells (EQ c))],1,[],0⟩ (.ret (.sc (.bool yR))) ⟨[(0,.cells [.sc (.int .i64 qc_nodesR)])],1,[],0⟩)) (BW:∀ {c:Ck} {list:(List Nd)} {depth:Int} {yR:Bool} {qc_nodesR:Int},Ap c list depth=some (yR,qc_nodesR)→Sound P G (.call 52 [.ptr 0 0,.sl .lost list.length (A7 list),.sc (.int .i64 depth),.fn (.func 49) [.ptr 0 0] []] ⟨[(0,.cells (EQ c))],1,[],0⟩ (.ret (.sc (.bool yR))) ⟨[(0,.cells [.sc (.int .i64 qc_nodesR)])],1,[],0⟩)) {c:Ck} {n:Nd} {depth:Int} {yR:Bool} {qc_nodesR:Int} (h:BB Ai Ay Az Ap c n depth=some (yR,qc_nodesR)):Sound P G (.call 115 [.ptr 0 0,.agg (A9 n),.sc (.int .i64 depth)] ⟨[(0,.cells (EQ c))],1,[],0⟩ (.ret (.sc (.bool yR))) ⟨[(0,.cells [.sc (.int .i64 qc_nodesR)])],1,[],0⟩):=by
 unfold BB at h
 refine E4 Hd.mixed (AG Tryz.func115 wA ?_)
 revert h
 refine Aj ?_
 rintro ⟨y1a,y1b⟩ hy1
 dsimp only
 let o1:List (PC P G):=[AK (AL (AE hy1) 0)]
 refine Ae (fun hv=>?_) fun hv=>?_
 subst hv
 refine Ae (fun hb1=>?_) fun hb1=>?_
 refine Ae (fun hb2=>?_) fun hb2=>?_
 refine Aj fun y2 hy2=>?_
 intro h
 have hE:=Option.some.inj h
 obtain ⟨hE0,hF0⟩:=Prod.mk.inj hE
 subst hE0 hF0
 exact Aq Hd.Ac _ _ [] [none] (Aa 300 (o1++[pb hb1,pb hb2,Ak (DC hy2)])) (by kernel_rfl) .body
 intro h
 have hE:=Option.some.inj h
 obtain ⟨hE0,hF0⟩:=Prod.mk.inj hE
 subst hE0 hF0
 exact Aq Hd.Ac _ _ [] [none] (Aa 300 (o1++[pb hb1,pb hb2])) (by kernel_rfl) .body
 intro h
 have hE:=Option.some.inj h
 obtain ⟨hE0,hF0⟩:=Prod.mk.inj hE
 subst hE0 hF0
 exact Aq Hd.Ac _ _ [] [none] (Aa 300 (o1++[pb hb1])) (by kernel_rfl) .body
 subst hv
 intro h
 have hE:=Option.some.inj h
 obtain ⟨hE0,hF0⟩:=Prod.mk.inj hE
 subst hE0 hF0
 exact Aq Hd.Ac _ _ [] [none] (Aa 300 o1) (by kernel_rfl) .body
noncomputable def bJ:Code:=A4 Tryz.f52
theorem uM:Tryz.f52.body=some bJ:=by kernel_rfl
noncomputable def BX (Ai:Ck→Nd→Int→Option (Bool×Int)) (Ay:Ck→Nd→Int→Option (Bool×Int)) (Az:Ck→Nd→Int→Option (Bool×Int)) (Ap:Ck→(List Nd)→Int→Option (Bool×Int)) (depth:Int) (i0:Nat) (e0:Nd) (w0_0:Int):Option (Lp Int Int (Bool×Int)):=(Ai (⟨w0_0⟩:Ck) e0 depth).bind fun (y1a,y1b)=>cond y1a (some (.nx y1b)) (some (.rt (false,y1b)))
noncomputable def BG (Ai:Ck→Nd→Int→Option (Bool×Int)) (Ay:Ck→Nd→Int→Option (Bool×Int)) (Az:Ck→Nd→Int→Option (Bool×Int)) (Ap:Ck→(List Nd)→Int→Option (Bool×Int)) (c:Ck) (list:(List Nd)) (depth:Int):Option (Bool×Int):=(Gv list.length (AT (fun i y x=>BX Ai Ay Az Ap depth i y x) (fun x=>x) (list.drop 0) 0 c.nodes)).bind (GF (fun (w0_0_2:Int)=>some (true,w0_0_2)) (fun v=>some v))
theorem Hr (Ai:Ck→Nd→Int→Option (Bool×Int)) (Ay:Ck→Nd→Int→Option (Bool×Int)) (Az:Ck→Nd→Int→Option (Bool×Int)) (Ap:Ck→(List Nd)→Int→Option (Bool×Int)) (AE:∀ {c:Ck} {n:Nd} {depth:Int} {yR:Bool} {qc_nodesR:Int},Ai c n depth=some (yR,qc_nodesR)→Sound P G (.call 49 [.ptr 0 0,.agg (A9 n),.sc (.int .i64 depth)] ⟨[(0,.cells (EQ c))],1,[],0⟩ (.ret (.sc (.bool yR))) ⟨[(0,.cells [.sc (.int .i64 qc_nodesR)])],1,[],0⟩)) (C4:∀ {c:Ck} {n:Nd} {depth:Int} {yR:Bool} {qc_nodesR:Int},Ay c n depth=some (yR,qc_nodesR)→Sound P G (.call 80 [.ptr 0 0,.agg (A9 n),.sc (.int .i64 depth)] ⟨[(0,.cells (EQ c))],1,[],0⟩ (.ret (.sc (.bool yR))) ⟨[(0,.cells [.sc (.int .i64 qc_nodesR)])],1,[],0⟩)) (C3:∀ {c:Ck} {n:Nd} {depth:Int} {yR:Bool} {qc_nodesR:Int},Az c n depth=some (yR,qc_nodesR)→Sound P G (.call 115 [.ptr 0 0,.agg (A9 n),.sc (.int .i64 depth)] ⟨[(0,.cells (EQ c))],1,[],0⟩ (.ret (.sc (.bool yR))) ⟨[(0,.cells [.sc (.int .i64 qc_nodesR)])],1,[],0⟩)) (BW:∀ {c:Ck} {list:(List Nd)} {depth:Int} {yR:Bool} {qc_nodesR:Int},Ap c list depth=some (yR,qc_nodesR)→Sound P G (.call 52 [.ptr 0 0,.sl .lost list.length (A7 list),.sc (.int .i64 depth),.fn (.func 49) [.ptr 0 0] []] ⟨[(0,.cells (EQ c))],1,[],0⟩ (.ret (.sc (.bool yR))) ⟨[(0,.cells [.sc (.int .i64 qc_nodesR)])],1,[],0⟩)) {c:Ck} {list:(List Nd)} {depth:Int} {yR:Bool} {qc_nodesR:Int} (h:BG Ai Ay Az Ap c list depth=some (yR,qc_nodesR)):Sound P G (.call 52 [.ptr 0 0,.sl .lost list.length (A7 list),.sc (.int .i64 depth),.fn (.func 49) [.ptr 0 0] []] ⟨[(0,.cells (EQ c))],1,[],0⟩ (.ret (.sc (.bool yR))) ⟨[(0,.cells [.sc (.int .i64 qc_nodesR)])],1,[],0⟩):=by
 unfold BG at h
 refine E4 Hd.mixed (AG Tryz.func52 uM ?_)
 revert h
 refine DJ (fun Q v=>Je P G Tryz.f52 1 ⟨[(0,.cells (EQ c))],1,[],0⟩ Q (.sc (.bool v.1)) ⟨[(0,.cells [.sc (.int .i64 v.2)])],1,[],0⟩) (fun i0 (w0_0:Int) (j0:List Value)=>fr 23 [(2,.sc (.int .i64 depth)),(3,.fn (.func 49) [.ptr 0 0] []),(11,.sl .lost list.length (A7 list)),(12,.sc (.int .i64 ((list.length:Nat):Int))),(13,.sc (.int .i64 ((i0:Nat):Int)))] [8,14,20,21] j0) (fun (w0_0:Int)=>⟨[(0,.cells [.sc (.int .i64 w0_0)])],1,[],0⟩) (fun (w0_0:Int) (jx:List Value)=>fr 23 [] [8,14,20,21] jx) (fun (w0_0:Int)=>⟨[(0,.cells [.sc (.int .i64 w0_0)])],1,[],0⟩) [.bool false] (DG [] 0 (sb bJ 52) [.code (sb bJ 7)] (Aa 300 []) (by kernel_rfl)) ?_ ?_ ?_ (fun v h=>by cases h;exact .outer .body)
 rintro i0 w0_0 j0 hge hq
 exact BV (Aa 300 [pb (II hge)]) (by kernel_rfl) (hq (js 4 j0 [(1,.bool false)]))
 rintro i0 e0 w0_0 j0 r he0 hi0 mi0 k
 show BX Ai Ay Az Ap depth i0 e0 w0_0=some r→_
 unfold BX
 refine Aj ?_
 rintro ⟨y1a,y1b⟩ hy1
 dsimp only
 let o1:List (PC P G):=[pb (F5 hi0),CL (Bu .lost he0),AK (AL (AE hy1) 0)]
 refine Ae (fun hv=>?_) fun hv=>?_
 subst hv
 rintro ⟨⟩
 exact B4 Hd.Ac [fq (Am.EL list)] [none] (Aa 300 (o1++[pi mi0])) (by kernel_rfl) (k [(jv j0 0),.bool true,.bool true,.bool false])
 subst hv
 rintro ⟨⟩
 exact Aq Hd.Ac _ _ [] [none] (Aa 300 o1) (by kernel_rfl) (.GX k)
 rintro w0_0_2 jx_2
 intro h
 have hE:=Option.some.inj h
 obtain ⟨hE0,hF0⟩:=Prod.mk.inj hE
 subst hE0 hF0
 exact Aq Hd.Ac _ _ [] [none] (BU 300 []) (by kernel_rfl) .body
mutual
noncomputable def At:Nat→Ck→Nd→Int→Option (Bool×Int)
 | 0,_,_,_=>none
 | qn+1,c,n,depth=>Cj (At qn) (AD qn) (Av qn) (As qn) c n depth
noncomputable def AD:Nat→Ck→Nd→Int→Option (Bool×Int)
 | 0,_,_,_=>none
 | qn+1,c,n,depth=>Bz (At qn) (AD qn) (Av qn) (As qn) c n depth
noncomputable def Av:Nat→Ck→Nd→Int→Option (Bool×Int)
 | 0,_,_,_=>none
 | qn+1,c,n,depth=>BB (At qn) (AD qn) (Av qn) (As qn) c n depth
noncomputable def As:Nat→Ck→(List Nd)→Int→Option (Bool×Int)
 | 0,_,_,_=>none
 | qn+1,c,list,depth=>BG (At qn) (AD qn) (Av qn) (As qn) c list depth
end
theorem F3:∀ qn:Nat,(∀ {c:Ck} {n:Nd} {depth:Int} {yR:Bool} {qc_nodesR:Int},At qn c n depth=some (yR,qc_nodesR)→Sound P G (.call 49 [.ptr 0 0,.agg (A9 n),.sc (.int .i64 depth)] ⟨[(0,.cells (EQ c))],1,[],0⟩ (.ret (.sc (.bool yR))) ⟨[(0,.cells [.sc (.int .i64 qc_nodesR)])],1,[],0⟩))∧(∀ {c:Ck} {n:Nd} {depth:Int} {yR:Bool} {qc_nodesR:Int},AD qn c n depth=some (yR,qc_nodesR)→Sound P G (.call 80 [.ptr 0 0,.agg (A9 n),.sc (.int .i64 depth)] ⟨[(0,.cells (EQ c))],1,[],0⟩ (.ret (.sc (.bool yR))) ⟨[(0,.cells [.sc (.int .i64 qc_nodesR)])],1,[],0⟩))∧(∀ {c:Ck} {n:Nd} {depth:Int} {yR:Bool} {qc_nodesR:Int},Av qn c n depth=some (yR,qc_nodesR)→Sound P G (.call 115 [.ptr 0 0,.agg (A9 n),.sc (.int .i64 depth)] ⟨[(0,.cells (EQ c))],1,[],0⟩ (.ret (.sc (.bool yR))) ⟨[(0,.cells [.sc (.int .i64 qc_nodesR)])],1,[],0⟩))∧(∀ {c:Ck} {list:(List Nd)} {depth:Int} {yR:Bool} {qc_nodesR:Int},As qn c list depth=some (yR,qc_nodesR)→Sound P G (.call 52 [.ptr 0 0,.sl .lost list.length (A7 list),.sc (.int .i64 depth),.fn (.func 49) [.ptr 0 0] []] ⟨[(0,.cells (EQ c))],1,[],0⟩ (.ret (.sc (.bool yR))) ⟨[(0,.cells [.sc (.int .i64 qc_nodesR)])],1,[],0⟩)):=by
 intro qn
 induction qn with
 | zero=>exact ⟨(fun h=>by simp only [At] at h;cases h),(fun h=>by simp only [AD] at h;cases h),(fun h=>by simp only [Av] at h;cases h),(fun h=>by simp only [As] at h;cases h)⟩
 | succ qn ih=>exact ⟨(fun h=>I6 (At qn) (AD qn) (Av qn) (As qn) ih.1 ih.2.1 ih.2.2.1 ih.2.2.2 (by rw [At] at h;exact h)),(fun h=>Iw (At qn) (AD qn) (Av qn) (As qn) ih.1 ih.2.1 ih.2.2.1 ih.2.2.2 (by rw [AD] at h;exact h)),(fun h=>Ik (At qn) (AD qn) (Av qn) (As qn) ih.1 ih.2.1 ih.2.2.1 ih.2.2.2 (by rw [Av] at h;exact h)),(fun h=>Hr (At qn) (AD qn) (Av qn) (As qn) ih.1 ih.2.1 ih.2.2.1 ih.2.2.2 (by rw [As] at h;exact h))⟩
noncomputable def DE (c:Ck) (n:Nd) (depth:Int):Option (Bool×Int):=V8 (fun qn=>At qn c n depth)
theorem Gw {c:Ck} {n:Nd} {depth:Int} {yR:Bool} {qc_nodesR:Int} (h:DE c n depth=some (yR,qc_nodesR)):Sound P G (.call 49 [.ptr 0 0,.agg (A9 n),.sc (.int .i64 depth)] ⟨[(0,.cells (EQ c))],1,[],0⟩ (.ret (.sc (.bool yR))) ⟨[(0,.cells [.sc (.int .i64 qc_nodesR)])],1,[],0⟩):=by
 obtain ⟨qn,h⟩:=Tu h
 exact (F3 qn).1 h
noncomputable def Df (c:Ck) (n:Nd) (depth:Int):Option (Bool×Int):=V8 (fun qn=>Av qn c n depth)
theorem I2 {c:Ck} {n:Nd} {depth:Int} {yR:Bool} {qc_nodesR:Int} (h:Df c n depth=some (yR,qc_nodesR)):Sound P G (.call 115 [.ptr 0 0,.agg (A9 n),.sc (.int .i64 depth)] ⟨[(0,.cells (EQ c))],1,[],0⟩ (.ret (.sc (.bool yR))) ⟨[(0,.cells [.sc (.int .i64 qc_nodesR)])],1,[],0⟩):=by
 obtain ⟨qn,h⟩:=Tu h
 exact (F3 qn).2.2.1 h
noncomputable def uS:Code:=A4 Tryz.f116
theorem wC:Tryz.f116.body=some uS:=by kernel_rfl
noncomputable def Dt  (day:Int):Option Bool:=cond (K2 0 day) (cond (K2 day 36524) (some true) (some false)) (some false)
theorem FC   {day:Int} {yR:Bool} (h:Dt  day=some yR):Pure P G 116 [.sc (.int .i64 day)] (.sc (.bool yR)):=by
 unfold Dt at h
 refine BH Hd.mixed Hd.Ac (AG Tryz.func116 wC ?_) (Bl rfl rfl) rfl
 revert h
 refine Ae (fun hb1=>?_) fun hb1=>?_
 refine Ae (fun hb2=>?_) fun hb2=>?_
 rintro ⟨⟩
 exact rS (Aa 300 [pb hb1,pb hb2]) (by kernel_rfl)
 rintro ⟨⟩
 exact rS (Aa 300 [pb hb1,pb hb2]) (by kernel_rfl)
 rintro ⟨⟩
 exact rS (Aa 300 [pb hb1]) (by kernel_rfl)
noncomputable def B83:Code:=A4 Tryz.f83
theorem b83:Tryz.f83.body=some B83:=by kernel_rfl
noncomputable def CV  (c:Ck) (n:Nd) (depth:Int):Option (Bool×Int):=(Bf c n depth).bind fun (y1a,y1b)=>cond y1a (cond (Br n.kind 5) (cond (FV n.n 0) (some (false,y1b)) (cond (FV 1000000 n.n) (some (false,y1b)) (cond (FV 0 ((n.kids.length:Nat):Int)) (some (false,y1b)) ((Dt n.fr).bind fun y2=>cond y2 (cond (K2 n.to n.fr) (some (false,y1b)) (cond (FV 36525 n.to) (some (false,y1b)) ((Dt n.known).bind fun y3=>cond y3 ((A6 n (⟨0,ByteArray.empty,ByteArray.empty,n.n,n.fr,n.to,n.known,(⟨0,[]⟩:Fn),[],0⟩:Nd)).bind fun y4=>some (y4,y1b)) (some (false,y1b))))) (some (false,y1b)))))) (some (false,y1b))) (some (false,y1b))
theorem Kb {c:Ck} {n:Nd} {depth:Int} {yR:Bool} {qc_nodesR:Int} (hS:Sound P G (.call 83 [.ptr 0 0,.agg (A9 n),.sc (.int .i64 depth)] ⟨[(0,.cells (EQ c))],1,[],0⟩ (.ret (.sc (.bool yR))) ⟨[(0,.cells [.sc (.int .i64 qc_nodesR)])],1,[],0⟩)) (u0:Nat) (hnb:[u0].Nodup:=by decide) (hnt:([]:List Nat).Nodup:=by decide):Cd.ok P G (.callU 83 [.ptr u0 0,.agg (A9 n),.sc (.int .i64 depth)] (.ret (.sc (.bool yR))) [(u0,.cells (EQ c))] [] [(u0,.cells [.sc (.int .i64 qc_nodesR)])] []) :=
 ER (M:=[.cells (EQ c)]) (M2:=[.cells [.sc (.int .i64 qc_nodesR)]]) (T:=[]) (T2:=[]) (k:=1) (j:=0) Hd.Ac _ _ _ _ hS rfl rfl rfl rfl rfl hnb hnt rfl rfl (.cons (.cells (.pl (J8.pl c))) .nil) (.cons (.cells (.pl (Bl rfl rfl))) .nil) (.cons (.ptr (by decide)) (.cons (.pl (Am.F1 n)) (.cons (.pl rfl) .nil))) (.pl rfl) (fun e he=>by simp only [List.mem_singleton] at he;subst he;exact (.arg (.here .ptr)))
theorem I3   {c:Ck} {n:Nd} {depth:Int} {yR:Bool} {qc_nodesR:Int} (h:CV  c n depth=some (yR,qc_nodesR)):Sound P G (.call 83 [.ptr 0 0,.agg (A9 n),.sc (.int .i64 depth)] ⟨[(0,.cells (EQ c))],1,[],0⟩ (.ret (.sc (.bool yR))) ⟨[(0,.cells [.sc (.int .i64 qc_nodesR)])],1,[],0⟩):=by
 unfold CV at h
 refine E4 Hd.mixed (AG Tryz.func83 b83 ?_)
 revert h
 refine Aj ?_
 rintro ⟨y1a,y1b⟩ hy1
 dsimp only
 let o1:List (PC P G):=[AK (CW (Cl hy1) 0)]
 refine Ae (fun hv=>?_) fun hv=>?_
 subst hv
 refine Ae (fun hb1=>?_) fun hb1=>?_
 refine Ae (fun hb2=>?_) fun hb2=>?_
 intro h
 have hE:=Option.some.inj h
 obtain ⟨hE0,hF0⟩:=Prod.mk.inj hE
 subst hE0 hF0
 exact Aq Hd.Ac _ _ [] [none] (Aa 300 (o1++[pn hb1,pb hb2])) (by kernel_rfl) .body
 let o2:List (PC P G):=o1++[pn hb1,pb hb2]
 refine Ae (fun hb3=>?_) fun hb3=>?_
 intro h
 have hE:=Option.some.inj h
 obtain ⟨hE0,hF0⟩:=Prod.mk.inj hE
 subst hE0 hF0
 exact Aq Hd.Ac _ _ [] [none] (Aa 300 (o2++[pb hb3])) (by kernel_rfl) .body
 refine Ae (fun hb4=>?_) fun hb4=>?_
 intro h
 have hE:=Option.some.inj h
 obtain ⟨hE0,hF0⟩:=Prod.mk.inj hE
 subst hE0 hF0
 exact Aq Hd.Ac _ _ [] [none] (Aa 300 (o2++[pb hb3,pb hb4])) (by kernel_rfl) .body
 refine Aj fun y2 hy2=>?_
 let o3:List (PC P G):=o2++[pb hb3,pb hb4,Ak (FC hy2)]
 refine Ae (fun hv=>?_) fun hv=>?_
 subst hv
 refine Ae (fun hb5=>?_) fun hb5=>?_
 intro h
 have hE:=Option.some.inj h
 obtain ⟨hE0,hF0⟩:=Prod.mk.inj hE
 subst hE0 hF0
 exact Aq Hd.Ac _ _ [] [none] (Aa 300 (o3++[pb hb5])) (by kernel_rfl) .body
 refine Ae (fun hb6=>?_) fun hb6=>?_
 intro h
 have hE:=Option.some.inj h
 obtain ⟨hE0,hF0⟩:=Prod.mk.inj hE
 subst hE0 hF0
 exact Aq Hd.Ac _ _ [] [none] (Aa 300 (o3++[pb hb5,pb hb6])) (by kernel_rfl) .body
 refine Aj fun y3 hy3=>?_
 refine Ae (fun hv=>?_) fun hv=>?_
 subst hv
 refine Aj fun y4 hy4=>?_
 intro h
 have hE:=Option.some.inj h
 obtain ⟨hE0,hF0⟩:=Prod.mk.inj hE
 subst hE0 hF0
 exact Aq Hd.Ac _ _ [] [none] (Aa 300 (o3++[pb hb5,pb hb6,Ak (FC hy3),Ev (.r (.g (.r (.r (.r (.r (.r (.r (.r (.r (.z (.z (.r .nil))))))))))) .nil)) (A5 hy4)])) (by kernel_rfl) .body
 subst hv
 intro h
 have hE:=Option.some.inj h
 obtain ⟨hE0,hF0⟩:=Prod.mk.inj hE
 subst hE0 hF0
 exact Aq Hd.Ac _ _ [] [none] (Aa 300 (o3++[pb hb5,pb hb6,Ak (FC hy3)])) (by kernel_rfl) .body
 subst hv
 intro h
 have hE:=Option.some.inj h
 obtain ⟨hE0,hF0⟩:=Prod.mk.inj hE
 subst hE0 hF0
 exact Aq Hd.Ac _ _ [] [none] (Aa 300 o3) (by kernel_rfl) .body
 intro h
 have hE:=Option.some.inj h
 obtain ⟨hE0,hF0⟩:=Prod.mk.inj hE
 subst hE0 hF0
 exact Aq Hd.Ac _ _ [] [none] (Aa 300 (o1++[pn hb1])) (by kernel_rfl) .body
 subst hv
 intro h
 have hE:=Option.some.inj h
 obtain ⟨hE0,hF0⟩:=Prod.mk.inj hE
 subst hE0 hF0
 exact Aq Hd.Ac _ _ [] [none] (Aa 300 o1) (by kernel_rfl) .body
noncomputable def Dh  (depth:Int) (i0:Nat) (e0:Nd) (w0_0:Int):Option (Lp Int Int (Bool×Int)):=(Df (⟨w0_0⟩:Ck) e0 depth).bind fun (y1a,y1b)=>cond y1a (some (.nx y1b)) (some (.rt (false,y1b)))
noncomputable def Cy  (c:Ck) (list:(List Nd)) (depth:Int):Option (Bool×Int):=(Gv list.length (AT (fun i y x=>Dh  depth i y x) (fun x=>x) (list.drop 0) 0 c.nodes)).bind (GF (fun (w0_0_2:Int)=>some (true,w0_0_2)) (fun v=>some v))
theorem H6 {c:Ck} {list:(List Nd)} {depth:Int} {yR:Bool} {qc_nodesR:Int} (hS:Sound P G (.call 52 [.ptr 0 0,.sl .lost list.length (A7 list),.sc (.int .i64 depth),.fn (.func 115) [.ptr 0 0] []] ⟨[(0,.cells (EQ c))],1,[],0⟩ (.ret (.sc (.bool yR))) ⟨[(0,.cells [.sc (.int .i64 qc_nodesR)])],1,[],0⟩)) (u0:Nat) (hnb:[u0].Nodup:=by decide) (hnt:([]:List Nat).Nodup:=by decide):Cd.ok P G (.callU 52 [.ptr u0 0,.sl .lost list.length (A7 list),.sc (.int .i64 depth),.fn (.func 115) [.ptr u0 0] []] (.ret (.sc (.bool yR))) [(u0,.cells (EQ c))] [] [(u0,.cells [.sc (.int .i64 qc_nodesR)])] []) :=
 ER (M:=[.cells (EQ c)]) (M2:=[.cells [.sc (.int .i64 qc_nodesR)]]) (T:=[]) (T2:=[]) (k:=1) (j:=0) Hd.Ac _ _ _ _ hS rfl rfl rfl rfl rfl hnb hnt rfl rfl (.cons (.cells (.pl (J8.pl c))) .nil) (.cons (.cells (.pl (Bl rfl rfl))) .nil) (.cons (.ptr (by decide)) (.cons (.pl (Am.EL list)) (.cons (.pl rfl) (.cons (.fn (.cons (.ptr (by decide)) .nil) (.pl rfl)) .nil)))) (.pl rfl) (fun e he=>by simp only [List.mem_singleton] at he;subst he;exact (.arg (.here .ptr)))
theorem GN   {c:Ck} {list:(List Nd)} {depth:Int} {yR:Bool} {qc_nodesR:Int} (h:Cy  c list depth=some (yR,qc_nodesR)):Sound P G (.call 52 [.ptr 0 0,.sl .lost list.length (A7 list),.sc (.int .i64 depth),.fn (.func 115) [.ptr 0 0] []] ⟨[(0,.cells (EQ c))],1,[],0⟩ (.ret (.sc (.bool yR))) ⟨[(0,.cells [.sc (.int .i64 qc_nodesR)])],1,[],0⟩):=by
 unfold Cy at h
 refine E4 Hd.mixed (AG Tryz.func52 uM ?_)
 revert h
 refine DJ (fun Q v=>Je P G Tryz.f52 1 ⟨[(0,.cells (EQ c))],1,[],0⟩ Q (.sc (.bool v.1)) ⟨[(0,.cells [.sc (.int .i64 v.2)])],1,[],0⟩) (fun i0 (w0_0:Int) (j0:List Value)=>fr 23 [(2,.sc (.int .i64 depth)),(3,.fn (.func 115) [.ptr 0 0] []),(11,.sl .lost list.length (A7 list)),(12,.sc (.int .i64 ((list.length:Nat):Int))),(13,.sc (.int .i64 ((i0:Nat):Int)))] [8,14,20,21] j0) (fun (w0_0:Int)=>⟨[(0,.cells [.sc (.int .i64 w0_0)])],1,[],0⟩) (fun (w0_0:Int) (jx:List Value)=>fr 23 [] [8,14,20,21] jx) (fun (w0_0:Int)=>⟨[(0,.cells [.sc (.int .i64 w0_0)])],1,[],0⟩) [.bool false] (DG [] 0 (sb bJ 52) [.code (sb bJ 7)] (Aa 300 []) (by kernel_rfl)) ?_ ?_ ?_ (fun v h=>by cases h;exact .outer .body)
 rintro i0 w0_0 j0 hge hq
 exact BV (Aa 300 [pb (II hge)]) (by kernel_rfl) (hq (js 4 j0 [(1,.bool false)]))
 rintro i0 e0 w0_0 j0 r he0 hi0 mi0 k
 show Dh  depth i0 e0 w0_0=some r→_
 unfold Dh
 refine Aj ?_
 rintro ⟨y1a,y1b⟩ hy1
 dsimp only
 let o1:List (PC P G):=[pb (F5 hi0),CL (Bu .lost he0),AK (F7 (I2 hy1) 0)]
 refine Ae (fun hv=>?_) fun hv=>?_
 subst hv
 rintro ⟨⟩
 exact B4 Hd.Ac [fq (Am.EL list)] [none] (Aa 300 (o1++[pi mi0])) (by kernel_rfl) (k [(jv j0 0),.bool true,.bool true,.bool false])
 subst hv
 rintro ⟨⟩
 exact Aq Hd.Ac _ _ [] [none] (Aa 300 o1) (by kernel_rfl) (.GX k)
 rintro w0_0_2 jx_2
 intro h
 have hE:=Option.some.inj h
 obtain ⟨hE0,hF0⟩:=Prod.mk.inj hE
 subst hE0 hF0
 exact Aq Hd.Ac _ _ [] [none] (BU 300 []) (by kernel_rfl) .body
noncomputable def B84:Code:=A4 Tryz.f84
theorem b84:Tryz.f84.body=some B84:=by kernel_rfl
noncomputable def BT  (c:Ck) (n:Nd) (depth:Int):Option (Bool×Int):=(Bf c n depth).bind fun (y1a,y1b)=>cond y1a ((A6 n (⟨0,ByteArray.empty,ByteArray.empty,0,0,0,0,(⟨0,[]⟩:Fn),[],0⟩:Nd)).bind fun y2=>cond y2 (cond (Br n.kind 7) (cond (FV 0 ((n.kids.length:Nat):Int)) ((Cy (⟨y1b⟩:Ck) n.kids (BK depth 1)).bind fun (y3a,y3b)=>some (y3a,y3b)) (some (false,y1b))) (cond (Br ((n.kids.length:Nat):Int) 1) ((n.kids[0]?).bind fun x4=>(DE (⟨y1b⟩:Ck) x4 (BK depth 1)).bind fun (y5a,y5b)=>some (y5a,y5b)) (some (false,y1b)))) (some (false,y1b))) (some (false,y1b))
theorem Jc {c:Ck} {n:Nd} {depth:Int} {yR:Bool} {qc_nodesR:Int} (hS:Sound P G (.call 84 [.ptr 0 0,.agg (A9 n),.sc (.int .i64 depth)] ⟨[(0,.cells (EQ c))],1,[],0⟩ (.ret (.sc (.bool yR))) ⟨[(0,.cells [.sc (.int .i64 qc_nodesR)])],1,[],0⟩)) (u0:Nat) (hnb:[u0].Nodup:=by decide) (hnt:([]:List Nat).Nodup:=by decide):Cd.ok P G (.callU 84 [.ptr u0 0,.agg (A9 n),.sc (.int .i64 depth)] (.ret (.sc (.bool yR))) [(u0,.cells (EQ c))] [] [(u0,.cells [.sc (.int .i64 qc_nodesR)])] []) :=
 ER (M:=[.cells (EQ c)]) (M2:=[.cells [.sc (.int .i64 qc_nodesR)]]) (T:=[]) (T2:=[]) (k:=1) (j:=0) Hd.Ac _ _ _ _ hS rfl rfl rfl rfl rfl hnb hnt rfl rfl (.cons (.cells (.pl (J8.pl c))) .nil) (.cons (.cells (.pl (Bl rfl rfl))) .nil) (.cons (.ptr (by decide)) (.cons (.pl (Am.F1 n)) (.cons (.pl rfl) .nil))) (.pl rfl) (fun e he=>by simp only [List.mem_singleton] at he;subst he;exact (.arg (.here .ptr)))
theorem Ih   {c:Ck} {n:Nd} {depth:Int} {yR:Bool} {qc_nodesR:Int} (h:BT  c n depth=some (yR,qc_nodesR)):Sound P G (.call 84 [.ptr 0 0,.agg (A9 n),.sc (.int .i64 depth)] ⟨[(0,.cells (EQ c))],1,[],0⟩ (.ret (.sc (.bool yR))) ⟨[(0,.cells [.sc (.int .i64 qc_nodesR)])],1,[],0⟩):=by
 unfold BT at h
 refine E4 Hd.mixed (AG Tryz.func84 b84 ?_)
 revert h
 refine Aj ?_
 rintro ⟨y1a,y1b⟩ hy1
 dsimp only
 let o1:List (PC P G):=[AK (CW (Cl hy1) 0)]
 refine Ae (fun hv=>?_) fun hv=>?_
 subst hv
 refine Aj fun y2 hy2=>?_
 let o2:List (PC P G):=o1++[Ev (.r (.g (.r (.r (.r (.r (.r (.r (.r (.r (.z (.z (.r .nil))))))))))) .nil)) (A5 hy2)]
 refine Ae (fun hv=>?_) fun hv=>?_
 subst hv
 refine Ae (fun hb1=>?_) fun hb1=>?_
 refine Ae (fun hb2=>?_) fun hb2=>?_
 refine Aj ?_
 rintro ⟨y3a,y3b⟩ hy3
 dsimp only
 intro h
 have hE:=Option.some.inj h
 obtain ⟨hE0,hF0⟩:=Prod.mk.inj hE
 subst hE0 hF0
 exact Aq Hd.Ac _ _ [] [none] (Aa 300 (o2++[pb hb1,pb hb2,pk,AK (H6 (GN hy3) 0)])) (by kernel_rfl) .body
 intro h
 have hE:=Option.some.inj h
 obtain ⟨hE0,hF0⟩:=Prod.mk.inj hE
 subst hE0 hF0
 exact Aq Hd.Ac _ _ [] [none] (Aa 300 (o2++[pb hb1,pb hb2])) (by kernel_rfl) .body
 refine Ae (fun hb3=>?_) fun hb3=>?_
 refine Aj fun x4 hx4=>?_
 refine Aj ?_
 rintro ⟨y5a,y5b⟩ hy5
 dsimp only
 intro h
 have hE:=Option.some.inj h
 obtain ⟨hE0,hF0⟩:=Prod.mk.inj hE
 subst hE0 hF0
 exact Aq Hd.Ac _ _ [] [none] (Aa 300 (o2++[pb hb1,pb hb3,CL (Bu .lost hx4),pk,AK (AL (Gw hy5) 0)])) (by kernel_rfl) .body
 intro h
 have hE:=Option.some.inj h
 obtain ⟨hE0,hF0⟩:=Prod.mk.inj hE
 subst hE0 hF0
 exact Aq Hd.Ac _ _ [] [none] (Aa 300 (o2++[pb hb1,pb hb3])) (by kernel_rfl) .body
 subst hv
 intro h
 have hE:=Option.some.inj h
 obtain ⟨hE0,hF0⟩:=Prod.mk.inj hE
 subst hE0 hF0
 exact Aq Hd.Ac _ _ [] [none] (Aa 300 o2) (by kernel_rfl) .body
 subst hv
 intro h
 have hE:=Option.some.inj h
 obtain ⟨hE0,hF0⟩:=Prod.mk.inj hE
 subst hE0 hF0
 exact Aq Hd.Ac _ _ [] [none] (Aa 300 o1) (by kernel_rfl) .body
noncomputable def Dl  (depth:Int) (i0:Nat) (e0:Nd) (w0_0:Int):Option (Lp Int Int (Bool×Int)):=(BT (⟨w0_0⟩:Ck) e0 depth).bind fun (y1a,y1b)=>cond y1a (some (.nx y1b)) (some (.rt (false,y1b)))
noncomputable def Cz  (c:Ck) (list:(List Nd)) (depth:Int):Option (Bool×Int):=(Gv list.length (AT (fun i y x=>Dl  depth i y x) (fun x=>x) (list.drop 0) 0 c.nodes)).bind (GF (fun (w0_0_2:Int)=>some (true,w0_0_2)) (fun v=>some v))
theorem Ie {c:Ck} {list:(List Nd)} {depth:Int} {yR:Bool} {qc_nodesR:Int} (hS:Sound P G (.call 52 [.ptr 0 0,.sl .lost list.length (A7 list),.sc (.int .i64 depth),.fn (.func 84) [.ptr 0 0] []] ⟨[(0,.cells (EQ c))],1,[],0⟩ (.ret (.sc (.bool yR))) ⟨[(0,.cells [.sc (.int .i64 qc_nodesR)])],1,[],0⟩)) (u0:Nat) (hnb:[u0].Nodup:=by decide) (hnt:([]:List Nat).Nodup:=by decide):Cd.ok P G (.callU 52 [.ptr u0 0,.sl .lost list.length (A7 list),.sc (.int .i64 depth),.fn (.func 84) [.ptr u0 0] []] (.ret (.sc (.bool yR))) [(u0,.cells (EQ c))] [] [(u0,.cells [.sc (.int .i64 qc_nodesR)])] []) :=
 ER (M:=[.cells (EQ c)]) (M2:=[.cells [.sc (.int .i64 qc_nodesR)]]) (T:=[]) (T2:=[]) (k:=1) (j:=0) Hd.Ac _ _ _ _ hS rfl rfl rfl rfl rfl hnb hnt rfl rfl (.cons (.cells (.pl (J8.pl c))) .nil) (.cons (.cells (.pl (Bl rfl rfl))) .nil) (.cons (.ptr (by decide)) (.cons (.pl (Am.EL list)) (.cons (.pl rfl) (.cons (.fn (.cons (.ptr (by decide)) .nil) (.pl rfl)) .nil)))) (.pl rfl) (fun e he=>by simp only [List.mem_singleton] at he;subst he;exact (.arg (.here .ptr)))
theorem GL   {c:Ck} {list:(List Nd)} {depth:Int} {yR:Bool} {qc_nodesR:Int} (h:Cz  c list depth=some (yR,qc_nodesR)):Sound P G (.call 52 [.ptr 0 0,.sl .lost list.length (A7 list),.sc (.int .i64 depth),.fn (.func 84) [.ptr 0 0] []] ⟨[(0,.cells (EQ c))],1,[],0⟩ (.ret (.sc (.bool yR))) ⟨[(0,.cells [.sc (.int .i64 qc_nodesR)])],1,[],0⟩):=by
 unfold Cz at h
 refine E4 Hd.mixed (AG Tryz.func52 uM ?_)
 revert h
 refine DJ (fun Q v=>Je P G Tryz.f52 1 ⟨[(0,.cells (EQ c))],1,[],0⟩ Q (.sc (.bool v.1)) ⟨[(0,.cells [.sc (.int .i64 v.2)])],1,[],0⟩) (fun i0 (w0_0:Int) (j0:List Value)=>fr 23 [(2,.sc (.int .i64 depth)),(3,.fn (.func 84) [.ptr 0 0] []),(11,.sl .lost list.length (A7 list)),(12,.sc (.int .i64 ((list.length:Nat):Int))),(13,.sc (.int .i64 ((i0:Nat):Int)))] [8,14,20,21] j0) (fun (w0_0:Int)=>⟨[(0,.cells [.sc (.int .i64 w0_0)])],1,[],0⟩) (fun (w0_0:Int) (jx:List Value)=>fr 23 [] [8,14,20,21] jx) (fun (w0_0:Int)=>⟨[(0,.cells [.sc (.int .i64 w0_0)])],1,[],0⟩) [.bool false] (DG [] 0 (sb bJ 52) [.code (sb bJ 7)] (Aa 300 []) (by kernel_rfl)) ?_ ?_ ?_ (fun v h=>by cases h;exact .outer .body)
 rintro i0 w0_0 j0 hge hq
 exact BV (Aa 300 [pb (II hge)]) (by kernel_rfl) (hq (js 4 j0 [(1,.bool false)]))
 rintro i0 e0 w0_0 j0 r he0 hi0 mi0 k
 show Dl  depth i0 e0 w0_0=some r→_
 unfold Dl
 refine Aj ?_
 rintro ⟨y1a,y1b⟩ hy1
 dsimp only
 let o1:List (PC P G):=[pb (F5 hi0),CL (Bu .lost he0),AK (Jc (Ih hy1) 0)]
 refine Ae (fun hv=>?_) fun hv=>?_
 subst hv
 rintro ⟨⟩
 exact B4 Hd.Ac [fq (Am.EL list)] [none] (Aa 300 (o1++[pi mi0])) (by kernel_rfl) (k [(jv j0 0),.bool true,.bool true,.bool false])
 subst hv
 rintro ⟨⟩
 exact Aq Hd.Ac _ _ [] [none] (Aa 300 o1) (by kernel_rfl) (.GX k)
 rintro w0_0_2 jx_2
 intro h
 have hE:=Option.some.inj h
 obtain ⟨hE0,hF0⟩:=Prod.mk.inj hE
 subst hE0 hF0
 exact Aq Hd.Ac _ _ [] [none] (BU 300 []) (by kernel_rfl) .body
noncomputable def tY:Code:=A4 Tryz.f53
theorem b53:Tryz.f53.body=some tY:=by kernel_rfl
noncomputable def B9  (y1b:Int) (i0:Nat) (e0:Nd) (w2_6:Int) (w2_7:Int) (w2_8:Int):Option (Lp (Int×Int×Int) (Int×Int×Int) (Bool×Int)):=cond (FV e0.kind 6) (some (.rt (false,y1b))) (cond (FV 8 e0.kind) (some (.rt (false,y1b))) (cond (Br e0.kind 6) (some (.nx ((BK w2_6 1),w2_7,w2_8))) (cond (Br e0.kind 7) (some (.nx (w2_6,(BK w2_7 1),w2_8))) (cond (Br e0.kind 8) (some (.nx (w2_6,w2_7,(BK w2_8 1)))) (none)))))
noncomputable def Ci  (c:Ck) (n:Nd) (depth:Int):Option (Bool×Int):=(Bf c n depth).bind fun (y1a,y1b)=>cond y1a (cond (Br n.kind 2) ((Cg n.name).bind fun y2=>cond y2 ((CE n.unit).bind fun y3=>cond y3 (cond (Br ((n.kids.length:Nat):Int) 0) ((A6 n (⟨0,n.name,n.unit,0,0,0,0,(⟨0,[]⟩:Fn),[],0⟩:Nd)).bind fun y4=>some (y4,y1b)) (some (false,y1b))) (some (false,y1b))) (some (false,y1b))) (cond (Br n.kind 3) ((Cg n.name).bind fun y5=>cond y5 ((CE n.unit).bind fun y6=>cond y6 (cond (K2 1 n.n) (cond (K2 n.n 4) (cond (Br ((n.kids.length:Nat):Int) 0) ((A6 n (⟨0,n.name,n.unit,n.n,0,0,0,(⟨0,[]⟩:Fn),[],0⟩:Nd)).bind fun y7=>some (y7,y1b)) (some (false,y1b))) (some (false,y1b))) (some (false,y1b))) (some (false,y1b))) (some (false,y1b))) (cond (Br n.kind 4) ((BY n.n).bind fun y8=>cond y8 ((Cg n.name).bind fun y9=>cond y9 ((A6 n (⟨0,n.name,ByteArray.empty,n.n,0,0,0,(⟨0,[]⟩:Fn),[],0⟩:Nd)).bind fun y10=>cond y10 (cond (Br ((n.kids.length:Nat):Int) 0) (some (false,y1b)) ((JT n.kids 1 ((n.kids.length:Nat):Int)).bind fun l11=>(Gv l11.length (AT (fun i y x=>B9  y1b i y x.1 x.2.1 x.2.2) (fun x=>(x.1,x.2.1,x.2.2)) (l11.drop 0) 0 (0,0,0))).bind (GF (fun ((w2_6_12,w2_7_12,w2_8_12):(Int×Int×Int))=>cond (Br w2_8_12 1) (cond (FV 1 w2_7_12) (some (false,y1b)) ((n.kids[0]?).bind fun x13=>(CV (⟨y1b⟩:Ck) x13 (BK depth 1)).bind fun (y14a,y14b)=>cond y14a ((Cz (⟨y14b⟩:Ck) l11 (BK depth 1)).bind fun (y15a,y15b)=>some (y15a,y15b)) (some (false,y14b)))) (some (false,y1b))) (fun v=>some v)))) (some (false,y1b))) (some (false,y1b))) (some (false,y1b))) (some (false,y1b))))) (some (false,y1b))
theorem Kf {c:Ck} {n:Nd} {depth:Int} {yR:Bool} {qc_nodesR:Int} (hS:Sound P G (.call 53 [.ptr 0 0,.agg (A9 n),.sc (.int .i64 depth)] ⟨[(0,.cells (EQ c))],1,[],0⟩ (.ret (.sc (.bool yR))) ⟨[(0,.cells [.sc (.int .i64 qc_nodesR)])],1,[],0⟩)) (u0:Nat) (hnb:[u0].Nodup:=by decide) (hnt:([]:List Nat).Nodup:=by decide):Cd.ok P G (.callU 53 [.ptr u0 0,.agg (A9 n),.sc (.int .i64 depth)] (.ret (.sc (.bool yR))) [(u0,.cells (EQ c))] [] [(u0,.cells [.sc (.int .i64 qc_nodesR)])] []) :=
 ER (M:=[.cells (EQ c)]) (M2:=[.cells [.sc (.int .i64 qc_nodesR)]]) (T:=[]) (T2:=[]) (k:=1) (j:=0) Hd.Ac _ _ _ _ hS rfl rfl rfl rfl rfl hnb hnt rfl rfl (.cons (.cells (.pl (J8.pl c))) .nil) (.cons (.cells (.pl (Bl rfl rfl))) .nil) (.cons (.ptr (by decide)) (.cons (.pl (Am.F1 n)) (.cons (.pl rfl) .nil))) (.pl rfl) (fun e he=>by simp only [List.mem_singleton] at he;subst he;exact (.arg (.here .ptr)))
theorem I0   {c:Ck} {n:Nd} {depth:Int} {yR:Bool} {qc_nodesR:Int} (h:Ci  c n depth=some (yR,qc_nodesR)):Sound P G (.call 53 [.ptr 0 0,.agg (A9 n),.sc (.int .i64 depth)] ⟨[(0,.cells (EQ c))],1,[],0⟩ (.ret (.sc (.bool yR))) ⟨[(0,.cells [.sc (.int .i64 qc_nodesR)])],1,[],0⟩):=by
 unfold Ci at h
 refine E4 Hd.mixed (AG Tryz.func53 b53 ?_)
 revert h
 refine Aj ?_
 rintro ⟨y1a,y1b⟩ hy1
 dsimp only
 let o1:List (PC P G):=[AK (CW (Cl hy1) 0)]
 refine Ae (fun hv=>?_) fun hv=>?_
 subst hv
 refine Ae (fun hb1=>?_) fun hb1=>?_
 refine Aj fun y2 hy2=>?_
 let o2:List (PC P G):=o1++[pb hb1,Ak (DS hy2)]
 refine Ae (fun hv=>?_) fun hv=>?_
 subst hv
 refine Aj fun y3 hy3=>?_
 refine Ae (fun hv=>?_) fun hv=>?_
 subst hv
 refine Ae (fun hb2=>?_) fun hb2=>?_
 refine Aj fun y4 hy4=>?_
 intro h
 have hE:=Option.some.inj h
 obtain ⟨hE0,hF0⟩:=Prod.mk.inj hE
 subst hE0 hF0
 exact Aq Hd.Ac _ _ [] [none] (Aa 300 (o2++[Ak (C6 hy3),pb hb2,Ev (.r (.g (.r (.r (.r (.r (.r (.r (.r (.r (.z (.z (.r .nil))))))))))) .nil)) (A5 hy4)])) (by kernel_rfl) .body
 intro h
 have hE:=Option.some.inj h
 obtain ⟨hE0,hF0⟩:=Prod.mk.inj hE
 subst hE0 hF0
 exact Aq Hd.Ac _ _ [] [none] (Aa 300 (o2++[Ak (C6 hy3),pb hb2])) (by kernel_rfl) .body
 subst hv
 intro h
 have hE:=Option.some.inj h
 obtain ⟨hE0,hF0⟩:=Prod.mk.inj hE
 subst hE0 hF0
 exact Aq Hd.Ac _ _ [] [none] (Aa 300 (o2++[Ak (C6 hy3)])) (by kernel_rfl) .body
 subst hv
 intro h
 have hE:=Option.some.inj h
 obtain ⟨hE0,hF0⟩:=Prod.mk.inj hE
 subst hE0 hF0
 exact Aq Hd.Ac _ _ [] [none] (Aa 300 o2) (by kernel_rfl) .body
 let o3:List (PC P G):=o1++[pb hb1]
 refine Ae (fun hb3=>?_) fun hb3=>?_
 refine Aj fun y5 hy5=>?_
 let o4:List (PC P G):=o3++[pb hb3,Ak (DS hy5)]
 refine Ae (fun hv=>?_) fun hv=>?_
 subst hv
 refine Aj fun y6 hy6=>?_
 let o5:List (PC P G):=o4++[Ak (C6 hy6)]
 refine Ae (fun hv=>?_) fun hv=>?_
 subst hv
 refine Ae (fun hb4=>?_) fun hb4=>?_
 refine Ae (fun hb5=>?_) fun hb5=>?_
 refine Ae (fun hb6=>?_) fun hb6=>?_
 refine Aj fun y7 hy7=>?_
 intro h
 have hE:=Option.some.inj h
 obtain ⟨hE0,hF0⟩:=Prod.mk.inj hE
 subst hE0 hF0
 exact Aq Hd.Ac _ _ [] [none] (Aa 300 (o5++[pb hb4,pb hb5,pb hb6,Ev (.r (.g (.r (.r (.r (.r (.r (.r (.r (.r (.z (.z (.r .nil))))))))))) .nil)) (A5 hy7)])) (by kernel_rfl) .body
 intro h
 have hE:=Option.some.inj h
 obtain ⟨hE0,hF0⟩:=Prod.mk.inj hE
 subst hE0 hF0
 exact Aq Hd.Ac _ _ [] [none] (Aa 300 (o5++[pb hb4,pb hb5,pb hb6])) (by kernel_rfl) .body
 intro h
 have hE:=Option.some.inj h
 obtain ⟨hE0,hF0⟩:=Prod.mk.inj hE
 subst hE0 hF0
 exact Aq Hd.Ac _ _ [] [none] (Aa 300 (o5++[pb hb4,pb hb5])) (by kernel_rfl) .body
 intro h
 have hE:=Option.some.inj h
 obtain ⟨hE0,hF0⟩:=Prod.mk.inj hE
 subst hE0 hF0
 exact Aq Hd.Ac _ _ [] [none] (Aa 300 (o5++[pb hb4])) (by kernel_rfl) .body
 subst hv
 intro h
 have hE:=Option.some.inj h
 obtain ⟨hE0,hF0⟩:=Prod.mk.inj hE
 subst hE0 hF0
 exact Aq Hd.Ac _ _ [] [none] (Aa 300 o5) (by kernel_rfl) .body
 subst hv
 intro h
 have hE:=Option.some.inj h
 obtain ⟨hE0,hF0⟩:=Prod.mk.inj hE
 subst hE0 hF0
 exact Aq Hd.Ac _ _ [] [none] (Aa 300 o4) (by kernel_rfl) .body
 refine Ae (fun hb7=>?_) fun hb7=>?_
 refine Aj fun y8 hy8=>?_
 let o6:List (PC P G):=o3++[pb hb3,pb hb7,Ak (DC hy8)]
 refine Ae (fun hv=>?_) fun hv=>?_
 subst hv
 refine Aj fun y9 hy9=>?_
 let o7:List (PC P G):=o6++[Ak (DS hy9)]
 refine Ae (fun hv=>?_) fun hv=>?_
 subst hv
 refine Aj fun y10 hy10=>?_
 let o8:List (PC P G):=o7++[Ev (.r (.g (.r (.r (.r (.r (.r (.r (.r (.r (.z (.z (.r .nil))))))))))) .nil)) (A5 hy10)]
 refine Ae (fun hv=>?_) fun hv=>?_
 subst hv
 refine Ae (fun hb8=>?_) fun hb8=>?_
 intro h
 have hE:=Option.some.inj h
 obtain ⟨hE0,hF0⟩:=Prod.mk.inj hE
 subst hE0 hF0
 exact Aq Hd.Ac _ _ [] [none] (Aa 300 (o8++[pb hb8])) (by kernel_rfl) .body
 refine Aj fun l11 hl11=>?_
 refine DJ (fun Q v=>Je P G Tryz.f53 1 ⟨[(0,.cells (EQ c))],1,[],0⟩ Q (.sc (.bool v.1)) ⟨[(0,.cells [.sc (.int .i64 v.2)])],1,[],0⟩) (fun i0 ((w2_6,w2_7,w2_8):(Int×Int×Int)) (j0:List Value)=>fr 158 [(0,.ptr 0 0),(2,.sc (.int .i64 depth)),(4,.ptr 1 0),(7,.ptr 2 0),(110,.sl .lost l11.length (A7 l11)),(111,.sc (.int .i64 ((l11.length:Nat):Int))),(112,.sc (.int .i64 ((i0:Nat):Int)))] [6,13,14,17,18,21,22,25,26,27,31,32,33,40,41,42,43,46,47,50,51,52,55,56,57,60,61,62,66,67,68,77,78,79,80,83,84,85,88,89,90,91,98,99,100,101,105,106,113,118,119,122,123,133,134,137,138,146,147,156,157] j0) (fun ((w2_6,w2_7,w2_8):(Int×Int×Int))=>⟨[(2,.cells [.sc (.int .i64 0),.sc (.int .i64 0),.sc (.int .i64 0),.sc (.int .i64 0),.sc (.int .i64 0),.sc (.int .i64 0),.sc (.int .i64 w2_6),.sc (.int .i64 w2_7),.sc (.int .i64 w2_8)]),(1,.cells (A9 n)),(0,.cells [.sc (.int .i64 y1b)])],3,[],0⟩) (fun ((w2_6,w2_7,w2_8):(Int×Int×Int)) (jx:List Value)=>fr 158 [(0,.ptr 0 0),(2,.sc (.int .i64 depth)),(4,.ptr 1 0),(7,.ptr 2 0)] [6,13,14,17,18,21,22,25,26,27,31,32,33,40,41,42,43,46,47,50,51,52,55,56,57,60,61,62,66,67,68,77,78,79,80,83,84,85,88,89,90,91,98,99,100,101,105,106,113,118,119,122,123,133,134,137,138,146,147,156,157] jx) (fun ((w2_6,w2_7,w2_8):(Int×Int×Int))=>⟨[(2,.cells [.sc (.int .i64 0),.sc (.int .i64 0),.sc (.int .i64 0),.sc (.int .i64 0),.sc (.int .i64 0),.sc (.int .i64 0),.sc (.int .i64 w2_6),.sc (.int .i64 w2_7),.sc (.int .i64 w2_8)]),(1,.cells (A9 n)),(0,.cells [.sc (.int .i64 y1b)])],3,[],0⟩) [.bool false,.bool true,.bool false,.bool false,.bool false,undef,undef,undef,undef,undef,undef,undef,undef,undef,undef,.bool false,.bool false,undef,undef,undef,undef,undef,undef,undef,undef,undef,undef,undef,undef,undef,undef,undef,undef,.bool true,.bool true,.bool true,.bool false,.bool false,.bool true,.bool false,.bool false,.bool false,.bool true,.bool false,.bool false,.bool false,.bool false,.bool false] (DG [] 1 (sb tY 241588) [.code (sb tY 30199),.endb 0,.code (sb tY 15)] (Aa 300 (o8++[pb hb8,O1 (Gl hl11)])) (by kernel_rfl)) ?_ ?_ ?_ (fun v h=>by cases h;exact .outer .body)
 rintro i0 ⟨w2_6,w2_7,w2_8⟩ j0 hge hq
 exact BV (Aa 300 [pb (II hge)]) (by kernel_rfl) (hq (js 61 j0 [(48,.bool false)]))
 rintro i0 e0 ⟨w2_6,w2_7,w2_8⟩ j0 r he0 hi0 mi0 k
 show B9  y1b i0 e0 w2_6 w2_7 w2_8=some r→_
 unfold B9
 let o9:List (PC P G):=[pb (F5 hi0),CL (Bu .lost he0)]
 refine Ae (fun hb9=>?_) fun hb9=>?_
 rintro ⟨⟩
 exact Aq Hd.Ac _ _ [] [none] (Aa 300 (o9++[pb hb9])) (by kernel_rfl) (.GX k)
 refine Ae (fun hb10=>?_) fun hb10=>?_
 rintro ⟨⟩
 exact Aq Hd.Ac _ _ [] [none] (Aa 300 (o9++[pb hb9,pb hb10])) (by kernel_rfl) (.GX k)
 refine Ae (fun hb11=>?_) fun hb11=>?_
 rintro ⟨⟩
 exact B4 Hd.Ac [fq (Am.EL l11)] [none,bp (Am.pl n),none] (Aa 300 (o9++[pb hb9,pb hb10,CL (t:=119) (a:=.ptr 2 0) (b:=.sc (.int .i64 e0.kind)) (v:=.ptr 2 6) (by rw [Gk hb11];kernel_rfl),pk,CL (t:=119) (a:=.ptr 2 0) (b:=.sc (.int .i64 e0.kind)) (v:=.ptr 2 6) (by rw [Gk hb11];kernel_rfl),pi mi0])) (by kernel_rfl) (k (js 61 j0 [(48,.bool true),(49,.bool false),(50,.bool false),(51,.bool false),(52,.bool false)]))
 refine Ae (fun hb12=>?_) fun hb12=>?_
 rintro ⟨⟩
 exact B4 Hd.Ac [fq (Am.EL l11)] [none,bp (Am.pl n),none] (Aa 300 (o9++[pb hb9,pb hb10,CL (t:=119) (a:=.ptr 2 0) (b:=.sc (.int .i64 e0.kind)) (v:=.ptr 2 7) (by rw [Gk hb12];kernel_rfl),pk,CL (t:=119) (a:=.ptr 2 0) (b:=.sc (.int .i64 e0.kind)) (v:=.ptr 2 7) (by rw [Gk hb12];kernel_rfl),pi mi0])) (by kernel_rfl) (k (js 61 j0 [(48,.bool true),(49,.bool false),(50,.bool false),(51,.bool false),(52,.bool false)]))
 refine Ae (fun hb13=>?_) fun hb13=>?_
 rintro ⟨⟩
 exact B4 Hd.Ac [fq (Am.EL l11)] [none,bp (Am.pl n),none] (Aa 300 (o9++[pb hb9,pb hb10,CL (t:=119) (a:=.ptr 2 0) (b:=.sc (.int .i64 e0.kind)) (v:=.ptr 2 8) (by rw [Gk hb13];kernel_rfl),pk,CL (t:=119) (a:=.ptr 2 0) (b:=.sc (.int .i64 e0.kind)) (v:=.ptr 2 8) (by rw [Gk hb13];kernel_rfl),pi mi0])) (by kernel_rfl) (k (js 61 j0 [(48,.bool true),(49,.bool false),(50,.bool false),(51,.bool false),(52,.bool false)]))
 exact tF
 rintro ⟨w2_6_12,w2_7_12,w2_8_12⟩ jx_12
 dsimp only
 refine Ae (fun hb14=>?_) fun hb14=>?_
 refine Ae (fun hb15=>?_) fun hb15=>?_
 intro h
 have hE:=Option.some.inj h
 obtain ⟨hE0,hF0⟩:=Prod.mk.inj hE
 subst hE0 hF0
 exact Aq Hd.Ac _ _ [] [none] (BU 300 [pk,pn hb14,pk,pb hb15]) (by kernel_rfl) .body
 refine Aj fun x13 hx13=>?_
 refine Aj ?_
 rintro ⟨y14a,y14b⟩ hy14
 dsimp only
 let o10:List (PC P G):=[pk,pn hb14,pk,pb hb15,CL (Bu .lost hx13),pk,AK (Kb (I3 hy14) 0)]
 refine Ae (fun hv=>?_) fun hv=>?_
 subst hv
 refine Aj ?_
 rintro ⟨y15a,y15b⟩ hy15
 dsimp only
 intro h
 have hE:=Option.some.inj h
 obtain ⟨hE0,hF0⟩:=Prod.mk.inj hE
 subst hE0 hF0
 exact Aq Hd.Ac _ _ [] [none] (BU 300 (o10++[O1 (Gl hl11),pk,AK (Ie (GL hy15) 0)])) (by kernel_rfl) .body
 subst hv
 intro h
 have hE:=Option.some.inj h
 obtain ⟨hE0,hF0⟩:=Prod.mk.inj hE
 subst hE0 hF0
 exact Aq Hd.Ac _ _ [] [none] (BU 300 o10) (by kernel_rfl) .body
 intro h
 have hE:=Option.some.inj h
 obtain ⟨hE0,hF0⟩:=Prod.mk.inj hE
 subst hE0 hF0
 exact Aq Hd.Ac _ _ [] [none] (BU 300 [pk,pn hb14]) (by kernel_rfl) .body
 subst hv
 intro h
 have hE:=Option.some.inj h
 obtain ⟨hE0,hF0⟩:=Prod.mk.inj hE
 subst hE0 hF0
 exact Aq Hd.Ac _ _ [] [none] (Aa 300 o8) (by kernel_rfl) .body
 subst hv
 intro h
 have hE:=Option.some.inj h
 obtain ⟨hE0,hF0⟩:=Prod.mk.inj hE
 subst hE0 hF0
 exact Aq Hd.Ac _ _ [] [none] (Aa 300 o7) (by kernel_rfl) .body
 subst hv
 intro h
 have hE:=Option.some.inj h
 obtain ⟨hE0,hF0⟩:=Prod.mk.inj hE
 subst hE0 hF0
 exact Aq Hd.Ac _ _ [] [none] (Aa 300 o6) (by kernel_rfl) .body
 intro h
 have hE:=Option.some.inj h
 obtain ⟨hE0,hF0⟩:=Prod.mk.inj hE
 subst hE0 hF0
 exact Aq Hd.Ac _ _ [] [none] (Aa 300 (o3++[pb hb3,pb hb7])) (by kernel_rfl) .body
 subst hv
 intro h
 have hE:=Option.some.inj h
 obtain ⟨hE0,hF0⟩:=Prod.mk.inj hE
 subst hE0 hF0
 exact Aq Hd.Ac _ _ [] [none] (Aa 300 o1) (by kernel_rfl) .body
end Mo
end Go.Proofs.YtkfplcngmiljaaaGreatDoor
