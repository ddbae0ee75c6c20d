/- Part of a proof: see the last text. -/
import Derived.Test.YtkfplcngmiljaaaGreatDoorUpi
import Derived.Test.YtkfplcngmiljaaaGreatDoorProg
import Derived.KernelRfl
import Derived.WalkKit
import Derived.WalkLawsBesides
import Derived.WalkSpells
import Derived.Lib.Hide
import Derived.Laws.Rows
import Derived.Recover
set_option linter.unusedVariables false
set_option linter.unusedSimpArgs false
namespace Go.Proofs.YtkfplcngmiljaaaGreatDoor
open AI Go Go.RowKit
theorem RS (x y z:Value) (w:World) :
   CallsD Tryz.prog 68 #[x,y,z] .returning w fun e u' w'=>e=.returned (.tuple #[])∧u'=.returning∧w'=w:=by
 refine callsD_of_wpS Tryz.func68 rfl fun c₀ cs hu=>?_
 apply wpS_seq
 apply wpS_region
 simp [wpOpsS,go_sem,recoverD,hu,Tryz.ntmps68,Exit.thenS]
 apply wpS_seq
 apply wpS_region
 simp [wpOpsS,go_sem,Exit.thenS]
 refine wpS_cond (t:=false) (by simp [Act.eval,Array.replicate]) ?_
 simp only [Bool.false_eq_true,if_false]
 refine wpS_of_wp (wp_skip ?_)
 cases c₀
 simp_all [bodyPostS,results,Tryz.results68]
noncomputable def GV (w:World):World:=((w.alloc (.cells #[.int .i64 0,.string ⟨#[]⟩,.string ⟨#[]⟩,.int .i64 0,.int .i64 0,.int .i64 0,.int .i64 0,.int .i64 0,.slice none 0 0,.slice none 0 0,.int .i64 0] 27)).alloc (.cells #[.int .i64 0,.int .i64 0] 53)).alloc (.cells #[.bool false] 4)
theorem dP (w:World):(GV w).heap[w.heap.size]?=some (.cells #[.int .i64 0,.string ⟨#[]⟩,.string ⟨#[]⟩,.int .i64 0,.int .i64 0,.int .i64 0,.int .i64 0,.int .i64 0,.slice none 0 0,.slice none 0 0,.int .i64 0] 27 (0,0)):=by
 unfold GV
 rw [heap_alloc_old _ _ (by simp;omega),heap_alloc_old _ _ (by simp),heap_alloc_new]
theorem fL (w:World):(GV w).heap[w.heap.size+1]?=some (.cells #[.int .i64 0,.int .i64 0] 53 (0,0)):=by
 unfold GV
 rw [heap_alloc_old _ _ (by simp),heap_alloc2_new]
theorem gN (w:World):(GV w).heap[w.heap.size+1+1]?=some (.cells #[.bool false] 4 (0,0)):=by
 unfold GV
 have:=heap_alloc_new ((w.alloc (.cells #[.int .i64 0,.string ⟨#[]⟩,.string ⟨#[]⟩,.int .i64 0,.int .i64 0,.int .i64 0,.int .i64 0,.int .i64 0,.slice none 0 0,.slice none 0 0,.int .i64 0] 27)).alloc (.cells #[.int .i64 0,.int .i64 0] 53)) (.cells #[.bool false] 4)
 rwa [World.size_alloc,World.size_alloc] at this
set_option maxRecDepth 20000 in
set_option maxHeartbeats 4000000 in
theorem XH (g:Nat) (hg:G7 Tryz.prog g=true) (fs cs:Array Value) (w:World) (R:Array Value→World→Prop)
   (hR:∀ xs w',R xs w'→(xs.size=11∧xs.all (·.oneCell')=true)∧w'.heap[w.heap.size]?=(GV w).heap[w.heap.size]?∧w'.heap[w.heap.size+1]?=(GV w).heap[w.heap.size+1]?∧w'.heap[w.heap.size+1+1]?=(GV w).heap[w.heap.size+1+1]?)
   (hC:Calls Tryz.prog g (fs++cs) (GV w) fun e w'=>∃ xs,e=.returned (.agg xs)∧R xs w') :
   Calls Tryz.prog 44 #[.func (.func g) fs cs] w fun e w2=>∃ xs w',R xs w'∧e=.returned (.tuple #[.agg xs,.agg #[.int .i64 0,.int .i64 0],.bool true])∧L6 w' w2 (Qm w (GV w)):=by
 have hmf:∀ (fn:Fn) (first cap:Array Value) (w:World),(Instr.makeFunc fn first cap).run Tryz.prog w=.ok (.func fn first cap) w:=fun _ _ _ _=>rfl
 have hen:=fun args w=>Mi (w:=w) hg args
 have HC:=Lib.hid hC
 have HR:=Lib.hid hR
 clear hC hR
 go_enter_defers Tryz.func44,Tryz.ntmps44
 go_wp2_with fail
 refine HC.out.mono ?_
 clear HC
 rintro e w1 ⟨xs,rfl,hr⟩
 obtain ⟨⟨hx,hone⟩,k0,k1,k2⟩:=HR.out xs w1 hr
 clear HR
 have HB:=Lib.hid hr
 clear hr
 have e0:w1.heap[w.heap.size]?=some (.cells #[.int .i64 0,.string ⟨#[]⟩,.string ⟨#[]⟩,.int .i64 0,.int .i64 0,.int .i64 0,.int .i64 0,.int .i64 0,.slice none 0 0,.slice none 0 0,.int .i64 0] 27 (0,0)):=by
   rw [k0];exact dP w
 have e1:w1.heap[w.heap.size+1]?=some (.cells #[.int .i64 0,.int .i64 0] 53 (0,0)):=by
   rw [k1];exact fL w
 have e2:w1.heap[w.heap.size+1+1]?=some (.cells #[.bool false] 4 (0,0)):=by
   rw [k2];exact gN w
 have hl2:w.heap.size+1+1 < w1.heap.size:=(Array.getElem?_eq_some_iff.1 e2).1
 obtain ⟨wa,hwa⟩:∃ wa,wa=w1.setRow w.heap.size xs:=⟨_,rfl⟩
 have ca:=FI w1 w.heap.size xs
 rw [← hwa] at ca
 have f1:wa.heap[w.heap.size+1]?=some (.cells #[.int .i64 0,.int .i64 0] 53 (0,0)):=by
   rw [ca.block _ (by omega) (by omega)];exact e1
 have f2:wa.heap[w.heap.size+1+1]?=some (.cells #[.bool false] 4 (0,0)):=by
   rw [ca.block _ (by omega) (by omega)];exact e2
 have f0:wa.heap[w.heap.size]?=some (.cells xs 27 (0,0)):=by
   rw [hwa];exact setRow_heap w1 _ _ _ _ _ e0
 have s0:wa.setCell ⟨w.heap.size+1,0,none⟩ (.int .i64 0)=wa.setRow (w.heap.size+1) #[.int .i64 0,.int .i64 0]:=setCell_eq_setRow wa _ 0 _ _ _ _ f1
 obtain ⟨wd,hwd⟩:∃ wd,wd=wa.setCell ⟨w.heap.size+1,0,none⟩ (.int .i64 0):=⟨_,rfl⟩
 have cd:=FI wa (w.heap.size+1) #[.int .i64 0,.int .i64 0]
 have fd1:wd.heap[w.heap.size+1]?=some (.cells #[.int .i64 0,.int .i64 0] 53 (0,0)):=by
   rw [hwd,s0];exact setRow_heap wa _ _ _ _ _ f1
 have s1:wd.setCell ⟨w.heap.size+1,1,none⟩ (.int .i64 0)=wd.setRow (w.heap.size+1) #[.int .i64 0,.int .i64 0]:=setCell_eq_setRow wd _ 1 _ _ _ _ fd1
 rw [← s0,← hwd] at cd
 obtain ⟨wb,hwb⟩:∃ wb,wb=wd.setCell ⟨w.heap.size+1,1,none⟩ (.int .i64 0):=⟨_,rfl⟩
 have cb:=FI wd (w.heap.size+1) #[.int .i64 0,.int .i64 0]
 rw [← s1,← hwb] at cb
 have hld:w.heap.size+1 < wd.heap.size:=(Array.getElem?_eq_some_iff.1 fd1).1
 have d0:wa.cell? ⟨w.heap.size+1,0,none⟩=some (.int .i64 0):=by simp [World.cell?,f1]
 have d1:(wa.setCell ⟨w.heap.size+1,0,none⟩ (.int .i64 0)).cell? ⟨w.heap.size+1,1,none⟩=some (.int .i64 0):=by rw [← hwd];simp [World.cell?,fd1]
 have z0:wa.frozen? ⟨w.heap.size+1,0,none⟩=false:=by simp [World.frozen?,f1]
 have z1:(wa.setCell ⟨w.heap.size+1,0,none⟩ (.int .i64 0)).frozen? ⟨w.heap.size+1,1,none⟩=false:=by rw [← hwd];simp [World.frozen?,fd1]
 have hla:w.heap.size+1+1 < wa.heap.size:=(Array.getElem?_eq_some_iff.1 f2).1
 have g0:wb.heap[w.heap.size]?=some (.cells xs 27 (0,0)):=by
   rw [cb.block _ (by omega) (by omega),cd.block _ (by omega) (by omega)];exact f0
 have g1:wb.heap[w.heap.size+1]?=some (.cells #[.int .i64 0,.int .i64 0] 53 (0,0)):=by
   rw [hwb,s1];exact setRow_heap wd _ _ _ _ _ fd1
 have g2:wb.heap[w.heap.size+1+1]?=some (.cells #[.bool false] 4 (0,0)):=by
   rw [cb.block _ (by have:=cd.size;omega) (by omega),cd.block _ (by omega) (by omega)];exact f2
 have c2:((wa.setCell ⟨w.heap.size+1,0,none⟩ (.int .i64 0)).setCell ⟨w.heap.size+1,1,none⟩ (.int .i64 0)).cell? ⟨w.heap.size+1+1,0,none⟩=some (.bool false):=by rw [← hwd,← hwb];simp [World.cell?,g2]
 have z2:((wa.setCell ⟨w.heap.size+1,0,none⟩ (.int .i64 0)).setCell ⟨w.heap.size+1,1,none⟩ (.int .i64 0)).frozen? ⟨w.heap.size+1+1,0,none⟩=false:=by rw [← hwd,← hwb];simp [World.frozen?,g2]
 have hsz:(Tryz.prog.info? 27).map (·.size)=some xs.size:=by rw [hx];kernel_rfl
 have E0:=Lib.hid e0
 have HS:=Lib.hid hsz
 have HX:=Lib.hid hx
 have HO:=Lib.hid hone
 have HWA:=Lib.hid hwa
 have HWB:=Lib.hid hwb
 have HWD:=Lib.hid hwd
 have CD:=Lib.hid cd
 have G0:=Lib.hid g0
 have G1:=Lib.hid g1
 have G2:=Lib.hid g2
 have CA:=Lib.hid ca
 have CB:=Lib.hid cb
 have HL:=Lib.hid (And.intro hl2 hla)
 clear e0 e1 e2 f0 f1 f2 g0 g1 g2 hsz hx hone hwa hwb hwd s0 s1 fd1 hld ca cb cd k0 k1 k2 hl2 hla
 go_wp2_with (refine wpList_store_row rfl 27 _ _ rfl w.heap.size xs rfl rfl 27 _ E0.out HS.out (by rw [HX.out];rfl) HO.out ?_;rw [← HWA.out])
 rw [← HWD.out,← HWB.out]
 have s2:wb.setCell ⟨w.heap.size+1+1,0,none⟩ (.bool true)=wb.setRow (w.heap.size+1+1) #[.bool true]:=setCell_eq_setRow wb _ 0 _ _ _ _ G2.out
 have cc:=FI wb (w.heap.size+1+1) #[.bool true]
 have h2:=setRow_heap wb (w.heap.size+1+1) _ #[.bool true] _ _ G2.out
 rw [s2]
 generalize wb.setRow (w.heap.size+1+1) #[.bool true]=wc at cc h2
 have hl:=HL.out
 have hlb:=CB.out.size
 have hld:=CD.out.size
 have h0:wc.heap[w.heap.size]?=some (.cells xs 27 (0,0)):=by rw [cc.block _ (by omega) (by omega)];exact G0.out
 have h1:wc.heap[w.heap.size+1]?=some (.cells #[.int .i64 0,.int .i64 0] 53 (0,0)):=by rw [cc.block _ (by omega) (by omega)];exact G1.out
 refine leaves_cons (f:=68) (args:=#[.pointer (some ⟨w.heap.size,0,none⟩),.pointer (some ⟨w.heap.size+1,0,none⟩),.pointer (some ⟨w.heap.size+1+1,0,none⟩)]) (by simp) (by simp [go_sem]) ?_
 refine (RS _ _ _ _).mono ?_
 rintro e u' w2 ⟨rfl,rfl,rfl⟩
 show Leaves _ _ _ _ [] .returning _
 have l0:=run_loadVar_row (P:=Tryz.prog) w2 w.heap.size _ 27 xs _ _ h0 Tryz.underlying27 rfl HS.out
 have l1:=run_loadVar_row (P:=Tryz.prog) w2 (w.heap.size+1) _ 53 #[.int .i64 0,.int .i64 0] _ _ h1 Tryz.underlying53 rfl (by kernel_rfl)
 have l2:w2.cell? ⟨w.heap.size+1+1,0,none⟩=some (.bool true):=by simp [World.cell?,h2]
 refine ⟨.tuple #[.agg xs,.agg #[.int .i64 0,.int .i64 0],.bool true],?_,xs,w1,HB.out,rfl,?_⟩
 · have l3:(loadVar 4 ⟨w.heap.size+1+1,0,none⟩).run Tryz.prog w2=.ok (.bool true) w2:=by simp [go_sem,l2]
   rw [Nt,Tryz.results44]
   simp [VC,asAddr,Sem.run_bind,l0,l1,l3]
 · have hk:∀ k,w1.heap.size > k→¬ Qm w (GV w) k→k≠w.heap.size∧k≠w.heap.size+1∧k≠w.heap.size+1+1:=by
     intro k _ hn
     have hs:(GV w).heap.size=w.heap.size+1+1+1:=by unfold GV;simp
     refine ⟨fun e=>hn ?_,fun e=>hn ?_,fun e=>hn ?_⟩<;>subst e<;>refine ⟨?_,?_⟩<;>omega
   have ca:=CA.out
   have cd:=CD.out
   have cb:=CB.out
   refine ⟨cc.os.trans (cb.os.trans (cd.os.trans ca.os)),cc.tape.trans (cb.tape.trans (cd.tape.trans ca.tape)),cc.output.trans (cb.output.trans (cd.output.trans ca.output)),Nat.le_trans ca.size (Nat.le_trans hld (Nat.le_trans hlb cc.size)),fun k hk1 hk2=>?_⟩
   obtain ⟨n0,n1,n2⟩:=hk k hk1 hk2
   rw [cc.block k (by have:=ca.size;omega) n2,cb.block k (by have:=ca.size;omega) n1,cd.block k (by have:=ca.size;omega) n1,ca.block k hk1 n0]
def ZJ:CR→Option CR
 | .ret (.agg cs)=>(match Nat.beq cs.length 11 with
   | true=>(match cs.all one with
     | true=>some (.ret (.Bq [.agg cs,.agg [.sc (.int .i64 0),.sc (.int .i64 0)],.sc (.bool true)]))
     | false=>none)
   | false=>none)
 | _=>none
theorem ON {G:Ay} {g:FuncId} (hg:G7 Tryz.prog g=true) {first caps:List AV} {s s':AS} {r r':CR} (h:Sound Tryz.prog G (.call g (first++[]++caps) s r s')) (hk:ZJ r=some r'):Sound Tryz.prog G (.call 44 [.fn (.func g) first caps] s r' s'):=by
 unfold ZJ at hk
 split at hk
 · rename_i cs
   split at hk
   · rename_i hn
     split at hk
     · rename_i ho
       cases hk
       intro cx w vs hs ha
       cases ha with
       | cons h1 t =>
       cases t
       cases h1 with
       | fn hf hc =>
       rename_i us vs
       have k:L6 w (GV w) (fun _=>False):=by
         have k1:=I5 w (.cells #[.int .i64 0,.string ⟨#[]⟩,.string ⟨#[]⟩,.int .i64 0,.int .i64 0,.int .i64 0,.int .i64 0,.int .i64 0,.slice none 0 0,.slice none 0 0,.int .i64 0] 27)
         exact ⟨rfl,rfl,rfl,by unfold GV;simp;omega,fun q hq _=>by unfold GV;rw [heap_alloc_old _ _ (by simp;omega),heap_alloc_old _ _ (by simp;omega),heap_alloc_old _ _ hq]⟩
       have hsv:=aC hs k
       have hm:=Nk (cx:=cx) k
       have hC:=h (cx.Q8 w (GV w)) (GV w) (us++vs) hsv (by simpa using (hf.Cf hm).append (hc.Cf hm))
       have e1:(us++vs).toArray=us.toArray++vs.toArray:=by simp
       rw [e1] at hC
       refine (XH g hg us.toArray vs.toArray w (fun xs w'=>∃ c',Ext (cx.Q8 w (GV w)) (GV w) c' w'∧St G c' w' s'∧Bh c' w' cs xs.toList) ?_ (hC.mono ?_)).mono ?_
       · rintro xs w' ⟨c',hx,_,hr⟩
         have hl:=hr.len
         have hsz:(GV w).heap.size=w.heap.size+1+1+1:=by unfold GV;simp
         refine ⟨⟨by have:=Nat.eq_of_beq_eq_true hn;rw [← Array.length_toList];omega,?_⟩,LL hs hx ⟨by omega,by omega⟩,LL hs hx ⟨by omega,by omega⟩,LL hs hx ⟨by omega,by omega⟩⟩
         rw [Array.all_eq_true_iff_forall_mem]
         intro v hv
         exact PB hr ho v (by simpa using hv)
       · rintro e w' ⟨c',hx,hs',u,rfl,hu⟩
         cases hu with
         | agg hr=>exact ⟨_,rfl,c',hx,hs',by simpa using hr⟩
       · rintro e w2 ⟨xs,w',⟨c',hx,hs',hr⟩,rfl,k2⟩
         have m2:=Kg hx k2
         refine ⟨c'.NS cx,R6 hs k hx k2,T8 hs hx hs' k2,_,rfl,?_⟩
         have hr2:=hr.Cf m2
         have ha:Rp (c'.NS cx) w2 (.agg cs) (.agg xs):=by
           have:=Rp.agg hr2
           simpa using this
         exact .Bq (vs:=[.agg xs,.agg #[.int .i64 0,.int .i64 0],.bool true]) (.cons ha (.cons (.agg (vs:=[.int .i64 0,.int .i64 0]) (.cons (.sc rfl) (.cons (.sc rfl) .nil))) (.cons (.sc rfl) .nil)))
     · cases hk
   · cases hk
 · cases hk
end Go.Proofs.YtkfplcngmiljaaaGreatDoor
namespace AI
open Go
section
variable {α γ δ ρ:Type}
def allI (p:Nat→α→Bool):List α→Nat→Bool
 | [],_=>true
 | y::l,i=>p i y&&allI p l (i+1)
theorem QL {body:Nat→α→Unit→Option (Lp Unit δ ρ)} {done:Unit→δ} {p:Nat→α→Bool} {v:ρ}:∀ {l:List α} {i:Nat},(∀ k y,l[k]?=some y→body (i+k) y ()=some (if p (i+k) y then .nx () else .rt v))→Bb body done l i ()=some (if allI p l i then .inl (done ()) else .inr v)
 | [],i,_=>rfl
 | y::l,i,h=>by
   have h0:=h 0 y rfl
   rw [Nat.add_zero] at h0
   rw [Bb,h0,allI]
   cases p i y with
   | false=>simp [G5]
   | true =>
     have:=QL (body:=body) (done:=done) (p:=p) (v:=v) (l:=l) (i:=i+1) fun k z hz=>by
       have:=h (k+1) z (by simpa using hz)
       rwa [show i+(k+1)=i+1+k by omega] at this
     simpa [G5] using this
theorem Gd {β:Type} {n:Nat} {x:Option β} (h:n≤9223372036854775807):JQ n x=x:=by unfold JQ;rw [if_pos h]
theorem Tp {β:Type} {n:Nat} {x:Option β} (h:n≤100000000):Sv n x=x:=by unfold Sv;rw [if_pos h]
end
end AI
namespace AI
open Go
noncomputable def mb (p:Prop):Bool:=@decide p (Classical.propDecidable _)
theorem Bc {p:Prop}:mb p=true↔p:=by unfold mb;exact @decide_eq_true_iff p (_)
theorem EW {p q:Prop} (h:p↔q):mb p=mb q:=by rw [propext h]
noncomputable def AM {β:Type} (p:Prop) (x y:β):β:=@ite β p (Classical.propDecidable _) x y
theorem Ah {β:Type} {p:Prop} {x y:β} (h:p):AM p x y=x:=@if_pos p (_) h _ _ _
theorem Af {β:Type} {p:Prop} {x y:β} (h:¬ p):AM p x y=y:=@if_neg p (_) h _ _ _
section
variable {β:Type} {x y:β}
theorem oJ (a b:Int):cond (ES a b) x y=AM (a < b) x y:=by
 rw [IF]
 by_cases h:a < b
 · rw [Ah h,decide_eq_true h];rfl
 · rw [Af h,decide_eq_false h];rfl
theorem mJ (a b:Int):cond (Bi a b) x y=AM (a=b) x y:=by
 by_cases h:a=b
 · have:Bi a b=true:=by rw [IE];simpa using h
   rw [Ah h,this];rfl
 · have:Bi a b=false:=by rw [IE];simpa using h
   rw [Af h,this];rfl
theorem nY (a b:ByteArray):cond (BT a.data.toList b.data.toList) x y=AM (a=b) x y:=by
 by_cases h:a=b
 · have:BT a.data.toList b.data.toList=true:=by rw [Ni,h];simp
   rw [Ah h,this];rfl
 · have:BT a.data.toList b.data.toList=false:=by
     rw [Ni]
     apply beq_false_of_ne
     exact fun e=>h (ByteArray.ext (Array.ext' e))
   rw [Af h,this];rfl
theorem Bm (p:Prop):cond (mb p) x y=AM p x y:=by
 by_cases h:p
 · rw [Ah h,Bc.2 h];rfl
 · rw [Af h]
   have:mb p=false:=by
     cases hm:mb p
     · rfl
     · exact absurd (Bc.1 hm) h
   rw [this];rfl
theorem yB (b:Bool):cond b x y=AM (b=true) x y:=by cases b<;>simp [AM]
end
section
variable {p q r:Prop}
theorem Fi:AM p (some true) (some false)=some (mb p):=by
 by_cases h:p
 · rw [Ah h,Bc.2 h]
 · rw [Af h];congr 1;cases hm:mb p;rfl;exact absurd (Bc.1 hm) h
theorem kW:true=mb True:=(Bc.2 trivial).symm
theorem uO:false=mb False:=by cases h:mb False;rfl;exact (Bc.1 h).elim
theorem nQ:AM p (some false) (some true)=some (mb ¬ p):=by
 by_cases h:p
 · rw [Ah h];congr 1;rw [Bool.eq_iff_iff,Bc];simp [h]
 · rw [Af h];congr 1;rw [Bool.eq_iff_iff,Bc];simp [h]
theorem DB:AM p (some (mb q)) (some false)=some (mb (p∧q)):=by
 by_cases h:p
 · rw [Ah h];congr 1;rw [Bool.eq_iff_iff,Bc,Bc];simp [h]
 · rw [Af h];congr 1;rw [Bool.eq_iff_iff,Bc];simp [h]
theorem ZB:AM p (some false) (some (mb q))=some (mb (¬ p∧q)):=by
 by_cases h:p
 · rw [Ah h];congr 1;rw [Bool.eq_iff_iff,Bc];simp [h]
 · rw [Af h];congr 1;rw [Bool.eq_iff_iff,Bc,Bc];simp [h]
theorem aJ:AM p (some true) (some (mb q))=some (mb (p∨q)):=by
 by_cases h:p
 · rw [Ah h];congr 1;rw [Bool.eq_iff_iff,Bc];simp [h]
 · rw [Af h];congr 1;rw [Bool.eq_iff_iff,Bc,Bc];simp [h]
theorem Z6:AM p (some (mb q)) (some (mb r))=some (mb ((p→q)∧(¬ p→r))):=by
 by_cases h:p
 · rw [Ah h];congr 1;rw [Bool.eq_iff_iff,Bc,Bc];simp [h]
 · rw [Af h];congr 1;rw [Bool.eq_iff_iff,Bc,Bc];simp [h]
theorem Is {β:Type} {x:β}:AM p x x=x:=by
 by_cases h:p
 · exact Ah h
 · exact Af h
noncomputable def ck {δ ρ:Type} (v:ρ) (p:Prop):Lp Unit δ ρ:=AM p (.nx ()) (.rt v)
variable {δ ρ:Type} {v:ρ}
theorem QS:AM p (some (.nx ())) (some (.rt v))=some (ck (δ:=δ) v p):=by
 unfold ck;by_cases h:p
 · rw [Ah h,Ah h]
 · rw [Af h,Af h]
theorem UH:AM p (some (.rt v)) (some (.nx ()))=some (ck (δ:=δ) v ¬ p):=by
 unfold ck;by_cases h:p
 · rw [Ah h,Af (by simp [h])]
 · rw [Af h,Ah h]
theorem WI:AM p (some (ck (δ:=δ) v q)) (some (.rt v))=some (ck v (p∧q)):=by
 unfold ck;by_cases h:p
 · rw [Ah h];simp [h]
 · rw [Af h,Af (by simp [h])]
theorem Va:AM p (some (.rt v)) (some (ck (δ:=δ) v q))=some (ck v (¬ p∧q)):=by
 unfold ck;by_cases h:p
 · rw [Ah h,Af (by simp [h])]
 · rw [Af h];simp [h]
theorem cR:AM p (some (ck (δ:=δ) v q)) (some (.nx ()))=some (ck v (p→q)):=by
 unfold ck;by_cases h:p
 · rw [Ah h];simp [h]
 · rw [Af h,Ah (by simp [h])]
theorem kV:AM p (some (.nx ())) (some (ck (δ:=δ) v q))=some (ck v (p∨q)):=by
 unfold ck;by_cases h:p
 · rw [Ah h,Ah (by simp [h])]
 · rw [Af h];simp [h]
theorem pJ:AM p (some (ck (δ:=δ) v q)) (some (ck v r))=some (ck v ((p→q)∧(¬ p→r))):=by
 unfold ck;by_cases h:p
 · rw [Ah h];simp [h]
 · rw [Af h];simp [h]
theorem G9 {α β:Type} {l:List α} {body:Nat→α→Unit→Option (Lp Unit Unit ρ)} {P:Nat→α→Prop} {k:Unit→Option β} {kr:ρ→Option β} (hl:l.length≤9223372036854775807) (hb:∀ i y,l[i]?=some y→body i y ()=some (ck v (P i y))):(JQ l.length (Bb body (fun _=>()) (l.drop 0) 0 ())).bind (Kx k kr)=AM (∀ i y,l[i]?=some y→P i y) (k ()) (kr v):=by
 rw [Gd hl,List.drop_zero]
 have h1:∀ k y,l[k]?=some y→body (0+k) y ()=some (if mb (P (0+k) y) then .nx () else .rt v):=fun k y hy=>by
   rw [Nat.zero_add,hb k y hy]
   unfold ck
   by_cases h:P k y
   · rw [Ah h,if_pos (Bc.2 h)]
   · rw [Af h,if_neg (fun e=>h (Bc.1 e))]
 rw [QL (p:=fun i y=>mb (P i y)) (v:=v) h1]
 have h2:∀ (l:List α) (i:Nat),allI (fun i y=>mb (P i y)) l i=true↔∀ k y,l[k]?=some y→P (i+k) y:=by
   intro l
   induction l with
   | nil=>intro i;simp [allI]
   | cons a l ih =>
     intro i
     rw [allI,Bool.and_eq_true,Bc,ih]
     constructor
     · rintro ⟨h1,h2⟩ k y hk
       cases k with
       | zero=>simp at hk;subst hk;exact h1
       | succ k=>rw [show i+(k+1)=i+1+k by omega];exact h2 k y (by simpa using hk)
     · intro h
       refine ⟨h 0 a rfl,fun k y hk=>?_⟩
       rw [show i+1+k=i+(k+1) by omega]
       exact h (k+1) y (by simpa using hk)
 have h3:=h2 l 0
 simp only [Nat.zero_add] at h3
 by_cases h:∀ i y,l[i]?=some y→P i y
 · rw [Ah h,h3.2 h];rfl
 · rw [Af h]
   have:allI (fun i y=>mb (P i y)) l 0=false:=by
     cases ha:allI (fun i y=>mb (P i y)) l 0
     · rfl
     · exact absurd (h3.1 ha) h
   rw [this];rfl
end
end AI
namespace AI
open Go
def Sp {β:Type} (o:Option β) (Q:β→Prop):Prop:=∃ r,o=some r∧Q r
section
variable {α β γ δ ρ κ:Type} {Q:β→Prop}
theorem K3 {r:β}:Sp (some r) Q=Q r:=propext ⟨fun ⟨_,h,k⟩=>by cases h;exact k,fun h=>⟨_,rfl,h⟩⟩
theorem Te {o:Option κ} {k:κ→Option β}:Sp (o.bind k) Q=Sp o (fun y=>Sp (k y) Q):=propext ⟨fun ⟨r,h,hq⟩=>by
 obtain ⟨y,h1,h2⟩:=UU h
 exact ⟨y,h1,r,h2,hq⟩,fun ⟨y,h1,r,h2,hq⟩=>⟨r,by rw [h1];exact h2,hq⟩⟩
theorem Sp.mono {Q':β→Prop} {o:Option β} (h:Sp o Q) (k:∀ r,Q r→Q' r):Sp o Q':=h.elim fun r h=>⟨r,h.1,k r h.2⟩
theorem XJ {o:Option β} {r:β}:(o=some r)=Sp o (fun x=>x=r):=propext ⟨fun h=>⟨r,h,rfl⟩,fun ⟨_,h,k⟩=>by rw [h,k]⟩
theorem R7 {p:Prop} {x y:Option β}:Sp (AM p x y) Q=((p→Sp x Q)∧(¬ p→Sp y Q)):=propext (by
 by_cases h:p
 · rw [Ah h];exact ⟨fun a=>⟨fun _=>a,fun n=>absurd h n⟩,fun a=>a.1 h⟩
 · rw [Af h];exact ⟨fun a=>⟨fun n=>absurd n h,fun _=>a⟩,fun a=>a.2 h⟩)
theorem EJ (a b:Int):J0 a b=mb (a≤b):=by rw [Wt,Bool.eq_iff_iff,Bc,decide_eq_true_iff]
theorem D9 (a b:Int):ES a b=mb (a < b):=by rw [IF,Bool.eq_iff_iff,Bc,decide_eq_true_iff]
theorem Bs (a b:Int):Bi a b=mb (a=b):=by rw [IE,Bool.eq_iff_iff,Bc,beq_iff_eq]
theorem Cy (a b:ByteArray):BT a.data.toList b.data.toList=mb (a=b):=by
 rw [Ni,Bool.eq_iff_iff,Bc,beq_iff_eq]
 exact ⟨fun h=>ByteArray.ext (Array.ext' h),fun h=>by rw [h]⟩
theorem Kr {p:Prop}:(mb p=true)=p:=propext Bc
theorem Mf {p:Prop}:(mb p=false)=¬ p:=by rw [← Bool.not_eq_true,Kr]
theorem SF {p:Prop}:(true=mb p)=p:=by rw [@eq_comm _ true,Kr]
theorem Mp {p:Prop}:(false=mb p)=¬ p:=by rw [@eq_comm _ false,Mf]
theorem IV {p q:Prop} (h:p↔q):some (mb p)=some (mb q):=by rw [EW h]
theorem Gc {p:Prop} (h:¬ p):some false=some (mb p):=congrArg some (by rw [Mp];exact h)
theorem Yu {l:List α} {body:Nat→α→γ→Option (Lp γ δ ρ)} {done:γ→δ} {k:δ→Option β} {kr:ρ→Option β} {x0:γ} (I:Nat→γ→Prop) (hl:l.length≤9223372036854775807) (h0:I 0 x0)
   (hb:∀ i y x,l[i]?=some y→I i x→Sp (body i y x) (RQ (I (i+1)) (fun d=>Sp (k d) Q) (fun v=>Sp (kr v) Q)))
   (hz:∀ x,I l.length x→Sp (k (done x)) Q):Sp ((JQ l.length (Bb body done (l.drop 0) 0 x0)).bind (Kx k kr)) Q:=by
 rw [Gd hl,List.drop_zero]
 have key:∀ (m:List α) (i:Nat) (x:γ),l.drop i=m→i≤l.length→I i x→Sp ((Bb body done m i x).bind (Kx k kr)) Q:=by
   intro m
   induction m with
   | nil =>
     intro i x hd hle hi
     have h1:=List.drop_eq_nil_iff.1 hd
     have:i=l.length:=by omega
     subst this
     exact hz x hi
   | cons y m ih =>
     intro i x hd hle hi
     have hlt:i < l.length:=by
       rcases Nat.lt_or_ge i l.length with h1 | h1
       · exact h1
       · rw [List.drop_eq_nil_of_le h1] at hd;cases hd
     have hy:l[i]?=some y:=by rw [← List.head?_drop,hd];rfl
     have hd2:l.drop (i+1)=m:=by rw [← List.tail_drop,hd];rfl
     obtain ⟨r,hr,hq⟩:=hb i y x hy hi
     rw [Bb,hr]
     cases r with
     | nx x'=>exact ih (i+1) x' hd2 hlt hq
     | ex d=>exact hq
     | rt v=>exact hq
 exact key l 0 x0 rfl (Nat.zero_le _) h0
theorem lD {Qn:γ→Prop} {Qx:δ→Prop} {Qr:ρ→Prop} {x:γ}:RQ Qn Qx Qr (.nx x)=Qn x:=rfl
theorem mE {Qn:γ→Prop} {Qx:δ→Prop} {Qr:ρ→Prop} {x:δ}:RQ Qn Qx Qr (.ex x)=Qx x:=rfl
theorem cP {n:Nat} {body:Nat→γ→Option (Lp γ δ ρ)} {done:γ→δ} {k:δ→Option β} {kr:ρ→Option β} {x0:γ} (I:Nat→γ→Prop) (hl:n≤9223372036854775807) (h0:I 0 x0)
   (hb:∀ i x,i < n→I i x→Sp (body i x) (RQ (I (i+1)) (fun d=>Sp (k d) Q) (fun v=>Sp (kr v) Q)))
   (hz:∀ x,I n x→Sp (k (done x)) Q):Sp ((JQ n (Qh body done n 0 x0)).bind (Kx k kr)) Q:=by
 rw [Gd hl]
 have key:∀ (d i:Nat) (x:γ),i+d=n→I i x→Sp ((Qh body done d i x).bind (Kx k kr)) Q:=by
   intro d
   induction d with
   | zero =>
     intro i x hd hi
     have:i=n:=by omega
     subst this
     exact hz x hi
   | succ d ih =>
     intro i x hd hi
     obtain ⟨r,hr,hq⟩:=hb i x (by omega) hi
     rw [Qh,hr]
     cases r with
     | nx x'=>exact ih (i+1) x' (by omega) hq
     | ex d=>exact hq
     | rt v=>exact hq
 exact key n 0 x0 (by omega) h0
end
theorem KF {n:Int} (h:-9223372036854775808≤n∧n≤9223372036854775807):I8 .i64 n=n:=by
 rw [K8]
 exact IntWalk.i64_in n (by omega)
theorem Ew {a b:Int} (h:-9223372036854775808≤a+b∧a+b≤9223372036854775807):Ek a b=a+b:=by
 unfold Ek
 rw [Qj,KF h]
theorem Lh {a b:Int} (h:-9223372036854775808≤a - b∧a - b≤9223372036854775807):P5 a b=a - b:=by
 unfold P5
 rw [TQ,KF h]
theorem S3 {a b:Int} (h:-9223372036854775808≤a*b∧a*b≤9223372036854775807):OF a b=a*b:=by
 unfold OF
 rw [KF h]
end AI
namespace Go.Proofs.YtkfplcngmiljaaaGreatDoor
open AI Go
namespace Mo
set_option maxRecDepth 100000
set_option maxHeartbeats 4000000
noncomputable def qW:Code:=AU Tryz.f40
theorem vL:Tryz.f40.body=some qW:=by kernel_rfl
noncomputable def CI (Dj:Nd→Int→Option Int) (limit:Int) (i0:Nat) (e0:Nd) (out5:Int):Option (Lp Int Int Int):=cond (ES out5 limit) ((Dj e0 (P5 limit out5)).bind fun y1=>some (.nx (Ek out5 y1))) (some (.ex out5))
noncomputable def Di (Dj:Nd→Int→Option Int) (n:Nd) (limit:Int):Option Int:=cond (J0 limit 0) (some 0) ((JQ n.kids.length (Bb (fun i y x=>CI Dj limit i y x) (fun x=>x) (n.kids.drop 0) 0 1)).bind (Kx (fun (out5_2:Int)=>some out5_2) (fun v=>some v)))
theorem LH (Dj:Nd→Int→Option Int) (Nw:∀ {n:Nd} {limit:Int} {yR:Int},Dj n limit=some yR→Pure P G 40 [.agg (BA n),.sc (.int .i64 limit)] (.sc (.int .i64 yR))) {n:Nd} {limit:Int} {yR:Int} (h:Di Dj n limit=some yR):Pure P G 40 [.agg (BA n),.sc (.int .i64 limit)] (.sc (.int .i64 yR)):=by
 unfold Di at h
 refine BF Hd.mixed Hd.Ad (AF Tryz.func40 vL ?_) (Bd (AK.Gt n) (Bd rfl rfl)) rfl
 revert h
 refine Ae (fun hb1=>?_) fun hb1=>?_
 rintro ⟨⟩
 exact rS (Ac 300 [pb hb1]) (by kernel_rfl)
 refine H7 (fun Q v=>Hf P Tryz.f40 0 Q (.sc (.int .i64 v))) (fun i0 (out5:Int) (j0:List Value)=>fr 33 [(1,.sc (.int .i64 limit)),(2,.ptr 0 0),(5,.sc (.int .i64 out5)),(6,.sc (.int .i64 ((i0:Nat):Int)))] [8,13,14,17,18] j0) (fun (out5:Int)=>⟨[(0,.cells (BA n))],1,[],0⟩) (fun (out5:Int) (jx:List Value)=>fr 33 [(5,.sc (.int .i64 out5))] [8,13,14,17,18] jx) (fun (out5:Int)=>⟨[(0,.cells (BA n))],1,[],0⟩) [.bool false] (HH [] 0 (sb qW 244) [.code (sb qW 31)] (Ac 300 [pb hb1]) (by kernel_rfl)) ?_ ?_ ?_ (fun v h=>by cases h;exact .outer .body)
 rintro i0 out5 j0 hge hq
 exact ED (Ac 300 [pb (On hge)]) (by kernel_rfl) (hq [(jv j0 0),.bool false,.bool false,undef,.bool false])
 rintro i0 e0 out5 j0 r he0 hi0 mi0 k
 show CI Dj limit i0 e0 out5=some r→_
 unfold CI
 refine Ae (fun hb2=>?_) fun hb2=>?_
 refine Ai fun y1 hy1=>?_
 rintro ⟨⟩
 exact Fy (Ac 300 [pb (JR hi0),pb hb2,Dh (Cp .lost he0),pk,Aj (Nw hy1),pk,pi mi0]) (by kernel_rfl) (k [(jv j0 0),.bool true,.bool true,.bool true,.bool true])
 rintro ⟨⟩
 exact ED (Ac 300 [pb (JR hi0),pb hb2]) (by kernel_rfl) (k [(jv j0 0),.bool true,.bool true,.bool false,.bool false])
 rintro out5_2 jx_2
 intro h
 have hE:=Option.some.inj h
 subst hE
 exact AH _ _ (C2 300 []) (by kernel_rfl) .body .sc
noncomputable def Be:Nat→Nd→Int→Option Int
 | 0,_,_=>none
 | qn+1,n,limit=>Di (Be qn) n limit
theorem MC:∀ qn:Nat,∀ {n:Nd} {limit:Int} {yR:Int},Be qn n limit=some yR→Pure P G 40 [.agg (BA n),.sc (.int .i64 limit)] (.sc (.int .i64 yR)):=by
 intro qn
 induction qn with
 | zero=>exact (fun h=>by simp only [Be] at h;cases h)
 | succ qn ih=>exact (fun h=>LH (Be qn) ih (by rw [Be] at h;exact h))
noncomputable def FY (n:Nd) (limit:Int):Option Int:=Vf (fun qn=>Be qn n limit)
theorem Jb {n:Nd} {limit:Int} {yR:Int} (h:FY n limit=some yR):Pure P G 40 [.agg (BA n),.sc (.int .i64 limit)] (.sc (.int .i64 yR)):=by
 obtain ⟨qn,h⟩:=Sg h
 exact (MC qn) h
noncomputable def vQ:Code:=AU Tryz.f23
theorem xP:Tryz.f23.body=some vQ:=by kernel_rfl
noncomputable def CX  (n:Nd) (limit:Int):Option Bool:=(FY n (Ek limit 1)).bind fun y1=>cond (J0 y1 limit) (some true) (some false)
theorem DA   {n:Nd} {limit:Int} {yR:Bool} (h:CX  n limit=some yR):Pure P G 23 [.agg (BA n),.sc (.int .i64 limit)] (.sc (.bool yR)):=by
 unfold CX at h
 refine BF Hd.mixed Hd.Ad (AF Tryz.func23 xP ?_) (Bd (AK.Gt n) (Bd rfl rfl)) rfl
 revert h
 refine Ai fun y1 hy1=>?_
 refine Ae (fun hb1=>?_) fun hb1=>?_
 rintro ⟨⟩
 exact rS (Ac 300 [pk,Aj (Jb hy1),pb hb1]) (by kernel_rfl)
 rintro ⟨⟩
 exact rS (Ac 300 [pk,Aj (Jb hy1),pb hb1]) (by kernel_rfl)
noncomputable def xE:Code:=AU Tryz.f12
theorem xA:Tryz.f12.body=some xE:=by kernel_rfl
noncomputable def F1  (a:Nd) (b:Nd):Option Bool:=(CX a 400).bind fun y1=>cond y1 ((CX b 400).bind fun y2=>some y2) (some false)
theorem N3   {a:Nd} {b:Nd} {yR:Bool} (h:F1  a b=some yR):Pure P G 12 [.agg (BA a),.agg (BA b)] (.sc (.bool yR)):=by
 unfold F1 at h
 refine BF Hd.mixed Hd.Ad (AF Tryz.func12 xA ?_) (Bd (AK.Gt a) (Bd (AK.Gt b) rfl)) rfl
 revert h
 refine Ai fun y1 hy1=>?_
 refine Ae (fun hv=>?_) fun hv=>?_
 subst hv
 refine Ai fun y2 hy2=>?_
 intro h
 have hE:=Option.some.inj h
 subst hE
 exact rS (Ac 300 [Aj (DA hy1),Aj (DA hy2)]) (by kernel_rfl)
 subst hv
 rintro ⟨⟩
 exact rS (Ac 300 [Aj (DA hy1)]) (by kernel_rfl)
noncomputable def w7:Code:=AU Tryz.f50
theorem wA:Tryz.f50.body=some w7:=by kernel_rfl
noncomputable def A7  (c:Ck) (n:Nd) (depth:Int):Option (Bool×Int):=cond (J0 (Ek c.nodes 1) 2000) ((some (J0 depth 40)).bind fun q1=>some (q1,(Ek c.nodes 1))) (some (false,(Ek c.nodes 1)))
theorem Cu {c:Ck} {n:Nd} {depth:Int} {yR:Bool} {qc_nodesR:Int} (hS:Sound P G (.call 50 [.ptr 0 0,.agg (BA n),.sc (.int .i64 depth)] ⟨[(0,.cells (D7 c))],1,[],0⟩ (.ret (.sc (.bool yR))) ⟨[(0,.cells [.sc (.int .i64 qc_nodesR)])],1,[],0⟩)) (u0:Nat) (hnb:[u0].Nodup:=by decide) (hnt:([]:List Nat).Nodup:=by decide):Cd.ok P G (.callU 50 [.ptr u0 0,.agg (BA n),.sc (.int .i64 depth)] (.ret (.sc (.bool yR))) [(u0,.cells (D7 c))] [] [(u0,.cells [.sc (.int .i64 qc_nodesR)])] []) :=
 E3 (M:=[.cells (D7 c)]) (M2:=[.cells [.sc (.int .i64 qc_nodesR)]]) (T:=[]) (T2:=[]) (k:=1) (j:=0) Hd.Ad _ _ _ _ hS rfl rfl rfl rfl rfl hnb hnt rfl rfl (.cons (.cells (.pl (IS.pl c))) .nil) (.cons (.cells (.pl (Bd rfl rfl))) .nil) (.cons (.ptr (by decide)) (.cons (.pl (AK.Gt n)) (.cons (.pl rfl) .nil))) (.pl rfl) (fun e he=>by simp only [List.mem_singleton] at he;subst he;exact (.arg (.here .ptr)))
theorem BW   {c:Ck} {n:Nd} {depth:Int} {yR:Bool} {qc_nodesR:Int} (h:A7  c n depth=some (yR,qc_nodesR)):Sound P G (.call 50 [.ptr 0 0,.agg (BA n),.sc (.int .i64 depth)] ⟨[(0,.cells (D7 c))],1,[],0⟩ (.ret (.sc (.bool yR))) ⟨[(0,.cells [.sc (.int .i64 qc_nodesR)])],1,[],0⟩):=by
 unfold A7 at h
 refine E4 Hd.mixed (AF Tryz.func50 wA ?_)
 revert h
 refine Ae (fun hb1=>?_) fun hb1=>?_
 refine Ai fun q1 hq1=>?_
 intro h
 have hE:=Option.some.inj h
 obtain ⟨hE0,hF0⟩:=Prod.mk.inj hE
 subst hE0 hF0
 exact Al Hd.Ad _ _ [] [none] (Ac 300 [pk,pb hb1,Kl (lP hq1 (.tmp 20) (.const (.int .i64 40)))]) (by kernel_rfl) .body
 intro h
 have hE:=Option.some.inj h
 obtain ⟨hE0,hF0⟩:=Prod.mk.inj hE
 subst hE0 hF0
 exact Al Hd.Ad _ _ [] [none] (Ac 300 [pk,pb hb1]) (by kernel_rfl) .body
noncomputable def pM:Code:=AU Tryz.f82
theorem xZ:Tryz.f82.body=some pM:=by kernel_rfl
noncomputable def FX  (s2:(List Pc)) (i0:Nat) (e0:Pc) :Option (Lp Unit Unit Bool):=(s2[i0]?).bind fun x1=>cond (LA e0 x1) (some (.nx ())) (some (.rt false))
noncomputable def Fc  (s1:(List Pc)) (s2:(List Pc)):Option Bool:=cond (Bi ((s1.length:Nat):Int) ((s2.length:Nat):Int)) ((JQ s1.length (Bb (fun i y x=>FX  s2 i y ) (fun x=>()) (s1.drop 0) 0 ())).bind (Kx (fun (_:Unit)=>some true) (fun v=>some v))) (some false)
theorem Mz   {s1:(List Pc)} {s2:(List Pc)} {yR:Bool} (h:Fc  s1 s2=some yR):Pure P G 82 [.sl .lost s1.length (rows MH s1),.sl .lost s2.length (rows MH s2)] (.sc (.bool yR)):=by
 unfold Fc at h
 refine BF Hd.mixed Hd.Ad (AF Tryz.func82 xZ ?_) (Bd (J7.Hx s1) (Bd (J7.Hx s2) rfl)) rfl
 revert h
 refine Ae (fun hb1=>?_) fun hb1=>?_
 refine H7 (fun Q v=>Hf P Tryz.f82 0 Q (.sc (.bool v))) (fun i0 (_:Unit) (j0:List Value)=>fr 26 [(0,.sl .lost s1.length (rows MH s1)),(1,.sl .lost s2.length (rows MH s2)),(12,.sc (.int .i64 ((s1.length:Nat):Int))),(13,.sc (.int .i64 ((i0:Nat):Int)))] [4,10,14,24] j0) (fun (_:Unit)=>⟨[],0,[],0⟩) (fun (_:Unit) (jx:List Value)=>fr 26 [] [4,10,14,24] jx) (fun (_:Unit)=>⟨[],0,[],0⟩) [.bool false,.bool false] (HH [] 0 (sb pM 116) [.code (sb pM 15)] (Ac 300 [pn hb1]) (by kernel_rfl)) ?_ ?_ ?_ (fun v h=>by cases h;exact .outer .body)
 rintro i0 ⟨⟩ j0 hge hq
 exact ED (Ac 300 [pb (On hge)]) (by kernel_rfl) (hq (js 4 j0 [(2,.bool false)]))
 rintro i0 e0 ⟨⟩ j0 r he0 hi0 mi0 k
 show FX  s2 i0 e0 =some r→_
 unfold FX
 refine Ai fun x1 hx1=>?_
 refine Ae (fun hb2=>?_) fun hb2=>?_
 rintro ⟨⟩
 exact Fy (Ac 300 [pb (JR hi0),Dh (Qz .lost he0),Dh (Qz .lost hx1),Kl (bW hb2 (.tmp 19) (.tmp 23)),pi mi0]) (by kernel_rfl) (k (js 4 j0 [(2,.bool true),(3,.bool false)]))
 rintro ⟨⟩
 exact AH _ _ (Ac 300 [pb (JR hi0),Dh (Qz .lost he0),Dh (Qz .lost hx1),Kl (bW hb2 (.tmp 19) (.tmp 23))]) (by kernel_rfl) (.GF k) .sc
 rintro ⟨⟩ jx_2
 intro h
 have hE:=Option.some.inj h
 subst hE
 exact AH _ _ (C2 300 []) (by kernel_rfl) .body .sc
 rintro ⟨⟩
 exact rS (Ac 300 [pn hb1]) (by kernel_rfl)
noncomputable def vV:Code:=AU Tryz.f51
theorem uZ:Tryz.f51.body=some vV:=by kernel_rfl
noncomputable def AT  (n:Nd) (fields:Nd):Option Bool:=cond (BT n.name.data.toList fields.name.data.toList) (cond (BT n.unit.data.toList fields.unit.data.toList) (cond (Bi n.n fields.n) (cond (Bi n.fr fields.fr) (cond (Bi n.to fields.to) (cond (Bi n.known fields.known) (cond (Bi n.tab.den fields.tab.den) ((Fc n.tab.ps fields.tab.ps).bind fun y1=>some y1) (some false)) (some false)) (some false)) (some false)) (some false)) (some false)) (some false)
theorem AQ   {n:Nd} {fields:Nd} {yR:Bool} (h:AT  n fields=some yR):Pure P G 51 [.agg (BA n),.agg (BA fields)] (.sc (.bool yR)):=by
 unfold AT at h
 refine BF Hd.mixed Hd.Ad (AF Tryz.func51 uZ ?_) (Bd (AK.Gt n) (Bd (AK.Gt fields) rfl)) rfl
 revert h
 refine Ae (fun hb1=>?_) fun hb1=>?_
 refine Ae (fun hb2=>?_) fun hb2=>?_
 let o1:List (PC P G):=[pn hb1,pn hb2]
 refine Ae (fun hb3=>?_) fun hb3=>?_
 refine Ae (fun hb4=>?_) fun hb4=>?_
 refine Ae (fun hb5=>?_) fun hb5=>?_
 refine Ae (fun hb6=>?_) fun hb6=>?_
 refine Ae (fun hb7=>?_) fun hb7=>?_
 refine Ai fun y1 hy1=>?_
 intro h
 have hE:=Option.some.inj h
 subst hE
 exact rS (Ac 300 (o1++[pn hb3,pn hb4,pn hb5,pn hb6,pb hb7,Aj (Mz hy1)])) (by kernel_rfl)
 rintro ⟨⟩
 exact rS (Ac 300 (o1++[pn hb3,pn hb4,pn hb5,pn hb6,pb hb7])) (by kernel_rfl)
 rintro ⟨⟩
 exact rS (Ac 300 (o1++[pn hb3,pn hb4,pn hb5,pn hb6])) (by kernel_rfl)
 rintro ⟨⟩
 exact rS (Ac 300 (o1++[pn hb3,pn hb4,pn hb5])) (by kernel_rfl)
 rintro ⟨⟩
 exact rS (Ac 300 (o1++[pn hb3,pn hb4])) (by kernel_rfl)
 rintro ⟨⟩
 exact rS (Ac 300 (o1++[pn hb3])) (by kernel_rfl)
 rintro ⟨⟩
 exact rS (Ac 300 [pn hb1,pn hb2]) (by kernel_rfl)
 rintro ⟨⟩
 exact rS (Ac 300 [pn hb1]) (by kernel_rfl)
noncomputable def gU:Code:=AU Tryz.f113
theorem rZ:Tryz.f113.body=some gU:=by kernel_rfl
noncomputable def D6   (i0:Nat) (e0:UInt8) :Option (Lp Unit Unit Bool):=cond (ES ((e0.toNat:Nat):Int) 65) (some (.rt false)) (cond (ES 90 ((e0.toNat:Nat):Int)) (some (.rt false)) (some (.nx ())))
noncomputable def Du  (text:ByteArray):Option Bool:=cond (Bi ((text.data.toList.length:Nat):Int) 3) ((JQ text.data.toList.length (Bb (fun i y x=>D6   i y ) (fun x=>()) (text.data.toList.drop 0) 0 ())).bind (Kx (fun (_:Unit)=>some true) (fun v=>some v))) (some false)
theorem JW   {text:ByteArray} {yR:Bool} (h:Du  text=some yR):Pure P G 113 [.sc (.string text)] (.sc (.bool yR)):=by
 unfold Du at h
 refine BF Hd.mixed Hd.Ad (AF Tryz.func113 rZ ?_) (Bd rfl rfl) rfl
 revert h
 refine Ae (fun hb1=>?_) fun hb1=>?_
 refine H7 (fun Q v=>Hf P Tryz.f113 0 Q (.sc (.bool v))) (fun i0 (_:Unit) (j0:List Value)=>fr 23 [(0,.sc (.string text)),(8,.sc (.int .i64 ((text.data.toList.length:Nat):Int))),(9,.sc (.int .i64 ((i0:Nat):Int)))] [2,6,10,15,16,20,21] j0) (fun (_:Unit)=>⟨[],0,[],0⟩) (fun (_:Unit) (jx:List Value)=>fr 23 [] [2,6,10,15,16,20,21] jx) (fun (_:Unit)=>⟨[],0,[],0⟩) [.bool false,.bool false] (HH [] 0 (sb gU 116) [.code (sb gU 15)] (Ac 300 [pn hb1]) (by kernel_rfl)) ?_ ?_ ?_ (fun v h=>by cases h;exact .outer .body)
 rintro i0 ⟨⟩ j0 hge hq
 exact ED (Ac 300 [pb (On hge)]) (by kernel_rfl) (hq (js 7 j0 [(2,.bool false)]))
 rintro i0 e0 ⟨⟩ j0 r he0 hi0 mi0 k
 show D6   i0 e0 =some r→_
 unfold D6
 refine Ae (fun hb2=>?_) fun hb2=>?_
 rintro ⟨⟩
 exact AH _ _ (Ac 300 [pb (JR hi0),Pz (IG he0),pb hb2]) (by kernel_rfl) (.GF k) .sc
 refine Ae (fun hb3=>?_) fun hb3=>?_
 rintro ⟨⟩
 exact AH _ _ (Ac 300 [pb (JR hi0),Pz (IG he0),pb hb2,Pz (IG he0),pb hb3]) (by kernel_rfl) (.GF k) .sc
 rintro ⟨⟩
 exact Fy (Ac 300 [pb (JR hi0),Pz (IG he0),pb hb2,Pz (IG he0),pb hb3,pi mi0]) (by kernel_rfl) (k [(jv j0 0),(jv j0 1),.bool true,.bool false,.bool false,.bool false,.bool false])
 rintro ⟨⟩ jx_1
 intro h
 have hE:=Option.some.inj h
 subst hE
 exact AH _ _ (C2 300 []) (by kernel_rfl) .body .sc
 rintro ⟨⟩
 exact rS (Ac 300 [pn hb1]) (by kernel_rfl)
noncomputable def uV:Code:=AU Tryz.f76
theorem uY:Tryz.f76.body=some uV:=by kernel_rfl
noncomputable def Cg  (text:ByteArray):Option Bool:=cond (BT text.data.toList A4.data.toList) (some true) (cond (BT text.data.toList Bw.data.toList) (some true) (cond (BT text.data.toList Cw.data.toList) (some true) ((Du text).bind fun y1=>some y1)))
theorem CK   {text:ByteArray} {yR:Bool} (h:Cg  text=some yR):Pure P G 76 [.sc (.string text)] (.sc (.bool yR)):=by
 unfold Cg at h
 refine BF Hd.mixed Hd.Ad (AF Tryz.func76 uY ?_) (Bd rfl rfl) rfl
 revert h
 refine Ae (fun hb1=>?_) fun hb1=>?_
 rintro ⟨⟩
 exact rS (Ac 300 [pb hb1]) (by kernel_rfl)
 refine Ae (fun hb2=>?_) fun hb2=>?_
 rintro ⟨⟩
 exact rS (Ac 300 [pb hb1,pb hb2]) (by kernel_rfl)
 refine Ae (fun hb3=>?_) fun hb3=>?_
 rintro ⟨⟩
 exact rS (Ac 300 [pb hb1,pb hb2,pb hb3]) (by kernel_rfl)
 refine Ai fun y1 hy1=>?_
 intro h
 have hE:=Option.some.inj h
 subst hE
 exact rS (Ac 300 [pb hb1,pb hb2,pb hb3,Aj (JW hy1)]) (by kernel_rfl)
noncomputable def qD:Code:=AU Tryz.f114
theorem p6:Tryz.f114.body=some qD:=by kernel_rfl
noncomputable def Ef  (word:ByteArray):Option Bool:=cond (BT word.data.toList OP.data.toList) (some true) (cond (BT word.data.toList OI.data.toList) (some true) (cond (BT word.data.toList Ie.data.toList) (some true) (cond (BT word.data.toList UD.data.toList) (some true) (cond (BT word.data.toList OY.data.toList) (some true) (cond (BT word.data.toList O1.data.toList) (some true) (cond (BT word.data.toList jX.data.toList) (some true) (cond (BT word.data.toList LD.data.toList) (some true) (cond (BT word.data.toList OX.data.toList) (some true) (cond (BT word.data.toList JG.data.toList) (some true) (cond (BT word.data.toList JP.data.toList) (some true) (cond (BT word.data.toList A4.data.toList) (some true) (cond (BT word.data.toList Bw.data.toList) (some true) (cond (BT word.data.toList Cw.data.toList) (some true) (cond (BT word.data.toList T3.data.toList) (some true) (cond (BT word.data.toList OW.data.toList) (some true) (cond (BT word.data.toList JM.data.toList) (some true) (cond (BT word.data.toList LY.data.toList) (some true) (cond (BT word.data.toList Pv.data.toList) (some true) (cond (BT word.data.toList QT.data.toList) (some true) (cond (BT word.data.toList Hc.data.toList) (some true) (cond (BT word.data.toList Ub.data.toList) (some true) (cond (BT word.data.toList RE.data.toList) (some true) (cond (BT word.data.toList OU.data.toList) (some true) (cond (BT word.data.toList L2.data.toList) (some true) (cond (BT word.data.toList Ut.data.toList) (some true) (cond (BT word.data.toList DU.data.toList) (some true) (cond (BT word.data.toList My.data.toList) (some true) (cond (BT word.data.toList Gb.data.toList) (some true) (cond (BT word.data.toList IQ.data.toList) (some true) (cond (BT word.data.toList FJ.data.toList) (some true) (cond (BT word.data.toList Dz.data.toList) (some true) (cond (BT word.data.toList L0.data.toList) (some true) (some false)))))))))))))))))))))))))))))))))
theorem Hj   {word:ByteArray} {yR:Bool} (h:Ef  word=some yR):Pure P G 114 [.sc (.string word)] (.sc (.bool yR)):=by
 unfold Ef at h
 refine BF Hd.mixed Hd.Ad (AF Tryz.func114 p6 ?_) (Bd rfl rfl) rfl
 revert h
 refine Ae (fun hb1=>?_) fun hb1=>?_
 rintro ⟨⟩
 exact rS (Ac 300 [pb hb1]) (by kernel_rfl)
 let o1:List (PC P G):=[pb hb1]
 refine Ae (fun hb2=>?_) fun hb2=>?_
 rintro ⟨⟩
 exact rS (Ac 300 (o1++[pb hb2])) (by kernel_rfl)
 let o2:List (PC P G):=o1++[pb hb2]
 refine Ae (fun hb3=>?_) fun hb3=>?_
 rintro ⟨⟩
 exact rS (Ac 300 (o2++[pb hb3])) (by kernel_rfl)
 let o3:List (PC P G):=o2++[pb hb3]
 refine Ae (fun hb4=>?_) fun hb4=>?_
 rintro ⟨⟩
 exact rS (Ac 300 (o3++[pb hb4])) (by kernel_rfl)
 let o4:List (PC P G):=o3++[pb hb4]
 refine Ae (fun hb5=>?_) fun hb5=>?_
 rintro ⟨⟩
 exact rS (Ac 300 (o4++[pb hb5])) (by kernel_rfl)
 let o5:List (PC P G):=o4++[pb hb5]
 refine Ae (fun hb6=>?_) fun hb6=>?_
 rintro ⟨⟩
 exact rS (Ac 300 (o5++[pb hb6])) (by kernel_rfl)
 let o6:List (PC P G):=o5++[pb hb6]
 refine Ae (fun hb7=>?_) fun hb7=>?_
 rintro ⟨⟩
 exact rS (Ac 300 (o6++[pb hb7])) (by kernel_rfl)
 let o7:List (PC P G):=o6++[pb hb7]
 refine Ae (fun hb8=>?_) fun hb8=>?_
 rintro ⟨⟩
 exact rS (Ac 300 (o7++[pb hb8])) (by kernel_rfl)
 let o8:List (PC P G):=o7++[pb hb8]
 refine Ae (fun hb9=>?_) fun hb9=>?_
 rintro ⟨⟩
 exact rS (Ac 300 (o8++[pb hb9])) (by kernel_rfl)
 let o9:List (PC P G):=o8++[pb hb9]
 refine Ae (fun hb10=>?_) fun hb10=>?_
 rintro ⟨⟩
 exact rS (Ac 300 (o9++[pb hb10])) (by kernel_rfl)
 let o10:List (PC P G):=o9++[pb hb10]
 refine Ae (fun hb11=>?_) fun hb11=>?_
 rintro ⟨⟩
 exact rS (Ac 300 (o10++[pb hb11])) (by kernel_rfl)
 let o11:List (PC P G):=o10++[pb hb11]
 refine Ae (fun hb12=>?_) fun hb12=>?_
 rintro ⟨⟩
 exact rS (Ac 300 (o11++[pb hb12])) (by kernel_rfl)
 let o12:List (PC P G):=o11++[pb hb12]
 refine Ae (fun hb13=>?_) fun hb13=>?_
 rintro ⟨⟩
 exact rS (Ac 300 (o12++[pb hb13])) (by kernel_rfl)
 let o13:List (PC P G):=o12++[pb hb13]
 refine Ae (fun hb14=>?_) fun hb14=>?_
 rintro ⟨⟩
 exact rS (Ac 300 (o13++[pb hb14])) (by kernel_rfl)
 let o14:List (PC P G):=o13++[pb hb14]
 refine Ae (fun hb15=>?_) fun hb15=>?_
 rintro ⟨⟩
 exact rS (Ac 300 (o14++[pb hb15])) (by kernel_rfl)
 let o15:List (PC P G):=o14++[pb hb15]
 refine Ae (fun hb16=>?_) fun hb16=>?_
 rintro ⟨⟩
 exact rS (Ac 300 (o15++[pb hb16])) (by kernel_rfl)
 let o16:List (PC P G):=o15++[pb hb16]
 refine Ae (fun hb17=>?_) fun hb17=>?_
 rintro ⟨⟩
 exact rS (Ac 300 (o16++[pb hb17])) (by kernel_rfl)
 let o17:List (PC P G):=o16++[pb hb17]
 refine Ae (fun hb18=>?_) fun hb18=>?_
 rintro ⟨⟩
 exact rS (Ac 300 (o17++[pb hb18])) (by kernel_rfl)
 let o18:List (PC P G):=o17++[pb hb18]
 refine Ae (fun hb19=>?_) fun hb19=>?_
 rintro ⟨⟩
 exact rS (Ac 300 (o18++[pb hb19])) (by kernel_rfl)
 let o19:List (PC P G):=o18++[pb hb19]
 refine Ae (fun hb20=>?_) fun hb20=>?_
 rintro ⟨⟩
 exact rS (Ac 300 (o19++[pb hb20])) (by kernel_rfl)
 let o20:List (PC P G):=o19++[pb hb20]
 refine Ae (fun hb21=>?_) fun hb21=>?_
 rintro ⟨⟩
 exact rS (Ac 300 (o20++[pb hb21])) (by kernel_rfl)
 let o21:List (PC P G):=o20++[pb hb21]
 refine Ae (fun hb22=>?_) fun hb22=>?_
 rintro ⟨⟩
 exact rS (Ac 300 (o21++[pb hb22])) (by kernel_rfl)
 let o22:List (PC P G):=o21++[pb hb22]
 refine Ae (fun hb23=>?_) fun hb23=>?_
 rintro ⟨⟩
 exact rS (Ac 300 (o22++[pb hb23])) (by kernel_rfl)
 let o23:List (PC P G):=o22++[pb hb23]
 refine Ae (fun hb24=>?_) fun hb24=>?_
 rintro ⟨⟩
 exact rS (Ac 300 (o23++[pb hb24])) (by kernel_rfl)
 let nR:List (PC P G):=o23++[pb hb24]
 refine Ae (fun hb25=>?_) fun hb25=>?_
 rintro ⟨⟩
 exact rS (Ac 300 (nR++[pb hb25])) (by kernel_rfl)
 refine Ae (fun hb26=>?_) fun hb26=>?_
 rintro ⟨⟩
 exact rS (Ac 300 (nR++[pb hb25,pb hb26])) (by kernel_rfl)
 let o25:List (PC P G):=nR++[pb hb25,pb hb26]
 refine Ae (fun hb27=>?_) fun hb27=>?_
 rintro ⟨⟩
 exact rS (Ac 300 (o25++[pb hb27])) (by kernel_rfl)
 refine Ae (fun hb28=>?_) fun hb28=>?_
 rintro ⟨⟩
 exact rS (Ac 300 (o25++[pb hb27,pb hb28])) (by kernel_rfl)
 let o26:List (PC P G):=o25++[pb hb27,pb hb28]
 refine Ae (fun hb29=>?_) fun hb29=>?_
 rintro ⟨⟩
 exact rS (Ac 300 (o26++[pb hb29])) (by kernel_rfl)
 refine Ae (fun hb30=>?_) fun hb30=>?_
 rintro ⟨⟩
 exact rS (Ac 300 (o26++[pb hb29,pb hb30])) (by kernel_rfl)
 refine Ae (fun hb31=>?_) fun hb31=>?_
 rintro ⟨⟩
 exact rS (Ac 300 (o26++[pb hb29,pb hb30,pb hb31])) (by kernel_rfl)
 refine Ae (fun hb32=>?_) fun hb32=>?_
 rintro ⟨⟩
 exact rS (Ac 300 (o26++[pb hb29,pb hb30,pb hb31,pb hb32])) (by kernel_rfl)
 refine Ae (fun hb33=>?_) fun hb33=>?_
 rintro ⟨⟩
 exact rS (Ac 300 (o26++[pb hb29,pb hb30,pb hb31,pb hb32,pb hb33])) (by kernel_rfl)
 rintro ⟨⟩
 exact rS (Ac 300 (o26++[pb hb29,pb hb30,pb hb31,pb hb32,pb hb33])) (by kernel_rfl)
noncomputable def qZ:Code:=AU Tryz.f77
theorem vN:Tryz.f77.body=some qZ:=by kernel_rfl
noncomputable def DQ   (i0:Nat) (e0:UInt8) :Option (Lp Unit Unit Bool):=cond (ES ((e0.toNat:Nat):Int) 97) (cond (ES ((e0.toNat:Nat):Int) 48) (some (.rt false)) (cond (ES 57 ((e0.toNat:Nat):Int)) (cond (Bi ((e0.toNat:Nat):Int) 95) (some (.nx ())) (some (.rt false))) (some (.nx ())))) (cond (ES 122 ((e0.toNat:Nat):Int)) (some (.rt false)) (some (.nx ())))
noncomputable def BS  (text:ByteArray):Option Bool:=cond (BT text.data.toList ByteArray.empty.data.toList) (some false) (cond (ES 16 ((text.data.toList.length:Nat):Int)) (some false) ((text.data.toList[0]?).bind fun c1=>cond (ES ((c1.toNat:Nat):Int) 97) (some false) (cond (ES 122 ((c1.toNat:Nat):Int)) (some false) ((Ef text).bind fun y2=>cond y2 (some false) ((JQ text.data.toList.length (Bb (fun i y x=>DQ   i y ) (fun x=>()) (text.data.toList.drop 0) 0 ())).bind (Kx (fun (_:Unit)=>some true) (fun v=>some v)))))))
theorem Df   {text:ByteArray} {yR:Bool} (h:BS  text=some yR):Pure P G 77 [.sc (.string text)] (.sc (.bool yR)):=by
 unfold BS at h
 refine BF Hd.mixed Hd.Ad (AF Tryz.func77 vN ?_) (Bd rfl rfl) rfl
 revert h
 refine Ae (fun hb1=>?_) fun hb1=>?_
 rintro ⟨⟩
 exact rS (Ac 300 [pb hb1]) (by kernel_rfl)
 refine Ae (fun hb2=>?_) fun hb2=>?_
 rintro ⟨⟩
 exact rS (Ac 300 [pb hb1,pb hb2]) (by kernel_rfl)
 refine Ai fun c1 hc1=>?_
 let o1:List (PC P G):=[pb hb1,pb hb2,Pz (IG hc1)]
 refine Ae (fun hb3=>?_) fun hb3=>?_
 rintro ⟨⟩
 exact rS (Ac 300 (o1++[pb hb3])) (by kernel_rfl)
 refine Ae (fun hb4=>?_) fun hb4=>?_
 rintro ⟨⟩
 exact rS (Ac 300 (o1++[pb hb3,Pz (IG hc1),pb hb4])) (by kernel_rfl)
 refine Ai fun y2 hy2=>?_
 refine Ae (fun hv=>?_) fun hv=>?_
 subst hv
 rintro ⟨⟩
 exact rS (Ac 300 (o1++[pb hb3,Pz (IG hc1),pb hb4,Aj (Hj hy2)])) (by kernel_rfl)
 subst hv
 refine H7 (fun Q v=>Hf P Tryz.f77 0 Q (.sc (.bool v))) (fun i0 (_:Unit) (j0:List Value)=>fr 53 [(0,.sc (.string text)),(27,.sc (.int .i64 ((text.data.toList.length:Nat):Int))),(28,.sc (.int .i64 ((i0:Nat):Int)))] [2,6,7,10,11,12,15,16,17,20,21,22,24,25,29,35,36,38,39,40,42,43,45,46,47,48,50,51] j0) (fun (_:Unit)=>⟨[],0,[],0⟩) (fun (_:Unit) (jx:List Value)=>fr 53 [] [2,6,7,10,11,12,15,16,17,20,21,22,24,25,29,35,36,38,39,40,42,43,45,46,47,48,50,51] jx) (fun (_:Unit)=>⟨[],0,[],0⟩) [.bool false,.bool false,.bool false,.bool false,.bool false,.bool false,.bool false,.bool false,.bool false,.bool false,.bool false,.bool false,.bool false,.bool false] (HH [] 0 (sb qZ 116) [.code (sb qZ 15)] (Ac 300 (o1++[pb hb3,Pz (IG hc1),pb hb4,Aj (Hj hy2)])) (by kernel_rfl)) ?_ ?_ ?_ (fun v h=>by cases h;exact .outer .body)
 rintro i0 ⟨⟩ j0 hge hq
 exact ED (Ac 300 [pb (On hge)]) (by kernel_rfl) (hq (js 28 j0 [(14,.bool false)]))
 rintro i0 e0 ⟨⟩ j0 r he0 hi0 mi0 k
 show DQ   i0 e0 =some r→_
 unfold DQ
 let o2:List (PC P G):=[pb (JR hi0),Pz (IG he0)]
 refine Ae (fun hb5=>?_) fun hb5=>?_
 refine Ae (fun hb6=>?_) fun hb6=>?_
 rintro ⟨⟩
 exact AH _ _ (Ac 300 (o2++[pb hb5,pb hb6,pn (B:=Bi ((e0.toNat:Nat):Int) 95) (b:=false) (aT (by have:=Mh hb5;have:=Mh hb6;omega))])) (by kernel_rfl) (.GF k) .sc
 refine Ae (fun hb7=>?_) fun hb7=>?_
 refine Ae (fun hb8=>?_) fun hb8=>?_
 rintro ⟨⟩
 exact Fy (Ac 300 (o2++[pb hb5,pb hb6,pb hb7,pn hb8,pi mi0])) (by kernel_rfl) (k (js 28 j0 [(14,.bool true),(15,.bool true),(16,.bool true),(17,undef),(18,.bool true),(19,.bool true),(20,.bool false),(21,.bool false),(22,.bool true),(23,.bool true),(24,.bool true),(25,.bool true),(26,.bool false),(27,.bool false)]))
 rintro ⟨⟩
 exact AH _ _ (Ac 300 (o2++[pb hb5,pb hb6,pb hb7,pn hb8])) (by kernel_rfl) (.GF k) .sc
 rintro ⟨⟩
 exact Fy (Ac 300 (o2++[pb hb5,pb hb6,pb hb7,pi mi0])) (by kernel_rfl) (k (js 28 j0 [(14,.bool true),(15,.bool true),(16,.bool true),(17,undef),(18,.bool true),(19,.bool true),(20,.bool false),(21,.bool false),(22,.bool false),(23,.bool false),(24,.bool false),(25,.bool false),(26,undef),(27,.bool false)]))
 refine Ae (fun hb9=>?_) fun hb9=>?_
 rintro ⟨⟩
 exact AH _ _ (Ac 300 (o2++[pb hb5,pb hb9,pb (B:=ES ((e0.toNat:Nat):Int) 48) (b:=false) (cK (by have:=Vs hb5;have:=Mh hb9;omega)),pb (B:=ES 57 ((e0.toNat:Nat):Int)) (b:=true) (kY (by have:=Vs hb5;have:=Mh hb9;omega)),pn (B:=Bi ((e0.toNat:Nat):Int) 95) (b:=false) (aT (by have:=Vs hb5;have:=Mh hb9;omega))])) (by kernel_rfl) (.GF k) .sc
 rintro ⟨⟩
 exact Fy (Ac 300 (o2++[pb hb5,pb hb9,pi mi0])) (by kernel_rfl) (k (js 28 j0 [(14,.bool true),(15,.bool false),(16,.bool false),(17,.bool false),(18,.bool false),(19,.bool false),(20,undef),(21,undef),(22,undef),(23,undef),(24,.bool false),(25,.bool false),(26,undef),(27,.bool false)]))
 rintro ⟨⟩ jx_3
 intro h
 have hE:=Option.some.inj h
 subst hE
 exact AH _ _ (C2 300 []) (by kernel_rfl) .body .sc
noncomputable def vT:Code:=AU Tryz.f78
theorem xS:Tryz.f78.body=some vT:=by kernel_rfl
noncomputable def BD  (n:Int):Option Bool:=cond (J0 1 n) (cond (J0 n 1000000) (some true) (some false)) (some false)
theorem C5   {n:Int} {yR:Bool} (h:BD  n=some yR):Pure P G 78 [.sc (.int .i64 n)] (.sc (.bool yR)):=by
 unfold BD at h
 refine BF Hd.mixed Hd.Ad (AF Tryz.func78 xS ?_) (Bd rfl rfl) rfl
 revert h
 refine Ae (fun hb1=>?_) fun hb1=>?_
 refine Ae (fun hb2=>?_) fun hb2=>?_
 rintro ⟨⟩
 exact rS (Ac 300 [pb hb1,pb hb2]) (by kernel_rfl)
 rintro ⟨⟩
 exact rS (Ac 300 [pb hb1,pb hb2]) (by kernel_rfl)
 rintro ⟨⟩
 exact rS (Ac 300 [pb hb1]) (by kernel_rfl)
noncomputable def xV:Code:=AU Tryz.f79
theorem wC:Tryz.f79.body=some xV:=by kernel_rfl
noncomputable def CU  (word:ByteArray):Option Bool:=cond (BT word.data.toList DU.data.toList) (some true) (cond (BT word.data.toList My.data.toList) (some true) (cond (BT word.data.toList Gb.data.toList) (some true) (cond (BT word.data.toList IQ.data.toList) (some true) (some false))))
theorem IL   {word:ByteArray} {yR:Bool} (h:CU  word=some yR):Pure P G 79 [.sc (.string word)] (.sc (.bool yR)):=by
 unfold CU at h
 refine BF Hd.mixed Hd.Ad (AF Tryz.func79 wC ?_) (Bd rfl rfl) rfl
 revert h
 refine Ae (fun hb1=>?_) fun hb1=>?_
 rintro ⟨⟩
 exact rS (Ac 300 [pb hb1]) (by kernel_rfl)
 refine Ae (fun hb2=>?_) fun hb2=>?_
 rintro ⟨⟩
 exact rS (Ac 300 [pb hb1,pb hb2]) (by kernel_rfl)
 refine Ae (fun hb3=>?_) fun hb3=>?_
 rintro ⟨⟩
 exact rS (Ac 300 [pb hb1,pb hb2,pb hb3]) (by kernel_rfl)
 refine Ae (fun hb4=>?_) fun hb4=>?_
 rintro ⟨⟩
 exact rS (Ac 300 [pb hb1,pb hb2,pb hb3,pb hb4]) (by kernel_rfl)
 rintro ⟨⟩
 exact rS (Ac 300 [pb hb1,pb hb2,pb hb3,pb hb4]) (by kernel_rfl)
noncomputable def qJ:Code:=AU Tryz.f81
theorem xK:Tryz.f81.body=some qJ:=by kernel_rfl
noncomputable def Dl  (f:Fn) (i0:Nat) (e0:Pc) :Option (Lp Unit Unit Bool):=cond (ES 999999999999 e0.fr) (some (.rt false)) (cond (ES 0 ((i0:Nat):Int)) ((LP f.ps (P5 ((i0:Nat):Int) 1)).bind fun x3=>cond (J0 e0.fr x3.fr) (some (.rt false)) ((LS e0.att f.den).bind fun z4=>cond (Bi z4 0) (cond (ES (OF 999999999999 f.den) e0.att) (some (.rt false)) (cond (ES e0.att (OF (-999999999999) f.den)) (some (.rt false)) (cond (ES 1000000 e0.slope) (some (.rt false)) (cond (ES e0.slope (-1000000)) (some (.rt false)) (some (.nx ())))))) (some (.rt false)))) ((LS e0.att f.den).bind fun z5=>cond (Bi z5 0) (cond (ES (OF 999999999999 f.den) e0.att) (some (.rt false)) (cond (ES e0.att (OF (-999999999999) f.den)) (some (.rt false)) (cond (ES 1000000 e0.slope) (some (.rt false)) (cond (ES e0.slope (-1000000)) (some (.rt false)) (some (.nx ())))))) (some (.rt false))))
noncomputable def C4  (f:Fn):Option Bool:=(BD f.den).bind fun y1=>cond y1 (cond (ES ((f.ps.length:Nat):Int) 1) (some false) (cond (ES 64 ((f.ps.length:Nat):Int)) (some false) ((f.ps[0]?).bind fun x2=>cond (Bi x2.fr 0) ((JQ f.ps.length (Bb (fun i y x=>Dl  f i y ) (fun x=>()) (f.ps.drop 0) 0 ())).bind (Kx (fun (_:Unit)=>some true) (fun v=>some v))) (some false)))) (some false)
theorem D4   {f:Fn} {yR:Bool} (h:C4  f=some yR):Pure P G 81 [.agg (Ve f)] (.sc (.bool yR)):=by
 unfold C4 at h
 refine BF Hd.mixed Hd.Ad (AF Tryz.func81 xK ?_) (Bd (NL.Gt f) rfl) rfl
 revert h
 refine Ai fun y1 hy1=>?_
 let o1:List (PC P G):=[Aj (C5 hy1)]
 refine Ae (fun hv=>?_) fun hv=>?_
 subst hv
 refine Ae (fun hb1=>?_) fun hb1=>?_
 rintro ⟨⟩
 exact rS (Ac 300 (o1++[pb hb1])) (by kernel_rfl)
 refine Ae (fun hb2=>?_) fun hb2=>?_
 rintro ⟨⟩
 exact rS (Ac 300 (o1++[pb hb1,pb hb2])) (by kernel_rfl)
 refine Ai fun x2 hx2=>?_
 refine Ae (fun hb3=>?_) fun hb3=>?_
 refine H7 (fun Q v=>Hf P Tryz.f81 0 Q (.sc (.bool v))) (fun i0 (_:Unit) (j0:List Value)=>fr 87 [(1,.ptr 0 0),(30,.sl .lost f.ps.length (rows MH f.ps)),(31,.sc (.int .i64 ((f.ps.length:Nat):Int))),(32,.sc (.int .i64 ((i0:Nat):Int)))] [2,7,8,9,13,14,15,19,20,21,27,28,33,39,40,42,43,53,54,55,61,62,68,69,70,76,77,80,81,84,85] j0) (fun (_:Unit)=>⟨[(0,.cells (Ve f))],1,[],0⟩) (fun (_:Unit) (jx:List Value)=>fr 87 [] [2,7,8,9,13,14,15,19,20,21,27,28,33,39,40,42,43,53,54,55,61,62,68,69,70,76,77,80,81,84,85] jx) (fun (_:Unit)=>⟨[(0,.cells (Ve f))],1,[],0⟩) [.bool false,.bool true,.bool false,.bool false,.bool false,.bool false,.bool false,.bool false,.bool false,.bool false,.bool false,.bool false] (HH [] 0 (sb qJ 116) [.code (sb qJ 15)] (Ac 300 (o1++[pb hb1,pb hb2,Dh (Qz .lost hx2),pn hb3])) (by kernel_rfl)) ?_ ?_ ?_ (fun v h=>by cases h;exact .outer .body)
 rintro i0 ⟨⟩ j0 hge hq
 exact ED (Ac 300 [pb (On hge)]) (by kernel_rfl) (hq (js 31 j0 [(12,.bool false)]))
 rintro i0 e0 ⟨⟩ j0 r he0 hi0 mi0 k
 show Dl  f i0 e0 =some r→_
 unfold Dl
 let o2:List (PC P G):=[pb (JR hi0),Dh (Qz .lost he0)]
 refine Ae (fun hb4=>?_) fun hb4=>?_
 rintro ⟨⟩
 exact AH _ _ (Ac 300 (o2++[pb hb4])) (by kernel_rfl) (.GF k) .sc
 let o3:List (PC P G):=o2++[pb hb4]
 refine Ae (fun hb5=>?_) fun hb5=>?_
 refine Ai fun x3 hx3=>?_
 let o4:List (PC P G):=o3++[pb hb5,pk,Dh (Xi .lost hx3)]
 refine Ae (fun hb6=>?_) fun hb6=>?_
 rintro ⟨⟩
 exact AH _ _ (Ac 300 (o4++[pb hb6])) (by kernel_rfl) (.GF k) .sc
 refine Ai fun z4 hz4=>?_
 let o5:List (PC P G):=o4++[pb hb6,Kl (MQ hz4 (.tmp 57) (.tmp 59))]
 refine Ae (fun hb7=>?_) fun hb7=>?_
 refine Ae (fun hb8=>?_) fun hb8=>?_
 rintro ⟨⟩
 exact AH _ _ (Ac 300 (o5++[pn hb7,pk,pb hb8])) (by kernel_rfl) (.GF k) .sc
 refine Ae (fun hb9=>?_) fun hb9=>?_
 rintro ⟨⟩
 exact AH _ _ (Ac 300 (o5++[pn hb7,pk,pb hb8,pk,pb hb9])) (by kernel_rfl) (.GF k) .sc
 refine Ae (fun hb10=>?_) fun hb10=>?_
 rintro ⟨⟩
 exact AH _ _ (Ac 300 (o5++[pn hb7,pk,pb hb8,pk,pb hb9,pb hb10])) (by kernel_rfl) (.GF k) .sc
 refine Ae (fun hb11=>?_) fun hb11=>?_
 rintro ⟨⟩
 exact AH _ _ (Ac 300 (o5++[pn hb7,pk,pb hb8,pk,pb hb9,pb hb10,pb hb11])) (by kernel_rfl) (.GF k) .sc
 rintro ⟨⟩
 exact EG Hd.Ad [fq (J7.Hx f.ps)] [bp (NL.pl f)] (Ac 300 (o5++[pn hb7,pk,pb hb8,pk,pb hb9,pb hb10,pb hb11,pi mi0])) (by kernel_rfl) (k (js 31 j0 [(12,.bool true),(13,.bool false),(14,.bool false),(15,.bool true),(16,.bool true),(17,.bool false),(18,.bool false),(19,.bool false),(20,.bool false),(21,.bool false),(22,.bool false),(23,.bool false),(24,.bool false),(25,.bool false),(26,.bool false),(27,.bool false),(28,.bool false),(29,.bool false),(30,.bool false)]))
 rintro ⟨⟩
 exact AH _ _ (Ac 300 (o5++[pn hb7])) (by kernel_rfl) (.GF k) .sc
 refine Ai fun z5 hz5=>?_
 let o6:List (PC P G):=o3++[pb hb5,Kl (MQ hz5 (.tmp 57) (.tmp 59))]
 refine Ae (fun hb12=>?_) fun hb12=>?_
 refine Ae (fun hb13=>?_) fun hb13=>?_
 rintro ⟨⟩
 exact AH _ _ (Ac 300 (o6++[pn hb12,pk,pb hb13])) (by kernel_rfl) (.GF k) .sc
 refine Ae (fun hb14=>?_) fun hb14=>?_
 rintro ⟨⟩
 exact AH _ _ (Ac 300 (o6++[pn hb12,pk,pb hb13,pk,pb hb14])) (by kernel_rfl) (.GF k) .sc
 refine Ae (fun hb15=>?_) fun hb15=>?_
 rintro ⟨⟩
 exact AH _ _ (Ac 300 (o6++[pn hb12,pk,pb hb13,pk,pb hb14,pb hb15])) (by kernel_rfl) (.GF k) .sc
 refine Ae (fun hb16=>?_) fun hb16=>?_
 rintro ⟨⟩
 exact AH _ _ (Ac 300 (o6++[pn hb12,pk,pb hb13,pk,pb hb14,pb hb15,pb hb16])) (by kernel_rfl) (.GF k) .sc
 rintro ⟨⟩
 exact EG Hd.Ad [fq (J7.Hx f.ps)] [bp (NL.pl f)] (Ac 300 (o6++[pn hb12,pk,pb hb13,pk,pb hb14,pb hb15,pb hb16,pi mi0])) (by kernel_rfl) (k (js 31 j0 [(12,.bool true),(13,.bool false),(14,.bool false),(15,.bool false),(16,.bool false),(17,undef),(18,.bool false),(19,.bool false),(20,.bool false),(21,.bool false),(22,.bool false),(23,.bool false),(24,.bool false),(25,.bool false),(26,.bool false),(27,.bool false),(28,.bool false),(29,.bool false),(30,.bool false)]))
 rintro ⟨⟩
 exact AH _ _ (Ac 300 (o6++[pn hb12])) (by kernel_rfl) (.GF k) .sc
 rintro ⟨⟩ jx_6
 intro h
 have hE:=Option.some.inj h
 subst hE
 exact AH _ _ (C2 300 []) (by kernel_rfl) .body .sc
 rintro ⟨⟩
 exact rS (Ac 300 (o1++[pb hb1,pb hb2,Dh (Qz .lost hx2),pn hb3])) (by kernel_rfl)
 subst hv
 rintro ⟨⟩
 exact rS (Ac 300 o1) (by kernel_rfl)
theorem AB {c:Ck} {n:Nd} {depth:Int} {yR:Bool} {qc_nodesR:Int} (hS:Sound P G (.call 49 [.ptr 0 0,.agg (BA n),.sc (.int .i64 depth)] ⟨[(0,.cells (D7 c))],1,[],0⟩ (.ret (.sc (.bool yR))) ⟨[(0,.cells [.sc (.int .i64 qc_nodesR)])],1,[],0⟩)) (u0:Nat) (hnb:[u0].Nodup:=by decide) (hnt:([]:List Nat).Nodup:=by decide):Cd.ok P G (.callU 49 [.ptr u0 0,.agg (BA n),.sc (.int .i64 depth)] (.ret (.sc (.bool yR))) [(u0,.cells (D7 c))] [] [(u0,.cells [.sc (.int .i64 qc_nodesR)])] []) :=
 E3 (M:=[.cells (D7 c)]) (M2:=[.cells [.sc (.int .i64 qc_nodesR)]]) (T:=[]) (T2:=[]) (k:=1) (j:=0) Hd.Ad _ _ _ _ hS rfl rfl rfl rfl rfl hnb hnt rfl rfl (.cons (.cells (.pl (IS.pl c))) .nil) (.cons (.cells (.pl (Bd rfl rfl))) .nil) (.cons (.ptr (by decide)) (.cons (.pl (AK.Gt n)) (.cons (.pl rfl) .nil))) (.pl rfl) (fun e he=>by simp only [List.mem_singleton] at he;subst he;exact (.arg (.here .ptr)))
theorem H6 {c:Ck} {n:Nd} {depth:Int} {yR:Bool} {qc_nodesR:Int} (hS:Sound P G (.call 80 [.ptr 0 0,.agg (BA n),.sc (.int .i64 depth)] ⟨[(0,.cells (D7 c))],1,[],0⟩ (.ret (.sc (.bool yR))) ⟨[(0,.cells [.sc (.int .i64 qc_nodesR)])],1,[],0⟩)) (u0:Nat) (hnb:[u0].Nodup:=by decide) (hnt:([]:List Nat).Nodup:=by decide):Cd.ok P G (.callU 80 [.ptr u0 0,.agg (BA n),.sc (.int .i64 depth)] (.ret (.sc (.bool yR))) [(u0,.cells (D7 c))] [] [(u0,.cells [.sc (.int .i64 qc_nodesR)])] []) :=
 E3 (M:=[.cells (D7 c)]) (M2:=[.cells [.sc (.int .i64 qc_nodesR)]]) (T:=[]) (T2:=[]) (k:=1) (j:=0) Hd.Ad _ _ _ _ hS rfl rfl rfl rfl rfl hnb hnt rfl rfl (.cons (.cells (.pl (IS.pl c))) .nil) (.cons (.cells (.pl (Bd rfl rfl))) .nil) (.cons (.ptr (by decide)) (.cons (.pl (AK.Gt n)) (.cons (.pl rfl) .nil))) (.pl rfl) (fun e he=>by simp only [List.mem_singleton] at he;subst he;exact (.arg (.here .ptr)))
theorem E8 {c:Ck} {n:Nd} {depth:Int} {yR:Bool} {qc_nodesR:Int} (hS:Sound P G (.call 115 [.ptr 0 0,.agg (BA n),.sc (.int .i64 depth)] ⟨[(0,.cells (D7 c))],1,[],0⟩ (.ret (.sc (.bool yR))) ⟨[(0,.cells [.sc (.int .i64 qc_nodesR)])],1,[],0⟩)) (u0:Nat) (hnb:[u0].Nodup:=by decide) (hnt:([]:List Nat).Nodup:=by decide):Cd.ok P G (.callU 115 [.ptr u0 0,.agg (BA n),.sc (.int .i64 depth)] (.ret (.sc (.bool yR))) [(u0,.cells (D7 c))] [] [(u0,.cells [.sc (.int .i64 qc_nodesR)])] []) :=
 E3 (M:=[.cells (D7 c)]) (M2:=[.cells [.sc (.int .i64 qc_nodesR)]]) (T:=[]) (T2:=[]) (k:=1) (j:=0) Hd.Ad _ _ _ _ hS rfl rfl rfl rfl rfl hnb hnt rfl rfl (.cons (.cells (.pl (IS.pl c))) .nil) (.cons (.cells (.pl (Bd rfl rfl))) .nil) (.cons (.ptr (by decide)) (.cons (.pl (AK.Gt n)) (.cons (.pl rfl) .nil))) (.pl rfl) (fun e he=>by simp only [List.mem_singleton] at he;subst he;exact (.arg (.here .ptr)))
theorem EF {c:Ck} {list:(List Nd)} {depth:Int} {yR:Bool} {qc_nodesR:Int} (hS:Sound P G (.call 52 [.ptr 0 0,.sl .lost list.length (CC list),.sc (.int .i64 depth),.fn (.func 49) [.ptr 0 0] []] ⟨[(0,.cells (D7 c))],1,[],0⟩ (.ret (.sc (.bool yR))) ⟨[(0,.cells [.sc (.int .i64 qc_nodesR)])],1,[],0⟩)) (u0:Nat) (hnb:[u0].Nodup:=by decide) (hnt:([]:List Nat).Nodup:=by decide):Cd.ok P G (.callU 52 [.ptr u0 0,.sl .lost list.length (CC list),.sc (.int .i64 depth),.fn (.func 49) [.ptr u0 0] []] (.ret (.sc (.bool yR))) [(u0,.cells (D7 c))] [] [(u0,.cells [.sc (.int .i64 qc_nodesR)])] []) :=
 E3 (M:=[.cells (D7 c)]) (M2:=[.cells [.sc (.int .i64 qc_nodesR)]]) (T:=[]) (T2:=[]) (k:=1) (j:=0) Hd.Ad _ _ _ _ hS rfl rfl rfl rfl rfl hnb hnt rfl rfl (.cons (.cells (.pl (IS.pl c))) .nil) (.cons (.cells (.pl (Bd rfl rfl))) .nil) (.cons (.ptr (by decide)) (.cons (.pl (AK.Hx list)) (.cons (.pl rfl) (.cons (.fn (.cons (.ptr (by decide)) .nil) (.pl rfl)) .nil)))) (.pl rfl) (fun e he=>by simp only [List.mem_singleton] at he;subst he;exact (.arg (.here .ptr)))
noncomputable def x6:Code:=AU Tryz.f49
theorem xQ:Tryz.f49.body=some x6:=by kernel_rfl
noncomputable def BV (Ag:Ck→Nd→Int→Option (Bool×Int)) (As:Ck→Nd→Int→Option (Bool×Int)) (At:Ck→Nd→Int→Option (Bool×Int)) (Ak:Ck→(List Nd)→Int→Option (Bool×Int)) (c:Ck) (n:Nd) (depth:Int):Option (Bool×Int):=(A7 c n depth).bind fun (y1a,y1b)=>cond y1a (cond (Bi n.kind 11) ((Cg n.unit).bind fun y2=>cond y2 (cond (ES n.n 0) (some (false,y1b)) (cond (ES 999999999999 n.n) (some (false,y1b)) (cond (BT n.unit.data.toList A4.data.toList) (cond (ES 1 n.n) (some (false,y1b)) (cond (Bi ((n.kids.length:Nat):Int) 0) ((AT n (⟨0,ByteArray.empty,n.unit,n.n,0,0,0,(⟨0,[]⟩:Fn),[],0⟩:Nd)).bind fun y3=>some (y3,y1b)) (some (false,y1b)))) (cond (Bi ((n.kids.length:Nat):Int) 0) ((AT n (⟨0,ByteArray.empty,n.unit,n.n,0,0,0,(⟨0,[]⟩:Fn),[],0⟩:Nd)).bind fun y4=>some (y4,y1b)) (some (false,y1b)))))) (some (false,y1b))) (cond (Bi n.kind 12) ((BS n.name).bind fun y5=>cond y5 (cond (Bi ((n.kids.length:Nat):Int) 0) ((AT n (⟨0,n.name,ByteArray.empty,0,0,0,0,(⟨0,[]⟩:Fn),[],0⟩:Nd)).bind fun y6=>some (y6,y1b)) (some (false,y1b))) (some (false,y1b))) (cond (Bi n.kind 13) ((BD n.n).bind fun y7=>cond y7 (cond (Bi ((n.kids.length:Nat):Int) 0) ((AT n (⟨0,ByteArray.empty,ByteArray.empty,n.n,0,0,0,(⟨0,[]⟩:Fn),[],0⟩:Nd)).bind fun y8=>some (y8,y1b)) (some (false,y1b))) (some (false,y1b))) (cond (Bi n.kind 14) ((CU n.name).bind fun y9=>cond y9 (cond (Bi ((n.kids.length:Nat):Int) 0) ((AT n (⟨0,n.name,ByteArray.empty,0,0,0,0,(⟨0,[]⟩:Fn),[],0⟩:Nd)).bind fun y10=>some (y10,y1b)) (some (false,y1b))) (some (false,y1b))) (cond (Bi n.kind 15) (cond (Bi ((n.kids.length:Nat):Int) 1) ((AT n (⟨0,ByteArray.empty,ByteArray.empty,0,0,0,0,(⟨0,[]⟩:Fn),[],0⟩:Nd)).bind fun y11=>cond y11 ((n.kids[0]?).bind fun x12=>(Ag (⟨y1b⟩:Ck) x12 (Ek depth 1)).bind fun (y13a,y13b)=>some (y13a,y13b)) (some (false,y1b))) (some (false,y1b))) (cond (Bi n.kind 16) ((AT n (⟨0,n.name,ByteArray.empty,0,0,0,0,(⟨0,[]⟩:Fn),[],0⟩:Nd)).bind fun y14=>cond y14 ((As (⟨y1b⟩:Ck) n depth).bind fun (y15a,y15b)=>some (y15a,y15b)) (some (false,y1b))) (cond (Bi n.kind 17) (cond (BT n.name.data.toList FJ.data.toList) ((AT n (⟨0,n.name,ByteArray.empty,0,0,0,0,(⟨0,[]⟩:Fn),[],0⟩:Nd)).bind fun y16=>cond y16 (cond (J0 2 ((n.kids.length:Nat):Int)) ((Ak (⟨y1b⟩:Ck) n.kids (Ek depth 1)).bind fun (y17a,y17b)=>some (y17a,y17b)) (some (false,y1b))) (some (false,y1b))) (cond (BT n.name.data.toList Dz.data.toList) ((AT n (⟨0,n.name,ByteArray.empty,0,0,0,0,(⟨0,[]⟩:Fn),[],0⟩:Nd)).bind fun y18=>cond y18 (cond (J0 2 ((n.kids.length:Nat):Int)) ((Ak (⟨y1b⟩:Ck) n.kids (Ek depth 1)).bind fun (y19a,y19b)=>some (y19a,y19b)) (some (false,y1b))) (some (false,y1b))) (some (false,y1b)))) (cond (Bi n.kind 18) ((AT n (⟨0,ByteArray.empty,ByteArray.empty,0,0,0,0,n.tab,[],0⟩:Nd)).bind fun y20=>cond y20 ((C4 n.tab).bind fun y21=>cond y21 (cond (Bi ((n.kids.length:Nat):Int) 1) ((n.kids[0]?).bind fun x22=>(Ag (⟨y1b⟩:Ck) x22 (Ek depth 1)).bind fun (y23a,y23b)=>some (y23a,y23b)) (some (false,y1b))) (some (false,y1b))) (some (false,y1b))) (some (false,y1b)))))))))) (some (false,y1b))
theorem HQ (Ag:Ck→Nd→Int→Option (Bool×Int)) (As:Ck→Nd→Int→Option (Bool×Int)) (At:Ck→Nd→Int→Option (Bool×Int)) (Ak:Ck→(List Nd)→Int→Option (Bool×Int)) (Aw:∀ {c:Ck} {n:Nd} {depth:Int} {yR:Bool} {qc_nodesR:Int},Ag c n depth=some (yR,qc_nodesR)→Sound P G (.call 49 [.ptr 0 0,.agg (BA n),.sc (.int .i64 depth)] ⟨[(0,.cells (D7 c))],1,[],0⟩ (.ret (.sc (.bool yR))) ⟨[(0,.cells [.sc (.int .i64 qc_nodesR)])],1,[],0⟩)) (CH:∀ {c:Ck} {n:Nd} {depth:Int} {yR:Bool} {qc_nodesR:Int},As c n depth=some (yR,qc_nodesR)→Sound P G (.call 80 [.ptr 0 0,.agg (BA n),.sc (.int .i64 depth)] ⟨[(0,.cells (D7 c))],1,[],0⟩ (.ret (.sc (.bool yR))) ⟨[(0,.cells [.sc (.int .i64 qc_nodesR)])],1,[],0⟩)) (CG:∀ {c:Ck} {n:Nd} {depth:Int} {yR:Bool} {qc_nodesR:Int},At c n depth=some (yR,qc_nodesR)→Sound P G (.call 115 [.ptr 0 0,.agg (BA n),.sc (.int .i64 depth)] ⟨[(0,.cells (D7 c))],1,[],0⟩ (.ret (.sc (.bool yR))) ⟨[(0,.cells [.sc (.int .i64 qc_nodesR)])],1,[],0⟩)) (BE:∀ {c:Ck} {list:(List Nd)} {depth:Int} {yR:Bool} {qc_nodesR:Int},Ak c list depth=some (yR,qc_nodesR)→Sound P G (.call 52 [.ptr 0 0,.sl .lost list.length (CC list),.sc (.int .i64 depth),.fn (.func 49) [.ptr 0 0] []] ⟨[(0,.cells (D7 c))],1,[],0⟩ (.ret (.sc (.bool yR))) ⟨[(0,.cells [.sc (.int .i64 qc_nodesR)])],1,[],0⟩)) {c:Ck} {n:Nd} {depth:Int} {yR:Bool} {qc_nodesR:Int} (h:BV Ag As At Ak c n depth=some (yR,qc_nodesR)):Sound P G (.call 49 [.ptr 0 0,.agg (BA n),.sc (.int .i64 depth)] ⟨[(0,.cells (D7 c))],1,[],0⟩ (.ret (.sc (.bool yR))) ⟨[(0,.cells [.sc (.int .i64 qc_nodesR)])],1,[],0⟩):=by
 unfold BV at h
 refine E4 Hd.mixed (AF Tryz.func49 xQ ?_)
 revert h
 refine Ai ?_
 rintro ⟨y1a,y1b⟩ hy1
 dsimp only
 let o1:List (PC P G):=[AO (Cu (BW hy1) 0)]
 refine Ae (fun hv=>?_) fun hv=>?_
 subst hv
 refine Ae (fun hb1=>?_) fun hb1=>?_
 refine Ai fun y2 hy2=>?_
 let o2:List (PC P G):=o1++[pb hb1,Aj (CK hy2)]
 refine Ae (fun hv=>?_) fun hv=>?_
 subst hv
 refine Ae (fun hb2=>?_) fun hb2=>?_
 intro h
 have hE:=Option.some.inj h
 obtain ⟨hE0,hF0⟩:=Prod.mk.inj hE
 subst hE0 hF0
 exact Al Hd.Ad _ _ [] [none] (Ac 300 (o2++[pb hb2])) (by kernel_rfl) .body
 refine Ae (fun hb3=>?_) fun hb3=>?_
 intro h
 have hE:=Option.some.inj h
 obtain ⟨hE0,hF0⟩:=Prod.mk.inj hE
 subst hE0 hF0
 exact Al Hd.Ad _ _ [] [none] (Ac 300 (o2++[pb hb2,pb hb3])) (by kernel_rfl) .body
 refine Ae (fun hb4=>?_) fun hb4=>?_
 refine Ae (fun hb5=>?_) fun hb5=>?_
 intro h
 have hE:=Option.some.inj h
 obtain ⟨hE0,hF0⟩:=Prod.mk.inj hE
 subst hE0 hF0
 exact Al Hd.Ad _ _ [] [none] (Ac 300 (o2++[pb hb2,pb hb3,pb hb4,pb hb5])) (by kernel_rfl) .body
 refine Ae (fun hb6=>?_) fun hb6=>?_
 refine Ai fun y3 hy3=>?_
 intro h
 have hE:=Option.some.inj h
 obtain ⟨hE0,hF0⟩:=Prod.mk.inj hE
 subst hE0 hF0
 exact Al Hd.Ad _ _ [] [none] (Ac 300 (o2++[pb hb2,pb hb3,pb hb4,pb hb5,pb hb6,DI (.r (.g (.r (.r (.r (.r (.r (.r (.r (.r (.z (.z (.r .nil))))))))))) .nil)) (AQ hy3)])) (by kernel_rfl) .body
 intro h
 have hE:=Option.some.inj h
 obtain ⟨hE0,hF0⟩:=Prod.mk.inj hE
 subst hE0 hF0
 exact Al Hd.Ad _ _ [] [none] (Ac 300 (o2++[pb hb2,pb hb3,pb hb4,pb hb5,pb hb6])) (by kernel_rfl) .body
 refine Ae (fun hb7=>?_) fun hb7=>?_
 refine Ai fun y4 hy4=>?_
 intro h
 have hE:=Option.some.inj h
 obtain ⟨hE0,hF0⟩:=Prod.mk.inj hE
 subst hE0 hF0
 exact Al Hd.Ad _ _ [] [none] (Ac 300 (o2++[pb hb2,pb hb3,pb hb4,pb hb7,DI (.r (.g (.r (.r (.r (.r (.r (.r (.r (.r (.z (.z (.r .nil))))))))))) .nil)) (AQ hy4)])) (by kernel_rfl) .body
 intro h
 have hE:=Option.some.inj h
 obtain ⟨hE0,hF0⟩:=Prod.mk.inj hE
 subst hE0 hF0
 exact Al Hd.Ad _ _ [] [none] (Ac 300 (o2++[pb hb2,pb hb3,pb hb4,pb hb7])) (by kernel_rfl) .body
 subst hv
 intro h
 have hE:=Option.some.inj h
 obtain ⟨hE0,hF0⟩:=Prod.mk.inj hE
 subst hE0 hF0
 exact Al Hd.Ad _ _ [] [none] (Ac 300 o2) (by kernel_rfl) .body
 let o3:List (PC P G):=o1++[pb hb1]
 refine Ae (fun hb8=>?_) fun hb8=>?_
 refine Ai fun y5 hy5=>?_
 let o4:List (PC P G):=o3++[pb hb8,Aj (Df hy5)]
 refine Ae (fun hv=>?_) fun hv=>?_
 subst hv
 refine Ae (fun hb9=>?_) fun hb9=>?_
 refine Ai fun y6 hy6=>?_
 intro h
 have hE:=Option.some.inj h
 obtain ⟨hE0,hF0⟩:=Prod.mk.inj hE
 subst hE0 hF0
 exact Al Hd.Ad _ _ [] [none] (Ac 300 (o4++[pb hb9,DI (.r (.g (.r (.r (.r (.r (.r (.r (.r (.r (.z (.z (.r .nil))))))))))) .nil)) (AQ hy6)])) (by kernel_rfl) .body
 intro h
 have hE:=Option.some.inj h
 obtain ⟨hE0,hF0⟩:=Prod.mk.inj hE
 subst hE0 hF0
 exact Al Hd.Ad _ _ [] [none] (Ac 300 (o4++[pb hb9])) (by kernel_rfl) .body
 subst hv
 intro h
 have hE:=Option.some.inj h
 obtain ⟨hE0,hF0⟩:=Prod.mk.inj hE
 subst hE0 hF0
 exact Al Hd.Ad _ _ [] [none] (Ac 300 o4) (by kernel_rfl) .body
 let o5:List (PC P G):=o3++[pb hb8]
 refine Ae (fun hb10=>?_) fun hb10=>?_
 refine Ai fun y7 hy7=>?_
 let o6:List (PC P G):=o5++[pb hb10,Aj (C5 hy7)]
 refine Ae (fun hv=>?_) fun hv=>?_
 subst hv
 refine Ae (fun hb11=>?_) fun hb11=>?_
 refine Ai fun y8 hy8=>?_
 intro h
 have hE:=Option.some.inj h
 obtain ⟨hE0,hF0⟩:=Prod.mk.inj hE
 subst hE0 hF0
 exact Al Hd.Ad _ _ [] [none] (Ac 300 (o6++[pb hb11,DI (.r (.g (.r (.r (.r (.r (.r (.r (.r (.r (.z (.z (.r .nil))))))))))) .nil)) (AQ hy8)])) (by kernel_rfl) .body
 intro h
 have hE:=Option.some.inj h
 obtain ⟨hE0,hF0⟩:=Prod.mk.inj hE
 subst hE0 hF0
 exact Al Hd.Ad _ _ [] [none] (Ac 300 (o6++[pb hb11])) (by kernel_rfl) .body
 subst hv
 intro h
 have hE:=Option.some.inj h
 obtain ⟨hE0,hF0⟩:=Prod.mk.inj hE
 subst hE0 hF0
 exact Al Hd.Ad _ _ [] [none] (Ac 300 o6) (by kernel_rfl) .body
 let o7:List (PC P G):=o5++[pb hb10]
 refine Ae (fun hb12=>?_) fun hb12=>?_
 refine Ai fun y9 hy9=>?_
 let o8:List (PC P G):=o7++[pb hb12,Aj (IL hy9)]
 refine Ae (fun hv=>?_) fun hv=>?_
 subst hv
 refine Ae (fun hb13=>?_) fun hb13=>?_
 refine Ai fun y10 hy10=>?_
 intro h
 have hE:=Option.some.inj h
 obtain ⟨hE0,hF0⟩:=Prod.mk.inj hE
 subst hE0 hF0
 exact Al Hd.Ad _ _ [] [none] (Ac 300 (o8++[pb hb13,DI (.r (.g (.r (.r (.r (.r (.r (.r (.r (.r (.z (.z (.r .nil))))))))))) .nil)) (AQ hy10)])) (by kernel_rfl) .body
 intro h
 have hE:=Option.some.inj h
 obtain ⟨hE0,hF0⟩:=Prod.mk.inj hE
 subst hE0 hF0
 exact Al Hd.Ad _ _ [] [none] (Ac 300 (o8++[pb hb13])) (by kernel_rfl) .body
 subst hv
 intro h
 have hE:=Option.some.inj h
 obtain ⟨hE0,hF0⟩:=Prod.mk.inj hE
 subst hE0 hF0
 exact Al Hd.Ad _ _ [] [none] (Ac 300 o8) (by kernel_rfl) .body
 let o9:List (PC P G):=o7++[pb hb12]
 refine Ae (fun hb14=>?_) fun hb14=>?_
 refine Ae (fun hb15=>?_) fun hb15=>?_
 refine Ai fun y11 hy11=>?_
 let o10:List (PC P G):=o9++[pb hb14,pb hb15,DI (.r (.g (.r (.r (.r (.r (.r (.r (.r (.r (.z (.z (.r .nil))))))))))) .nil)) (AQ hy11)]
 refine Ae (fun hv=>?_) fun hv=>?_
 subst hv
 refine Ai fun x12 hx12=>?_
 refine Ai ?_
 rintro ⟨y13a,y13b⟩ hy13
 dsimp only
 intro h
 have hE:=Option.some.inj h
 obtain ⟨hE0,hF0⟩:=Prod.mk.inj hE
 subst hE0 hF0
 exact Al Hd.Ad _ _ [] [none] (Ac 300 (o10++[Dh (Cp .lost hx12),pk,AO (AB (Aw hy13) 0)])) (by kernel_rfl) .body
 subst hv
 intro h
 have hE:=Option.some.inj h
 obtain ⟨hE0,hF0⟩:=Prod.mk.inj hE
 subst hE0 hF0
 exact Al Hd.Ad _ _ [] [none] (Ac 300 o10) (by kernel_rfl) .body
 intro h
 have hE:=Option.some.inj h
 obtain ⟨hE0,hF0⟩:=Prod.mk.inj hE
 subst hE0 hF0
 exact Al Hd.Ad _ _ [] [none] (Ac 300 (o9++[pb hb14,pb hb15])) (by kernel_rfl) .body
 let o11:List (PC P G):=o9++[pb hb14]
 refine Ae (fun hb16=>?_) fun hb16=>?_
 refine Ai fun y14 hy14=>?_
 let o12:List (PC P G):=o11++[pb hb16,DI (.r (.g (.r (.r (.r (.r (.r (.r (.r (.r (.z (.z (.r .nil))))))))))) .nil)) (AQ hy14)]
 refine Ae (fun hv=>?_) fun hv=>?_
 subst hv
 refine Ai ?_
 rintro ⟨y15a,y15b⟩ hy15
 dsimp only
 intro h
 have hE:=Option.some.inj h
 obtain ⟨hE0,hF0⟩:=Prod.mk.inj hE
 subst hE0 hF0
 exact Al Hd.Ad _ _ [] [none] (Ac 300 (o12++[AO (H6 (CH hy15) 0)])) (by kernel_rfl) .body
 subst hv
 intro h
 have hE:=Option.some.inj h
 obtain ⟨hE0,hF0⟩:=Prod.mk.inj hE
 subst hE0 hF0
 exact Al Hd.Ad _ _ [] [none] (Ac 300 o12) (by kernel_rfl) .body
 let o13:List (PC P G):=o11++[pb hb16]
 refine Ae (fun hb17=>?_) fun hb17=>?_
 refine Ae (fun hb18=>?_) fun hb18=>?_
 refine Ai fun y16 hy16=>?_
 let o14:List (PC P G):=o13++[pb hb17,pb hb18,DI (.r (.g (.r (.r (.r (.r (.r (.r (.r (.r (.z (.z (.r .nil))))))))))) .nil)) (AQ hy16)]
 refine Ae (fun hv=>?_) fun hv=>?_
 subst hv
 refine Ae (fun hb19=>?_) fun hb19=>?_
 refine Ai ?_
 rintro ⟨y17a,y17b⟩ hy17
 dsimp only
 intro h
 have hE:=Option.some.inj h
 obtain ⟨hE0,hF0⟩:=Prod.mk.inj hE
 subst hE0 hF0
 exact Al Hd.Ad _ _ [] [none] (Ac 300 (o14++[pb hb19,pk,AO (EF (BE hy17) 0)])) (by kernel_rfl) .body
 intro h
 have hE:=Option.some.inj h
 obtain ⟨hE0,hF0⟩:=Prod.mk.inj hE
 subst hE0 hF0
 exact Al Hd.Ad _ _ [] [none] (Ac 300 (o14++[pb hb19])) (by kernel_rfl) .body
 subst hv
 intro h
 have hE:=Option.some.inj h
 obtain ⟨hE0,hF0⟩:=Prod.mk.inj hE
 subst hE0 hF0
 exact Al Hd.Ad _ _ [] [none] (Ac 300 o14) (by kernel_rfl) .body
 refine Ae (fun hb20=>?_) fun hb20=>?_
 refine Ai fun y18 hy18=>?_
 let o15:List (PC P G):=o13++[pb hb17,pb hb18,pb hb20,DI (.r (.g (.r (.r (.r (.r (.r (.r (.r (.r (.z (.z (.r .nil))))))))))) .nil)) (AQ hy18)]
 refine Ae (fun hv=>?_) fun hv=>?_
 subst hv
 refine Ae (fun hb21=>?_) fun hb21=>?_
 refine Ai ?_
 rintro ⟨y19a,y19b⟩ hy19
 dsimp only
 intro h
 have hE:=Option.some.inj h
 obtain ⟨hE0,hF0⟩:=Prod.mk.inj hE
 subst hE0 hF0
 exact Al Hd.Ad _ _ [] [none] (Ac 300 (o15++[pb hb21,pk,AO (EF (BE hy19) 0)])) (by kernel_rfl) .body
 intro h
 have hE:=Option.some.inj h
 obtain ⟨hE0,hF0⟩:=Prod.mk.inj hE
 subst hE0 hF0
 exact Al Hd.Ad _ _ [] [none] (Ac 300 (o15++[pb hb21])) (by kernel_rfl) .body
 subst hv
 intro h
 have hE:=Option.some.inj h
 obtain ⟨hE0,hF0⟩:=Prod.mk.inj hE
 subst hE0 hF0
 exact Al Hd.Ad _ _ [] [none] (Ac 300 o15) (by kernel_rfl) .body
 intro h
 have hE:=Option.some.inj h
 obtain ⟨hE0,hF0⟩:=Prod.mk.inj hE
 subst hE0 hF0
 exact Al Hd.Ad _ _ [] [none] (Ac 300 (o13++[pb hb17,pb hb18,pb hb20])) (by kernel_rfl) .body
 refine Ae (fun hb22=>?_) fun hb22=>?_
 refine Ai fun y20 hy20=>?_
 let o16:List (PC P G):=o13++[pb hb17,pb hb22,DI (.r (.g (.r (.r (.r (.r (.r (.r (.r (.r (.r (.z (.r .nil))))))))))) .nil)) (AQ hy20)]
 refine Ae (fun hv=>?_) fun hv=>?_
 subst hv
 refine Ai fun y21 hy21=>?_
 refine Ae (fun hv=>?_) fun hv=>?_
 subst hv
 refine Ae (fun hb23=>?_) fun hb23=>?_
 refine Ai fun x22 hx22=>?_
 refine Ai ?_
 rintro ⟨y23a,y23b⟩ hy23
 dsimp only
 intro h
 have hE:=Option.some.inj h
 obtain ⟨hE0,hF0⟩:=Prod.mk.inj hE
 subst hE0 hF0
 exact Al Hd.Ad _ _ [] [none] (Ac 300 (o16++[Aj (D4 hy21),pb hb23,Dh (Cp .lost hx22),pk,AO (AB (Aw hy23) 0)])) (by kernel_rfl) .body
 intro h
 have hE:=Option.some.inj h
 obtain ⟨hE0,hF0⟩:=Prod.mk.inj hE
 subst hE0 hF0
 exact Al Hd.Ad _ _ [] [none] (Ac 300 (o16++[Aj (D4 hy21),pb hb23])) (by kernel_rfl) .body
 subst hv
 intro h
 have hE:=Option.some.inj h
 obtain ⟨hE0,hF0⟩:=Prod.mk.inj hE
 subst hE0 hF0
 exact Al Hd.Ad _ _ [] [none] (Ac 300 (o16++[Aj (D4 hy21)])) (by kernel_rfl) .body
 subst hv
 intro h
 have hE:=Option.some.inj h
 obtain ⟨hE0,hF0⟩:=Prod.mk.inj hE
 subst hE0 hF0
 exact Al Hd.Ad _ _ [] [none] (Ac 300 o16) (by kernel_rfl) .body
 intro h
 have hE:=Option.some.inj h
 obtain ⟨hE0,hF0⟩:=Prod.mk.inj hE
 subst hE0 hF0
 exact Al Hd.Ad _ _ [] [none] (Ac 300 (o13++[pb hb17,pb hb22])) (by kernel_rfl) .body
 subst hv
 intro h
 have hE:=Option.some.inj h
 obtain ⟨hE0,hF0⟩:=Prod.mk.inj hE
 subst hE0 hF0
 exact Al Hd.Ad _ _ [] [none] (Ac 300 o1) (by kernel_rfl) .body
noncomputable def uS:Code:=AU Tryz.f80
theorem yG:Tryz.f80.body=some uS:=by kernel_rfl
noncomputable def Bj (Ag:Ck→Nd→Int→Option (Bool×Int)) (As:Ck→Nd→Int→Option (Bool×Int)) (At:Ck→Nd→Int→Option (Bool×Int)) (Ak:Ck→(List Nd)→Int→Option (Bool×Int)) (c:Ck) (n:Nd) (depth:Int):Option (Bool×Int):=cond (Bi ((n.kids.length:Nat):Int) 2) ((n.kids[0]?).bind fun x1=>(Ag c x1 (Ek depth 1)).bind fun (y2a,y2b)=>cond y2a (cond (BT n.name.data.toList H8.data.toList) ((n.kids[1]?).bind fun x3=>(At (⟨y2b⟩:Ck) x3 (Ek depth 1)).bind fun (y4a,y4b)=>some (y4a,y4b)) (cond (BT n.name.data.toList QT.data.toList) ((n.kids[1]?).bind fun x5=>(Ag (⟨y2b⟩:Ck) x5 (Ek depth 1)).bind fun (y6a,y6b)=>some (y6a,y6b)) (cond (BT n.name.data.toList Hc.data.toList) ((n.kids[1]?).bind fun x7=>(Ag (⟨y2b⟩:Ck) x7 (Ek depth 1)).bind fun (y8a,y8b)=>some (y8a,y8b)) (cond (BT n.name.data.toList GX.data.toList) ((n.kids[1]?).bind fun x9=>(Ag (⟨y2b⟩:Ck) x9 (Ek depth 1)).bind fun (y10a,y10b)=>some (y10a,y10b)) (cond (BT n.name.data.toList GO.data.toList) ((n.kids[1]?).bind fun x11=>(Ag (⟨y2b⟩:Ck) x11 (Ek depth 1)).bind fun (y12a,y12b)=>some (y12a,y12b)) (cond (BT n.name.data.toList Nb.data.toList) ((n.kids[1]?).bind fun x13=>(Ag (⟨y2b⟩:Ck) x13 (Ek depth 1)).bind fun (y14a,y14b)=>some (y14a,y14b)) (cond (BT n.name.data.toList GP.data.toList) ((n.kids[1]?).bind fun x15=>(Ag (⟨y2b⟩:Ck) x15 (Ek depth 1)).bind fun (y16a,y16b)=>some (y16a,y16b)) (cond (BT n.name.data.toList JY.data.toList) ((n.kids[1]?).bind fun x17=>(Ag (⟨y2b⟩:Ck) x17 (Ek depth 1)).bind fun (y18a,y18b)=>some (y18a,y18b)) (cond (BT n.name.data.toList M0.data.toList) ((n.kids[1]?).bind fun x19=>(Ag (⟨y2b⟩:Ck) x19 (Ek depth 1)).bind fun (y20a,y20b)=>some (y20a,y20b)) (cond (BT n.name.data.toList NO.data.toList) ((n.kids[1]?).bind fun x21=>(Ag (⟨y2b⟩:Ck) x21 (Ek depth 1)).bind fun (y22a,y22b)=>some (y22a,y22b)) (cond (BT n.name.data.toList RE.data.toList) ((n.kids[1]?).bind fun x23=>(Ag (⟨y2b⟩:Ck) x23 (Ek depth 1)).bind fun (y24a,y24b)=>some (y24a,y24b)) (some (false,y2b))))))))))))) (some (false,y2b))) (some (false,c.nodes))
theorem GL (Ag:Ck→Nd→Int→Option (Bool×Int)) (As:Ck→Nd→Int→Option (Bool×Int)) (At:Ck→Nd→Int→Option (Bool×Int)) (Ak:Ck→(List Nd)→Int→Option (Bool×Int)) (Aw:∀ {c:Ck} {n:Nd} {depth:Int} {yR:Bool} {qc_nodesR:Int},Ag c n depth=some (yR,qc_nodesR)→Sound P G (.call 49 [.ptr 0 0,.agg (BA n),.sc (.int .i64 depth)] ⟨[(0,.cells (D7 c))],1,[],0⟩ (.ret (.sc (.bool yR))) ⟨[(0,.cells [.sc (.int .i64 qc_nodesR)])],1,[],0⟩)) (CH:∀ {c:Ck} {n:Nd} {depth:Int} {yR:Bool} {qc_nodesR:Int},As c n depth=some (yR,qc_nodesR)→Sound P G (.call 80 [.ptr 0 0,.agg (BA n),.sc (.int .i64 depth)] ⟨[(0,.cells (D7 c))],1,[],0⟩ (.ret (.sc (.bool yR))) ⟨[(0,.cells [.sc (.int .i64 qc_nodesR)])],1,[],0⟩)) (CG:∀ {c:Ck} {n:Nd} {depth:Int} {yR:Bool} {qc_nodesR:Int},At c n depth=some (yR,qc_nodesR)→Sound P G (.call 115 [.ptr 0 0,.agg (BA n),.sc (.int .i64 depth)] ⟨[(0,.cells (D7 c))],1,[],0⟩ (.ret (.sc (.bool yR))) ⟨[(0,.cells [.sc (.int .i64 qc_nodesR)])],1,[],0⟩)) (BE:∀ {c:Ck} {list:(List Nd)} {depth:Int} {yR:Bool} {qc_nodesR:Int},Ak c list depth=some (yR,qc_nodesR)→Sound P G (.call 52 [.ptr 0 0,.sl .lost list.length (CC list),.sc (.int .i64 depth),.fn (.func 49) [.ptr 0 0] []] ⟨[(0,.cells (D7 c))],1,[],0⟩ (.ret (.sc (.bool yR))) ⟨[(0,.cells [.sc (.int .i64 qc_nodesR)])],1,[],0⟩)) {c:Ck} {n:Nd} {depth:Int} {yR:Bool} {qc_nodesR:Int} (h:Bj Ag As At Ak c n depth=some (yR,qc_nodesR)):Sound P G (.call 80 [.ptr 0 0,.agg (BA n),.sc (.int .i64 depth)] ⟨[(0,.cells (D7 c))],1,[],0⟩ (.ret (.sc (.bool yR))) ⟨[(0,.cells [.sc (.int .i64 qc_nodesR)])],1,[],0⟩):=by
 unfold Bj at h
 refine E4 Hd.mixed (AF Tryz.func80 yG ?_)
 revert h
 refine Ae (fun hb1=>?_) fun hb1=>?_
 refine Ai fun x1 hx1=>?_
 refine Ai ?_
 rintro ⟨y2a,y2b⟩ hy2
 dsimp only
 let o1:List (PC P G):=[pn hb1,Dh (Cp .lost hx1),pk,AO (AB (Aw hy2) 0)]
 refine Ae (fun hv=>?_) fun hv=>?_
 subst hv
 refine Ae (fun hb2=>?_) fun hb2=>?_
 refine Ai fun x3 hx3=>?_
 refine Ai ?_
 rintro ⟨y4a,y4b⟩ hy4
 dsimp only
 intro h
 have hE:=Option.some.inj h
 obtain ⟨hE0,hF0⟩:=Prod.mk.inj hE
 subst hE0 hF0
 exact Al Hd.Ad _ _ [] [none] (Ac 300 (o1++[pb hb2,Dh (Cp .lost hx3),pk,AO (E8 (CG hy4) 0)])) (by kernel_rfl) .body
 let o2:List (PC P G):=o1++[pb hb2]
 refine Ae (fun hb3=>?_) fun hb3=>?_
 refine Ai fun x5 hx5=>?_
 refine Ai ?_
 rintro ⟨y6a,y6b⟩ hy6
 dsimp only
 intro h
 have hE:=Option.some.inj h
 obtain ⟨hE0,hF0⟩:=Prod.mk.inj hE
 subst hE0 hF0
 exact Al Hd.Ad _ _ [] [none] (Ac 300 (o2++[pb hb3,Dh (Cp .lost hx5),pk,AO (AB (Aw hy6) 0)])) (by kernel_rfl) .body
 refine Ae (fun hb4=>?_) fun hb4=>?_
 refine Ai fun x7 hx7=>?_
 refine Ai ?_
 rintro ⟨y8a,y8b⟩ hy8
 dsimp only
 intro h
 have hE:=Option.some.inj h
 obtain ⟨hE0,hF0⟩:=Prod.mk.inj hE
 subst hE0 hF0
 exact Al Hd.Ad _ _ [] [none] (Ac 300 (o2++[pb hb3,pb hb4,Dh (Cp .lost hx7),pk,AO (AB (Aw hy8) 0)])) (by kernel_rfl) .body
 let o3:List (PC P G):=o2++[pb hb3,pb hb4]
 refine Ae (fun hb5=>?_) fun hb5=>?_
 refine Ai fun x9 hx9=>?_
 refine Ai ?_
 rintro ⟨y10a,y10b⟩ hy10
 dsimp only
 intro h
 have hE:=Option.some.inj h
 obtain ⟨hE0,hF0⟩:=Prod.mk.inj hE
 subst hE0 hF0
 exact Al Hd.Ad _ _ [] [none] (Ac 300 (o3++[pb hb5,Dh (Cp .lost hx9),pk,AO (AB (Aw hy10) 0)])) (by kernel_rfl) .body
 refine Ae (fun hb6=>?_) fun hb6=>?_
 refine Ai fun x11 hx11=>?_
 refine Ai ?_
 rintro ⟨y12a,y12b⟩ hy12
 dsimp only
 intro h
 have hE:=Option.some.inj h
 obtain ⟨hE0,hF0⟩:=Prod.mk.inj hE
 subst hE0 hF0
 exact Al Hd.Ad _ _ [] [none] (Ac 300 (o3++[pb hb5,pb hb6,Dh (Cp .lost hx11),pk,AO (AB (Aw hy12) 0)])) (by kernel_rfl) .body
 let o4:List (PC P G):=o3++[pb hb5,pb hb6]
 refine Ae (fun hb7=>?_) fun hb7=>?_
 refine Ai fun x13 hx13=>?_
 refine Ai ?_
 rintro ⟨y14a,y14b⟩ hy14
 dsimp only
 intro h
 have hE:=Option.some.inj h
 obtain ⟨hE0,hF0⟩:=Prod.mk.inj hE
 subst hE0 hF0
 exact Al Hd.Ad _ _ [] [none] (Ac 300 (o4++[pb hb7,Dh (Cp .lost hx13),pk,AO (AB (Aw hy14) 0)])) (by kernel_rfl) .body
 refine Ae (fun hb8=>?_) fun hb8=>?_
 refine Ai fun x15 hx15=>?_
 refine Ai ?_
 rintro ⟨y16a,y16b⟩ hy16
 dsimp only
 intro h
 have hE:=Option.some.inj h
 obtain ⟨hE0,hF0⟩:=Prod.mk.inj hE
 subst hE0 hF0
 exact Al Hd.Ad _ _ [] [none] (Ac 300 (o4++[pb hb7,pb hb8,Dh (Cp .lost hx15),pk,AO (AB (Aw hy16) 0)])) (by kernel_rfl) .body
 refine Ae (fun hb9=>?_) fun hb9=>?_
 refine Ai fun x17 hx17=>?_
 refine Ai ?_
 rintro ⟨y18a,y18b⟩ hy18
 dsimp only
 intro h
 have hE:=Option.some.inj h
 obtain ⟨hE0,hF0⟩:=Prod.mk.inj hE
 subst hE0 hF0
 exact Al Hd.Ad _ _ [] [none] (Ac 300 (o4++[pb hb7,pb hb8,pb hb9,Dh (Cp .lost hx17),pk,AO (AB (Aw hy18) 0)])) (by kernel_rfl) .body
 refine Ae (fun hb10=>?_) fun hb10=>?_
 refine Ai fun x19 hx19=>?_
 refine Ai ?_
 rintro ⟨y20a,y20b⟩ hy20
 dsimp only
 intro h
 have hE:=Option.some.inj h
 obtain ⟨hE0,hF0⟩:=Prod.mk.inj hE
 subst hE0 hF0
 exact Al Hd.Ad _ _ [] [none] (Ac 300 (o4++[pb hb7,pb hb8,pb hb9,pb hb10,Dh (Cp .lost hx19),pk,AO (AB (Aw hy20) 0)])) (by kernel_rfl) .body
 refine Ae (fun hb11=>?_) fun hb11=>?_
 refine Ai fun x21 hx21=>?_
 refine Ai ?_
 rintro ⟨y22a,y22b⟩ hy22
 dsimp only
 intro h
 have hE:=Option.some.inj h
 obtain ⟨hE0,hF0⟩:=Prod.mk.inj hE
 subst hE0 hF0
 exact Al Hd.Ad _ _ [] [none] (Ac 300 (o4++[pb hb7,pb hb8,pb hb9,pb hb10,pb hb11,Dh (Cp .lost hx21),pk,AO (AB (Aw hy22) 0)])) (by kernel_rfl) .body
 refine Ae (fun hb12=>?_) fun hb12=>?_
 refine Ai fun x23 hx23=>?_
 refine Ai ?_
 rintro ⟨y24a,y24b⟩ hy24
 dsimp only
 intro h
 have hE:=Option.some.inj h
 obtain ⟨hE0,hF0⟩:=Prod.mk.inj hE
 subst hE0 hF0
 exact Al Hd.Ad _ _ [] [none] (Ac 300 (o4++[pb hb7,pb hb8,pb hb9,pb hb10,pb hb11,pb hb12,Dh (Cp .lost hx23),pk,AO (AB (Aw hy24) 0)])) (by kernel_rfl) .body
 intro h
 have hE:=Option.some.inj h
 obtain ⟨hE0,hF0⟩:=Prod.mk.inj hE
 subst hE0 hF0
 exact Al Hd.Ad _ _ [] [none] (Ac 300 (o4++[pb hb7,pb hb8,pb hb9,pb hb10,pb hb11,pb hb12])) (by kernel_rfl) .body
 subst hv
 intro h
 have hE:=Option.some.inj h
 obtain ⟨hE0,hF0⟩:=Prod.mk.inj hE
 subst hE0 hF0
 exact Al Hd.Ad _ _ [] [none] (Ac 300 o1) (by kernel_rfl) .body
 intro h
 have hE:=Option.some.inj h
 obtain ⟨hE0,hF0⟩:=Prod.mk.inj hE
 subst hE0 hF0
 exact Al Hd.Ad _ _ [] [bp (IS.pl c)] (Ac 300 [pn hb1]) (by kernel_rfl) .body
noncomputable def rF:Code:=AU Tryz.f115
theorem r9:Tryz.f115.body=some rF:=by kernel_rfl
noncomputable def Bk (Ag:Ck→Nd→Int→Option (Bool×Int)) (As:Ck→Nd→Int→Option (Bool×Int)) (At:Ck→Nd→Int→Option (Bool×Int)) (Ak:Ck→(List Nd)→Int→Option (Bool×Int)) (c:Ck) (n:Nd) (depth:Int):Option (Bool×Int):=(Ag c n depth).bind fun (y1a,y1b)=>cond y1a (cond (Bi n.kind 11) (cond (BT n.unit.data.toList Bw.data.toList) ((BD n.n).bind fun y2=>some (y2,y1b)) (some (false,y1b))) (some (false,y1b))) (some (false,y1b))
theorem GH (Ag:Ck→Nd→Int→Option (Bool×Int)) (As:Ck→Nd→Int→Option (Bool×Int)) (At:Ck→Nd→Int→Option (Bool×Int)) (Ak:Ck→(List Nd)→Int→Option (Bool×Int)) (Aw:∀ {c:Ck} {n:Nd} {depth:Int} {yR:Bool} {qc_nodesR:Int},Ag c n depth=some (yR,qc_nodesR)→Sound P G (.call 49 [.ptr 0 0,.agg (BA n),.sc (.int .i64 depth)] ⟨[(0,.cells (D7 c))],1,[],0⟩ (.ret (.sc (.bool yR))) ⟨[(0,.cells [.sc (.int .i64 qc_nodesR)])],1,[],0⟩)) (CH:∀ {c:Ck} {n:Nd} {depth:Int} {yR:Bool} {qc_nodesR:Int},As c n depth=some (yR,qc_nodesR)→Sound P G (.call 80 [.ptr 0 0,.agg (BA n),.sc (.int .i64 depth)] ⟨[(0,.cells (D7 c))],1,[],0⟩ (.ret (.sc (.bool yR))) ⟨[(0,.cells [.sc (.int .i64 qc_nodesR)])],1,[],0⟩)) (CG:∀ {c:Ck} {n:Nd} {depth:Int} {yR:Bool} {qc_nodesR:Int},At c n depth=some (yR,qc_nodesR)→Sound P G (.call 115 [.ptr 0 0,.agg (BA n),.sc (.int .i64 depth)] ⟨[(0,.cells (D7 c))],1,[],0⟩ (.ret (.sc (.bool yR))) ⟨[(0,.cells [.sc (.int .i64 qc_nodesR)])],1,[],0⟩)) (BE:∀ {c:Ck} {list:(List Nd)} {depth:Int} {yR:Bool} {qc_nodesR:Int},Ak c list depth=some (yR,qc_nodesR)→Sound P G (.call 52 [.ptr 0 0,.sl .lost list.length (CC list),.sc (.int .i64 depth),.fn (.func 49) [.ptr 0 0] []] ⟨[(0,.cells (D7 c))],1,[],0⟩ (.ret (.sc (.bool yR))) ⟨[(0,.cells [.sc (.int .i64 qc_nodesR)])],1,[],0⟩)) {c:Ck} {n:Nd} {depth:Int} {yR:Bool} {qc_nodesR:Int} (h:Bk Ag As At Ak c n depth=some (yR,qc_nodesR)):Sound P G (.call 115 [.ptr 0 0,.agg (BA n),.sc (.int .i64 depth)] ⟨[(0,.cells (D7 c))],1,[],0⟩ (.ret (.sc (.bool yR))) ⟨[(0,.cells [.sc (.int .i64 qc_nodesR)])],1,[],0⟩):=by
 unfold Bk at h
 refine E4 Hd.mixed (AF Tryz.func115 r9 ?_)
 revert h
 refine Ai ?_
 rintro ⟨y1a,y1b⟩ hy1
 dsimp only
 let o1:List (PC P G):=[AO (AB (Aw hy1) 0)]
 refine Ae (fun hv=>?_) fun hv=>?_
 subst hv
 refine Ae (fun hb1=>?_) fun hb1=>?_
 refine Ae (fun hb2=>?_) fun hb2=>?_
 refine Ai fun y2 hy2=>?_
 intro h
 have hE:=Option.some.inj h
 obtain ⟨hE0,hF0⟩:=Prod.mk.inj hE
 subst hE0 hF0
 exact Al Hd.Ad _ _ [] [none] (Ac 300 (o1++[pb hb1,pb hb2,Aj (C5 hy2)])) (by kernel_rfl) .body
 intro h
 have hE:=Option.some.inj h
 obtain ⟨hE0,hF0⟩:=Prod.mk.inj hE
 subst hE0 hF0
 exact Al Hd.Ad _ _ [] [none] (Ac 300 (o1++[pb hb1,pb hb2])) (by kernel_rfl) .body
 intro h
 have hE:=Option.some.inj h
 obtain ⟨hE0,hF0⟩:=Prod.mk.inj hE
 subst hE0 hF0
 exact Al Hd.Ad _ _ [] [none] (Ac 300 (o1++[pb hb1])) (by kernel_rfl) .body
 subst hv
 intro h
 have hE:=Option.some.inj h
 obtain ⟨hE0,hF0⟩:=Prod.mk.inj hE
 subst hE0 hF0
 exact Al Hd.Ad _ _ [] [none] (Ac 300 o1) (by kernel_rfl) .body
noncomputable def Zs:Code:=AU Tryz.f52
theorem o0:Tryz.f52.body=some Zs:=by kernel_rfl
noncomputable def BH (Ag:Ck→Nd→Int→Option (Bool×Int)) (As:Ck→Nd→Int→Option (Bool×Int)) (At:Ck→Nd→Int→Option (Bool×Int)) (Ak:Ck→(List Nd)→Int→Option (Bool×Int)) (depth:Int) (i0:Nat) (e0:Nd) (w0_0:Int):Option (Lp Int Int (Bool×Int)):=(Ag (⟨w0_0⟩:Ck) e0 depth).bind fun (y1a,y1b)=>cond y1a (some (.nx y1b)) (some (.rt (false,y1b)))
noncomputable def Bp (Ag:Ck→Nd→Int→Option (Bool×Int)) (As:Ck→Nd→Int→Option (Bool×Int)) (At:Ck→Nd→Int→Option (Bool×Int)) (Ak:Ck→(List Nd)→Int→Option (Bool×Int)) (c:Ck) (list:(List Nd)) (depth:Int):Option (Bool×Int):=(JQ list.length (Bb (fun i y x=>BH Ag As At Ak depth i y x) (fun x=>x) (list.drop 0) 0 c.nodes)).bind (Kx (fun (w0_0_2:Int)=>some (true,w0_0_2)) (fun v=>some v))
theorem Gk (Ag:Ck→Nd→Int→Option (Bool×Int)) (As:Ck→Nd→Int→Option (Bool×Int)) (At:Ck→Nd→Int→Option (Bool×Int)) (Ak:Ck→(List Nd)→Int→Option (Bool×Int)) (Aw:∀ {c:Ck} {n:Nd} {depth:Int} {yR:Bool} {qc_nodesR:Int},Ag c n depth=some (yR,qc_nodesR)→Sound P G (.call 49 [.ptr 0 0,.agg (BA n),.sc (.int .i64 depth)] ⟨[(0,.cells (D7 c))],1,[],0⟩ (.ret (.sc (.bool yR))) ⟨[(0,.cells [.sc (.int .i64 qc_nodesR)])],1,[],0⟩)) (CH:∀ {c:Ck} {n:Nd} {depth:Int} {yR:Bool} {qc_nodesR:Int},As c n depth=some (yR,qc_nodesR)→Sound P G (.call 80 [.ptr 0 0,.agg (BA n),.sc (.int .i64 depth)] ⟨[(0,.cells (D7 c))],1,[],0⟩ (.ret (.sc (.bool yR))) ⟨[(0,.cells [.sc (.int .i64 qc_nodesR)])],1,[],0⟩)) (CG:∀ {c:Ck} {n:Nd} {depth:Int} {yR:Bool} {qc_nodesR:Int},At c n depth=some (yR,qc_nodesR)→Sound P G (.call 115 [.ptr 0 0,.agg (BA n),.sc (.int .i64 depth)] ⟨[(0,.cells (D7 c))],1,[],0⟩ (.ret (.sc (.bool yR))) ⟨[(0,.cells [.sc (.int .i64 qc_nodesR)])],1,[],0⟩)) (BE:∀ {c:Ck} {list:(List Nd)} {depth:Int} {yR:Bool} {qc_nodesR:Int},Ak c list depth=some (yR,qc_nodesR)→Sound P G (.call 52 [.ptr 0 0,.sl .lost list.length (CC list),.sc (.int .i64 depth),.fn (.func 49) [.ptr 0 0] []] ⟨[(0,.cells (D7 c))],1,[],0⟩ (.ret (.sc (.bool yR))) ⟨[(0,.cells [.sc (.int .i64 qc_nodesR)])],1,[],0⟩)) {c:Ck} {list:(List Nd)} {depth:Int} {yR:Bool} {qc_nodesR:Int} (h:Bp Ag As At Ak c list depth=some (yR,qc_nodesR)):Sound P G (.call 52 [.ptr 0 0,.sl .lost list.length (CC list),.sc (.int .i64 depth),.fn (.func 49) [.ptr 0 0] []] ⟨[(0,.cells (D7 c))],1,[],0⟩ (.ret (.sc (.bool yR))) ⟨[(0,.cells [.sc (.int .i64 qc_nodesR)])],1,[],0⟩):=by
 unfold Bp at h
 refine E4 Hd.mixed (AF Tryz.func52 o0 ?_)
 revert h
 refine H7 (fun Q v=>IX P G Tryz.f52 1 ⟨[(0,.cells (D7 c))],1,[],0⟩ Q (.sc (.bool v.1)) ⟨[(0,.cells [.sc (.int .i64 v.2)])],1,[],0⟩) (fun i0 (w0_0:Int) (j0:List Value)=>fr 23 [(2,.sc (.int .i64 depth)),(3,.fn (.func 49) [.ptr 0 0] []),(11,.sl .lost list.length (CC list)),(12,.sc (.int .i64 ((list.length:Nat):Int))),(13,.sc (.int .i64 ((i0:Nat):Int)))] [8,14,20,21] j0) (fun (w0_0:Int)=>⟨[(0,.cells [.sc (.int .i64 w0_0)])],1,[],0⟩) (fun (w0_0:Int) (jx:List Value)=>fr 23 [] [8,14,20,21] jx) (fun (w0_0:Int)=>⟨[(0,.cells [.sc (.int .i64 w0_0)])],1,[],0⟩) [.bool false] (HH [] 0 (sb Zs 52) [.code (sb Zs 7)] (Ac 300 []) (by kernel_rfl)) ?_ ?_ ?_ (fun v h=>by cases h;exact .outer .body)
 rintro i0 w0_0 j0 hge hq
 exact ED (Ac 300 [pb (On hge)]) (by kernel_rfl) (hq (js 4 j0 [(1,.bool false)]))
 rintro i0 e0 w0_0 j0 r he0 hi0 mi0 k
 show BH Ag As At Ak depth i0 e0 w0_0=some r→_
 unfold BH
 refine Ai ?_
 rintro ⟨y1a,y1b⟩ hy1
 dsimp only
 let o1:List (PC P G):=[pb (JR hi0),Dh (Cp .lost he0),AO (AB (Aw hy1) 0)]
 refine Ae (fun hv=>?_) fun hv=>?_
 subst hv
 rintro ⟨⟩
 exact EG Hd.Ad [fq (AK.Hx list)] [none] (Ac 300 (o1++[pi mi0])) (by kernel_rfl) (k [(jv j0 0),.bool true,.bool true,.bool false])
 subst hv
 rintro ⟨⟩
 exact Al Hd.Ad _ _ [] [none] (Ac 300 o1) (by kernel_rfl) (.GF k)
 rintro w0_0_2 jx_2
 intro h
 have hE:=Option.some.inj h
 obtain ⟨hE0,hF0⟩:=Prod.mk.inj hE
 subst hE0 hF0
 exact Al Hd.Ad _ _ [] [none] (C2 300 []) (by kernel_rfl) .body
mutual
noncomputable def An:Nat→Ck→Nd→Int→Option (Bool×Int)
 | 0,_,_,_=>none
 | qn+1,c,n,depth=>BV (An qn) (Av qn) (Aq qn) (Am qn) c n depth
noncomputable def Av:Nat→Ck→Nd→Int→Option (Bool×Int)
 | 0,_,_,_=>none
 | qn+1,c,n,depth=>Bj (An qn) (Av qn) (Aq qn) (Am qn) c n depth
noncomputable def Aq:Nat→Ck→Nd→Int→Option (Bool×Int)
 | 0,_,_,_=>none
 | qn+1,c,n,depth=>Bk (An qn) (Av qn) (Aq qn) (Am qn) c n depth
noncomputable def Am:Nat→Ck→(List Nd)→Int→Option (Bool×Int)
 | 0,_,_,_=>none
 | qn+1,c,list,depth=>Bp (An qn) (Av qn) (Aq qn) (Am qn) c list depth
end
theorem E9:∀ qn:Nat,(∀ {c:Ck} {n:Nd} {depth:Int} {yR:Bool} {qc_nodesR:Int},An qn c n depth=some (yR,qc_nodesR)→Sound P G (.call 49 [.ptr 0 0,.agg (BA n),.sc (.int .i64 depth)] ⟨[(0,.cells (D7 c))],1,[],0⟩ (.ret (.sc (.bool yR))) ⟨[(0,.cells [.sc (.int .i64 qc_nodesR)])],1,[],0⟩))∧(∀ {c:Ck} {n:Nd} {depth:Int} {yR:Bool} {qc_nodesR:Int},Av qn c n depth=some (yR,qc_nodesR)→Sound P G (.call 80 [.ptr 0 0,.agg (BA n),.sc (.int .i64 depth)] ⟨[(0,.cells (D7 c))],1,[],0⟩ (.ret (.sc (.bool yR))) ⟨[(0,.cells [.sc (.int .i64 qc_nodesR)])],1,[],0⟩))∧(∀ {c:Ck} {n:Nd} {depth:Int} {yR:Bool} {qc_nodesR:Int},Aq qn c n depth=some (yR,qc_nodesR)→Sound P G (.call 115 [.ptr 0 0,.agg (BA n),.sc (.int .i64 depth)] ⟨[(0,.cells (D7 c))],1,[],0⟩ (.ret (.sc (.bool yR))) ⟨[(0,.cells [.sc (.int .i64 qc_nodesR)])],1,[],0⟩))∧(∀ {c:Ck} {list:(List Nd)} {depth:Int} {yR:Bool} {qc_nodesR:Int},Am qn c list depth=some (yR,qc_nodesR)→Sound P G (.call 52 [.ptr 0 0,.sl .lost list.length (CC list),.sc (.int .i64 depth),.fn (.func 49) [.ptr 0 0] []] ⟨[(0,.cells (D7 c))],1,[],0⟩ (.ret (.sc (.bool yR))) ⟨[(0,.cells [.sc (.int .i64 qc_nodesR)])],1,[],0⟩)):=by
 intro qn
 induction qn with
 | zero=>exact ⟨(fun h=>by simp only [An] at h;cases h),(fun h=>by simp only [Av] at h;cases h),(fun h=>by simp only [Aq] at h;cases h),(fun h=>by simp only [Am] at h;cases h)⟩
 | succ qn ih=>exact ⟨(fun h=>HQ (An qn) (Av qn) (Aq qn) (Am qn) ih.1 ih.2.1 ih.2.2.1 ih.2.2.2 (by rw [An] at h;exact h)),(fun h=>GL (An qn) (Av qn) (Aq qn) (Am qn) ih.1 ih.2.1 ih.2.2.1 ih.2.2.2 (by rw [Av] at h;exact h)),(fun h=>GH (An qn) (Av qn) (Aq qn) (Am qn) ih.1 ih.2.1 ih.2.2.1 ih.2.2.2 (by rw [Aq] at h;exact h)),(fun h=>Gk (An qn) (Av qn) (Aq qn) (Am qn) ih.1 ih.2.1 ih.2.2.1 ih.2.2.2 (by rw [Am] at h;exact h))⟩
noncomputable def C6 (c:Ck) (n:Nd) (depth:Int):Option (Bool×Int):=Vf (fun qn=>An qn c n depth)
theorem Fq {c:Ck} {n:Nd} {depth:Int} {yR:Bool} {qc_nodesR:Int} (h:C6 c n depth=some (yR,qc_nodesR)):Sound P G (.call 49 [.ptr 0 0,.agg (BA n),.sc (.int .i64 depth)] ⟨[(0,.cells (D7 c))],1,[],0⟩ (.ret (.sc (.bool yR))) ⟨[(0,.cells [.sc (.int .i64 qc_nodesR)])],1,[],0⟩):=by
 obtain ⟨qn,h⟩:=Sg h
 exact (E9 qn).1 h
noncomputable def CN (c:Ck) (n:Nd) (depth:Int):Option (Bool×Int):=Vf (fun qn=>Aq qn c n depth)
theorem Hu {c:Ck} {n:Nd} {depth:Int} {yR:Bool} {qc_nodesR:Int} (h:CN c n depth=some (yR,qc_nodesR)):Sound P G (.call 115 [.ptr 0 0,.agg (BA n),.sc (.int .i64 depth)] ⟨[(0,.cells (D7 c))],1,[],0⟩ (.ret (.sc (.bool yR))) ⟨[(0,.cells [.sc (.int .i64 qc_nodesR)])],1,[],0⟩):=by
 obtain ⟨qn,h⟩:=Sg h
 exact (E9 qn).2.2.1 h
noncomputable def rC:Code:=AU Tryz.f116
theorem rV:Tryz.f116.body=some rC:=by kernel_rfl
noncomputable def C0  (day:Int):Option Bool:=cond (J0 0 day) (cond (J0 day 36524) (some true) (some false)) (some false)
theorem EH   {day:Int} {yR:Bool} (h:C0  day=some yR):Pure P G 116 [.sc (.int .i64 day)] (.sc (.bool yR)):=by
 unfold C0 at h
 refine BF Hd.mixed Hd.Ad (AF Tryz.func116 rV ?_) (Bd rfl rfl) rfl
 revert h
 refine Ae (fun hb1=>?_) fun hb1=>?_
 refine Ae (fun hb2=>?_) fun hb2=>?_
 rintro ⟨⟩
 exact rS (Ac 300 [pb hb1,pb hb2]) (by kernel_rfl)
 rintro ⟨⟩
 exact rS (Ac 300 [pb hb1,pb hb2]) (by kernel_rfl)
 rintro ⟨⟩
 exact rS (Ac 300 [pb hb1]) (by kernel_rfl)
noncomputable def wV:Code:=AU Tryz.f83
theorem v8:Tryz.f83.body=some wV:=by kernel_rfl
noncomputable def Cv  (c:Ck) (n:Nd) (depth:Int):Option (Bool×Int):=(A7 c n depth).bind fun (y1a,y1b)=>cond y1a (cond (Bi n.kind 5) (cond (ES n.n 0) (some (false,y1b)) (cond (ES 1000000 n.n) (some (false,y1b)) (cond (ES 0 ((n.kids.length:Nat):Int)) (some (false,y1b)) ((C0 n.fr).bind fun y2=>cond y2 (cond (J0 n.to n.fr) (some (false,y1b)) (cond (ES 36525 n.to) (some (false,y1b)) ((C0 n.known).bind fun y3=>cond y3 ((AT n (⟨0,ByteArray.empty,ByteArray.empty,n.n,n.fr,n.to,n.known,(⟨0,[]⟩:Fn),[],0⟩:Nd)).bind fun y4=>some (y4,y1b)) (some (false,y1b))))) (some (false,y1b)))))) (some (false,y1b))) (some (false,y1b))
theorem IZ {c:Ck} {n:Nd} {depth:Int} {yR:Bool} {qc_nodesR:Int} (hS:Sound P G (.call 83 [.ptr 0 0,.agg (BA n),.sc (.int .i64 depth)] ⟨[(0,.cells (D7 c))],1,[],0⟩ (.ret (.sc (.bool yR))) ⟨[(0,.cells [.sc (.int .i64 qc_nodesR)])],1,[],0⟩)) (u0:Nat) (hnb:[u0].Nodup:=by decide) (hnt:([]:List Nat).Nodup:=by decide):Cd.ok P G (.callU 83 [.ptr u0 0,.agg (BA n),.sc (.int .i64 depth)] (.ret (.sc (.bool yR))) [(u0,.cells (D7 c))] [] [(u0,.cells [.sc (.int .i64 qc_nodesR)])] []) :=
 E3 (M:=[.cells (D7 c)]) (M2:=[.cells [.sc (.int .i64 qc_nodesR)]]) (T:=[]) (T2:=[]) (k:=1) (j:=0) Hd.Ad _ _ _ _ hS rfl rfl rfl rfl rfl hnb hnt rfl rfl (.cons (.cells (.pl (IS.pl c))) .nil) (.cons (.cells (.pl (Bd rfl rfl))) .nil) (.cons (.ptr (by decide)) (.cons (.pl (AK.Gt n)) (.cons (.pl rfl) .nil))) (.pl rfl) (fun e he=>by simp only [List.mem_singleton] at he;subst he;exact (.arg (.here .ptr)))
theorem Ht   {c:Ck} {n:Nd} {depth:Int} {yR:Bool} {qc_nodesR:Int} (h:Cv  c n depth=some (yR,qc_nodesR)):Sound P G (.call 83 [.ptr 0 0,.agg (BA n),.sc (.int .i64 depth)] ⟨[(0,.cells (D7 c))],1,[],0⟩ (.ret (.sc (.bool yR))) ⟨[(0,.cells [.sc (.int .i64 qc_nodesR)])],1,[],0⟩):=by
 unfold Cv at h
 refine E4 Hd.mixed (AF Tryz.func83 v8 ?_)
 revert h
 refine Ai ?_
 rintro ⟨y1a,y1b⟩ hy1
 dsimp only
 let o1:List (PC P G):=[AO (Cu (BW hy1) 0)]
 refine Ae (fun hv=>?_) fun hv=>?_
 subst hv
 refine Ae (fun hb1=>?_) fun hb1=>?_
 refine Ae (fun hb2=>?_) fun hb2=>?_
 intro h
 have hE:=Option.some.inj h
 obtain ⟨hE0,hF0⟩:=Prod.mk.inj hE
 subst hE0 hF0
 exact Al Hd.Ad _ _ [] [none] (Ac 300 (o1++[pn hb1,pb hb2])) (by kernel_rfl) .body
 let o2:List (PC P G):=o1++[pn hb1,pb hb2]
 refine Ae (fun hb3=>?_) fun hb3=>?_
 intro h
 have hE:=Option.some.inj h
 obtain ⟨hE0,hF0⟩:=Prod.mk.inj hE
 subst hE0 hF0
 exact Al Hd.Ad _ _ [] [none] (Ac 300 (o2++[pb hb3])) (by kernel_rfl) .body
 refine Ae (fun hb4=>?_) fun hb4=>?_
 intro h
 have hE:=Option.some.inj h
 obtain ⟨hE0,hF0⟩:=Prod.mk.inj hE
 subst hE0 hF0
 exact Al Hd.Ad _ _ [] [none] (Ac 300 (o2++[pb hb3,pb hb4])) (by kernel_rfl) .body
 refine Ai fun y2 hy2=>?_
 let o3:List (PC P G):=o2++[pb hb3,pb hb4,Aj (EH hy2)]
 refine Ae (fun hv=>?_) fun hv=>?_
 subst hv
 refine Ae (fun hb5=>?_) fun hb5=>?_
 intro h
 have hE:=Option.some.inj h
 obtain ⟨hE0,hF0⟩:=Prod.mk.inj hE
 subst hE0 hF0
 exact Al Hd.Ad _ _ [] [none] (Ac 300 (o3++[pb hb5])) (by kernel_rfl) .body
 refine Ae (fun hb6=>?_) fun hb6=>?_
 intro h
 have hE:=Option.some.inj h
 obtain ⟨hE0,hF0⟩:=Prod.mk.inj hE
 subst hE0 hF0
 exact Al Hd.Ad _ _ [] [none] (Ac 300 (o3++[pb hb5,pb hb6])) (by kernel_rfl) .body
 refine Ai fun y3 hy3=>?_
 refine Ae (fun hv=>?_) fun hv=>?_
 subst hv
 refine Ai fun y4 hy4=>?_
 intro h
 have hE:=Option.some.inj h
 obtain ⟨hE0,hF0⟩:=Prod.mk.inj hE
 subst hE0 hF0
 exact Al Hd.Ad _ _ [] [none] (Ac 300 (o3++[pb hb5,pb hb6,Aj (EH hy3),DI (.r (.g (.r (.r (.r (.r (.r (.r (.r (.r (.z (.z (.r .nil))))))))))) .nil)) (AQ hy4)])) (by kernel_rfl) .body
 subst hv
 intro h
 have hE:=Option.some.inj h
 obtain ⟨hE0,hF0⟩:=Prod.mk.inj hE
 subst hE0 hF0
 exact Al Hd.Ad _ _ [] [none] (Ac 300 (o3++[pb hb5,pb hb6,Aj (EH hy3)])) (by kernel_rfl) .body
 subst hv
 intro h
 have hE:=Option.some.inj h
 obtain ⟨hE0,hF0⟩:=Prod.mk.inj hE
 subst hE0 hF0
 exact Al Hd.Ad _ _ [] [none] (Ac 300 o3) (by kernel_rfl) .body
 intro h
 have hE:=Option.some.inj h
 obtain ⟨hE0,hF0⟩:=Prod.mk.inj hE
 subst hE0 hF0
 exact Al Hd.Ad _ _ [] [none] (Ac 300 (o1++[pn hb1])) (by kernel_rfl) .body
 subst hv
 intro h
 have hE:=Option.some.inj h
 obtain ⟨hE0,hF0⟩:=Prod.mk.inj hE
 subst hE0 hF0
 exact Al Hd.Ad _ _ [] [none] (Ac 300 o1) (by kernel_rfl) .body
noncomputable def CP  (depth:Int) (i0:Nat) (e0:Nd) (w0_0:Int):Option (Lp Int Int (Bool×Int)):=(CN (⟨w0_0⟩:Ck) e0 depth).bind fun (y1a,y1b)=>cond y1a (some (.nx y1b)) (some (.rt (false,y1b)))
noncomputable def Ca  (c:Ck) (list:(List Nd)) (depth:Int):Option (Bool×Int):=(JQ list.length (Bb (fun i y x=>CP  depth i y x) (fun x=>x) (list.drop 0) 0 c.nodes)).bind (Kx (fun (w0_0_2:Int)=>some (true,w0_0_2)) (fun v=>some v))
theorem Gw {c:Ck} {list:(List Nd)} {depth:Int} {yR:Bool} {qc_nodesR:Int} (hS:Sound P G (.call 52 [.ptr 0 0,.sl .lost list.length (CC list),.sc (.int .i64 depth),.fn (.func 115) [.ptr 0 0] []] ⟨[(0,.cells (D7 c))],1,[],0⟩ (.ret (.sc (.bool yR))) ⟨[(0,.cells [.sc (.int .i64 qc_nodesR)])],1,[],0⟩)) (u0:Nat) (hnb:[u0].Nodup:=by decide) (hnt:([]:List Nat).Nodup:=by decide):Cd.ok P G (.callU 52 [.ptr u0 0,.sl .lost list.length (CC list),.sc (.int .i64 depth),.fn (.func 115) [.ptr u0 0] []] (.ret (.sc (.bool yR))) [(u0,.cells (D7 c))] [] [(u0,.cells [.sc (.int .i64 qc_nodesR)])] []) :=
 E3 (M:=[.cells (D7 c)]) (M2:=[.cells [.sc (.int .i64 qc_nodesR)]]) (T:=[]) (T2:=[]) (k:=1) (j:=0) Hd.Ad _ _ _ _ hS rfl rfl rfl rfl rfl hnb hnt rfl rfl (.cons (.cells (.pl (IS.pl c))) .nil) (.cons (.cells (.pl (Bd rfl rfl))) .nil) (.cons (.ptr (by decide)) (.cons (.pl (AK.Hx list)) (.cons (.pl rfl) (.cons (.fn (.cons (.ptr (by decide)) .nil) (.pl rfl)) .nil)))) (.pl rfl) (fun e he=>by simp only [List.mem_singleton] at he;subst he;exact (.arg (.here .ptr)))
theorem FG   {c:Ck} {list:(List Nd)} {depth:Int} {yR:Bool} {qc_nodesR:Int} (h:Ca  c list depth=some (yR,qc_nodesR)):Sound P G (.call 52 [.ptr 0 0,.sl .lost list.length (CC list),.sc (.int .i64 depth),.fn (.func 115) [.ptr 0 0] []] ⟨[(0,.cells (D7 c))],1,[],0⟩ (.ret (.sc (.bool yR))) ⟨[(0,.cells [.sc (.int .i64 qc_nodesR)])],1,[],0⟩):=by
 unfold Ca at h
 refine E4 Hd.mixed (AF Tryz.func52 o0 ?_)
 revert h
 refine H7 (fun Q v=>IX P G Tryz.f52 1 ⟨[(0,.cells (D7 c))],1,[],0⟩ Q (.sc (.bool v.1)) ⟨[(0,.cells [.sc (.int .i64 v.2)])],1,[],0⟩) (fun i0 (w0_0:Int) (j0:List Value)=>fr 23 [(2,.sc (.int .i64 depth)),(3,.fn (.func 115) [.ptr 0 0] []),(11,.sl .lost list.length (CC list)),(12,.sc (.int .i64 ((list.length:Nat):Int))),(13,.sc (.int .i64 ((i0:Nat):Int)))] [8,14,20,21] j0) (fun (w0_0:Int)=>⟨[(0,.cells [.sc (.int .i64 w0_0)])],1,[],0⟩) (fun (w0_0:Int) (jx:List Value)=>fr 23 [] [8,14,20,21] jx) (fun (w0_0:Int)=>⟨[(0,.cells [.sc (.int .i64 w0_0)])],1,[],0⟩) [.bool false] (HH [] 0 (sb Zs 52) [.code (sb Zs 7)] (Ac 300 []) (by kernel_rfl)) ?_ ?_ ?_ (fun v h=>by cases h;exact .outer .body)
 rintro i0 w0_0 j0 hge hq
 exact ED (Ac 300 [pb (On hge)]) (by kernel_rfl) (hq (js 4 j0 [(1,.bool false)]))
 rintro i0 e0 w0_0 j0 r he0 hi0 mi0 k
 show CP  depth i0 e0 w0_0=some r→_
 unfold CP
 refine Ai ?_
 rintro ⟨y1a,y1b⟩ hy1
 dsimp only
 let o1:List (PC P G):=[pb (JR hi0),Dh (Cp .lost he0),AO (E8 (Hu hy1) 0)]
 refine Ae (fun hv=>?_) fun hv=>?_
 subst hv
 rintro ⟨⟩
 exact EG Hd.Ad [fq (AK.Hx list)] [none] (Ac 300 (o1++[pi mi0])) (by kernel_rfl) (k [(jv j0 0),.bool true,.bool true,.bool false])
 subst hv
 rintro ⟨⟩
 exact Al Hd.Ad _ _ [] [none] (Ac 300 o1) (by kernel_rfl) (.GF k)
 rintro w0_0_2 jx_2
 intro h
 have hE:=Option.some.inj h
 obtain ⟨hE0,hF0⟩:=Prod.mk.inj hE
 subst hE0 hF0
 exact Al Hd.Ad _ _ [] [none] (C2 300 []) (by kernel_rfl) .body
noncomputable def wB:Code:=AU Tryz.f84
theorem xO:Tryz.f84.body=some wB:=by kernel_rfl
noncomputable def BC  (c:Ck) (n:Nd) (depth:Int):Option (Bool×Int):=(A7 c n depth).bind fun (y1a,y1b)=>cond y1a ((AT n (⟨0,ByteArray.empty,ByteArray.empty,0,0,0,0,(⟨0,[]⟩:Fn),[],0⟩:Nd)).bind fun y2=>cond y2 (cond (Bi n.kind 7) (cond (ES 0 ((n.kids.length:Nat):Int)) ((Ca (⟨y1b⟩:Ck) n.kids (Ek depth 1)).bind fun (y3a,y3b)=>some (y3a,y3b)) (some (false,y1b))) (cond (Bi ((n.kids.length:Nat):Int) 1) ((n.kids[0]?).bind fun x4=>(C6 (⟨y1b⟩:Ck) x4 (Ek depth 1)).bind fun (y5a,y5b)=>some (y5a,y5b)) (some (false,y1b)))) (some (false,y1b))) (some (false,y1b))
theorem Ic {c:Ck} {n:Nd} {depth:Int} {yR:Bool} {qc_nodesR:Int} (hS:Sound P G (.call 84 [.ptr 0 0,.agg (BA n),.sc (.int .i64 depth)] ⟨[(0,.cells (D7 c))],1,[],0⟩ (.ret (.sc (.bool yR))) ⟨[(0,.cells [.sc (.int .i64 qc_nodesR)])],1,[],0⟩)) (u0:Nat) (hnb:[u0].Nodup:=by decide) (hnt:([]:List Nat).Nodup:=by decide):Cd.ok P G (.callU 84 [.ptr u0 0,.agg (BA n),.sc (.int .i64 depth)] (.ret (.sc (.bool yR))) [(u0,.cells (D7 c))] [] [(u0,.cells [.sc (.int .i64 qc_nodesR)])] []) :=
 E3 (M:=[.cells (D7 c)]) (M2:=[.cells [.sc (.int .i64 qc_nodesR)]]) (T:=[]) (T2:=[]) (k:=1) (j:=0) Hd.Ad _ _ _ _ hS rfl rfl rfl rfl rfl hnb hnt rfl rfl (.cons (.cells (.pl (IS.pl c))) .nil) (.cons (.cells (.pl (Bd rfl rfl))) .nil) (.cons (.ptr (by decide)) (.cons (.pl (AK.Gt n)) (.cons (.pl rfl) .nil))) (.pl rfl) (fun e he=>by simp only [List.mem_singleton] at he;subst he;exact (.arg (.here .ptr)))
theorem GW   {c:Ck} {n:Nd} {depth:Int} {yR:Bool} {qc_nodesR:Int} (h:BC  c n depth=some (yR,qc_nodesR)):Sound P G (.call 84 [.ptr 0 0,.agg (BA n),.sc (.int .i64 depth)] ⟨[(0,.cells (D7 c))],1,[],0⟩ (.ret (.sc (.bool yR))) ⟨[(0,.cells [.sc (.int .i64 qc_nodesR)])],1,[],0⟩):=by
 unfold BC at h
 refine E4 Hd.mixed (AF Tryz.func84 xO ?_)
 revert h
 refine Ai ?_
 rintro ⟨y1a,y1b⟩ hy1
 dsimp only
 let o1:List (PC P G):=[AO (Cu (BW hy1) 0)]
 refine Ae (fun hv=>?_) fun hv=>?_
 subst hv
 refine Ai fun y2 hy2=>?_
 let o2:List (PC P G):=o1++[DI (.r (.g (.r (.r (.r (.r (.r (.r (.r (.r (.z (.z (.r .nil))))))))))) .nil)) (AQ hy2)]
 refine Ae (fun hv=>?_) fun hv=>?_
 subst hv
 refine Ae (fun hb1=>?_) fun hb1=>?_
 refine Ae (fun hb2=>?_) fun hb2=>?_
 refine Ai ?_
 rintro ⟨y3a,y3b⟩ hy3
 dsimp only
 intro h
 have hE:=Option.some.inj h
 obtain ⟨hE0,hF0⟩:=Prod.mk.inj hE
 subst hE0 hF0
 exact Al Hd.Ad _ _ [] [none] (Ac 300 (o2++[pb hb1,pb hb2,pk,AO (Gw (FG hy3) 0)])) (by kernel_rfl) .body
 intro h
 have hE:=Option.some.inj h
 obtain ⟨hE0,hF0⟩:=Prod.mk.inj hE
 subst hE0 hF0
 exact Al Hd.Ad _ _ [] [none] (Ac 300 (o2++[pb hb1,pb hb2])) (by kernel_rfl) .body
 refine Ae (fun hb3=>?_) fun hb3=>?_
 refine Ai fun x4 hx4=>?_
 refine Ai ?_
 rintro ⟨y5a,y5b⟩ hy5
 dsimp only
 intro h
 have hE:=Option.some.inj h
 obtain ⟨hE0,hF0⟩:=Prod.mk.inj hE
 subst hE0 hF0
 exact Al Hd.Ad _ _ [] [none] (Ac 300 (o2++[pb hb1,pb hb3,Dh (Cp .lost hx4),pk,AO (AB (Fq hy5) 0)])) (by kernel_rfl) .body
 intro h
 have hE:=Option.some.inj h
 obtain ⟨hE0,hF0⟩:=Prod.mk.inj hE
 subst hE0 hF0
 exact Al Hd.Ad _ _ [] [none] (Ac 300 (o2++[pb hb1,pb hb3])) (by kernel_rfl) .body
 subst hv
 intro h
 have hE:=Option.some.inj h
 obtain ⟨hE0,hF0⟩:=Prod.mk.inj hE
 subst hE0 hF0
 exact Al Hd.Ad _ _ [] [none] (Ac 300 o2) (by kernel_rfl) .body
 subst hv
 intro h
 have hE:=Option.some.inj h
 obtain ⟨hE0,hF0⟩:=Prod.mk.inj hE
 subst hE0 hF0
 exact Al Hd.Ad _ _ [] [none] (Ac 300 o1) (by kernel_rfl) .body
noncomputable def CQ  (depth:Int) (i0:Nat) (e0:Nd) (w0_0:Int):Option (Lp Int Int (Bool×Int)):=(BC (⟨w0_0⟩:Ck) e0 depth).bind fun (y1a,y1b)=>cond y1a (some (.nx y1b)) (some (.rt (false,y1b)))
noncomputable def B8  (c:Ck) (list:(List Nd)) (depth:Int):Option (Bool×Int):=(JQ list.length (Bb (fun i y x=>CQ  depth i y x) (fun x=>x) (list.drop 0) 0 c.nodes)).bind (Kx (fun (w0_0_2:Int)=>some (true,w0_0_2)) (fun v=>some v))
theorem Gz {c:Ck} {list:(List Nd)} {depth:Int} {yR:Bool} {qc_nodesR:Int} (hS:Sound P G (.call 52 [.ptr 0 0,.sl .lost list.length (CC list),.sc (.int .i64 depth),.fn (.func 84) [.ptr 0 0] []] ⟨[(0,.cells (D7 c))],1,[],0⟩ (.ret (.sc (.bool yR))) ⟨[(0,.cells [.sc (.int .i64 qc_nodesR)])],1,[],0⟩)) (u0:Nat) (hnb:[u0].Nodup:=by decide) (hnt:([]:List Nat).Nodup:=by decide):Cd.ok P G (.callU 52 [.ptr u0 0,.sl .lost list.length (CC list),.sc (.int .i64 depth),.fn (.func 84) [.ptr u0 0] []] (.ret (.sc (.bool yR))) [(u0,.cells (D7 c))] [] [(u0,.cells [.sc (.int .i64 qc_nodesR)])] []) :=
 E3 (M:=[.cells (D7 c)]) (M2:=[.cells [.sc (.int .i64 qc_nodesR)]]) (T:=[]) (T2:=[]) (k:=1) (j:=0) Hd.Ad _ _ _ _ hS rfl rfl rfl rfl rfl hnb hnt rfl rfl (.cons (.cells (.pl (IS.pl c))) .nil) (.cons (.cells (.pl (Bd rfl rfl))) .nil) (.cons (.ptr (by decide)) (.cons (.pl (AK.Hx list)) (.cons (.pl rfl) (.cons (.fn (.cons (.ptr (by decide)) .nil) (.pl rfl)) .nil)))) (.pl rfl) (fun e he=>by simp only [List.mem_singleton] at he;subst he;exact (.arg (.here .ptr)))
theorem FD   {c:Ck} {list:(List Nd)} {depth:Int} {yR:Bool} {qc_nodesR:Int} (h:B8  c list depth=some (yR,qc_nodesR)):Sound P G (.call 52 [.ptr 0 0,.sl .lost list.length (CC list),.sc (.int .i64 depth),.fn (.func 84) [.ptr 0 0] []] ⟨[(0,.cells (D7 c))],1,[],0⟩ (.ret (.sc (.bool yR))) ⟨[(0,.cells [.sc (.int .i64 qc_nodesR)])],1,[],0⟩):=by
 unfold B8 at h
 refine E4 Hd.mixed (AF Tryz.func52 o0 ?_)
 revert h
 refine H7 (fun Q v=>IX P G Tryz.f52 1 ⟨[(0,.cells (D7 c))],1,[],0⟩ Q (.sc (.bool v.1)) ⟨[(0,.cells [.sc (.int .i64 v.2)])],1,[],0⟩) (fun i0 (w0_0:Int) (j0:List Value)=>fr 23 [(2,.sc (.int .i64 depth)),(3,.fn (.func 84) [.ptr 0 0] []),(11,.sl .lost list.length (CC list)),(12,.sc (.int .i64 ((list.length:Nat):Int))),(13,.sc (.int .i64 ((i0:Nat):Int)))] [8,14,20,21] j0) (fun (w0_0:Int)=>⟨[(0,.cells [.sc (.int .i64 w0_0)])],1,[],0⟩) (fun (w0_0:Int) (jx:List Value)=>fr 23 [] [8,14,20,21] jx) (fun (w0_0:Int)=>⟨[(0,.cells [.sc (.int .i64 w0_0)])],1,[],0⟩) [.bool false] (HH [] 0 (sb Zs 52) [.code (sb Zs 7)] (Ac 300 []) (by kernel_rfl)) ?_ ?_ ?_ (fun v h=>by cases h;exact .outer .body)
 rintro i0 w0_0 j0 hge hq
 exact ED (Ac 300 [pb (On hge)]) (by kernel_rfl) (hq (js 4 j0 [(1,.bool false)]))
 rintro i0 e0 w0_0 j0 r he0 hi0 mi0 k
 show CQ  depth i0 e0 w0_0=some r→_
 unfold CQ
 refine Ai ?_
 rintro ⟨y1a,y1b⟩ hy1
 dsimp only
 let o1:List (PC P G):=[pb (JR hi0),Dh (Cp .lost he0),AO (Ic (GW hy1) 0)]
 refine Ae (fun hv=>?_) fun hv=>?_
 subst hv
 rintro ⟨⟩
 exact EG Hd.Ad [fq (AK.Hx list)] [none] (Ac 300 (o1++[pi mi0])) (by kernel_rfl) (k [(jv j0 0),.bool true,.bool true,.bool false])
 subst hv
 rintro ⟨⟩
 exact Al Hd.Ad _ _ [] [none] (Ac 300 o1) (by kernel_rfl) (.GF k)
 rintro w0_0_2 jx_2
 intro h
 have hE:=Option.some.inj h
 obtain ⟨hE0,hF0⟩:=Prod.mk.inj hE
 subst hE0 hF0
 exact Al Hd.Ad _ _ [] [none] (C2 300 []) (by kernel_rfl) .body
noncomputable def oT:Code:=AU Tryz.f53
theorem xU:Tryz.f53.body=some oT:=by kernel_rfl
noncomputable def BJ  (y1b:Int) (i0:Nat) (e0:Nd) (w2_6:Int) (w2_7:Int) (w2_8:Int):Option (Lp (Int×Int×Int) (Int×Int×Int) (Bool×Int)):=cond (ES e0.kind 6) (some (.rt (false,y1b))) (cond (ES 8 e0.kind) (some (.rt (false,y1b))) (cond (Bi e0.kind 6) (some (.nx ((Ek w2_6 1),w2_7,w2_8))) (cond (Bi e0.kind 7) (some (.nx (w2_6,(Ek w2_7 1),w2_8))) (cond (Bi e0.kind 8) (some (.nx (w2_6,w2_7,(Ek w2_8 1)))) (none)))))
noncomputable def BU  (c:Ck) (n:Nd) (depth:Int):Option (Bool×Int):=(A7 c n depth).bind fun (y1a,y1b)=>cond y1a (cond (Bi n.kind 2) ((BS n.name).bind fun y2=>cond y2 ((Cg n.unit).bind fun y3=>cond y3 (cond (Bi ((n.kids.length:Nat):Int) 0) ((AT n (⟨0,n.name,n.unit,0,0,0,0,(⟨0,[]⟩:Fn),[],0⟩:Nd)).bind fun y4=>some (y4,y1b)) (some (false,y1b))) (some (false,y1b))) (some (false,y1b))) (cond (Bi n.kind 3) ((BS n.name).bind fun y5=>cond y5 ((Cg n.unit).bind fun y6=>cond y6 (cond (J0 1 n.n) (cond (J0 n.n 4) (cond (Bi ((n.kids.length:Nat):Int) 0) ((AT n (⟨0,n.name,n.unit,n.n,0,0,0,(⟨0,[]⟩:Fn),[],0⟩:Nd)).bind fun y7=>some (y7,y1b)) (some (false,y1b))) (some (false,y1b))) (some (false,y1b))) (some (false,y1b))) (some (false,y1b))) (cond (Bi n.kind 4) ((BD n.n).bind fun y8=>cond y8 ((BS n.name).bind fun y9=>cond y9 ((AT n (⟨0,n.name,ByteArray.empty,n.n,0,0,0,(⟨0,[]⟩:Fn),[],0⟩:Nd)).bind fun y10=>cond y10 (cond (Bi ((n.kids.length:Nat):Int) 0) (some (false,y1b)) ((Jn n.kids 1 ((n.kids.length:Nat):Int)).bind fun l11=>(JQ l11.length (Bb (fun i y x=>BJ  y1b i y x.1 x.2.1 x.2.2) (fun x=>(x.1,x.2.1,x.2.2)) (l11.drop 0) 0 (0,0,0))).bind (Kx (fun ((w2_6_12,w2_7_12,w2_8_12):(Int×Int×Int))=>cond (Bi w2_8_12 1) (cond (ES 1 w2_7_12) (some (false,y1b)) ((n.kids[0]?).bind fun x13=>(Cv (⟨y1b⟩:Ck) x13 (Ek depth 1)).bind fun (y14a,y14b)=>cond y14a ((B8 (⟨y14b⟩:Ck) l11 (Ek depth 1)).bind fun (y15a,y15b)=>some (y15a,y15b)) (some (false,y14b)))) (some (false,y1b))) (fun v=>some v)))) (some (false,y1b))) (some (false,y1b))) (some (false,y1b))) (some (false,y1b))))) (some (false,y1b))
theorem I0 {c:Ck} {n:Nd} {depth:Int} {yR:Bool} {qc_nodesR:Int} (hS:Sound P G (.call 53 [.ptr 0 0,.agg (BA n),.sc (.int .i64 depth)] ⟨[(0,.cells (D7 c))],1,[],0⟩ (.ret (.sc (.bool yR))) ⟨[(0,.cells [.sc (.int .i64 qc_nodesR)])],1,[],0⟩)) (u0:Nat) (hnb:[u0].Nodup:=by decide) (hnt:([]:List Nat).Nodup:=by decide):Cd.ok P G (.callU 53 [.ptr u0 0,.agg (BA n),.sc (.int .i64 depth)] (.ret (.sc (.bool yR))) [(u0,.cells (D7 c))] [] [(u0,.cells [.sc (.int .i64 qc_nodesR)])] []) :=
 E3 (M:=[.cells (D7 c)]) (M2:=[.cells [.sc (.int .i64 qc_nodesR)]]) (T:=[]) (T2:=[]) (k:=1) (j:=0) Hd.Ad _ _ _ _ hS rfl rfl rfl rfl rfl hnb hnt rfl rfl (.cons (.cells (.pl (IS.pl c))) .nil) (.cons (.cells (.pl (Bd rfl rfl))) .nil) (.cons (.ptr (by decide)) (.cons (.pl (AK.Gt n)) (.cons (.pl rfl) .nil))) (.pl rfl) (fun e he=>by simp only [List.mem_singleton] at he;subst he;exact (.arg (.here .ptr)))
theorem Hw   {c:Ck} {n:Nd} {depth:Int} {yR:Bool} {qc_nodesR:Int} (h:BU  c n depth=some (yR,qc_nodesR)):Sound P G (.call 53 [.ptr 0 0,.agg (BA n),.sc (.int .i64 depth)] ⟨[(0,.cells (D7 c))],1,[],0⟩ (.ret (.sc (.bool yR))) ⟨[(0,.cells [.sc (.int .i64 qc_nodesR)])],1,[],0⟩):=by
 unfold BU at h
 refine E4 Hd.mixed (AF Tryz.func53 xU ?_)
 revert h
 refine Ai ?_
 rintro ⟨y1a,y1b⟩ hy1
 dsimp only
 let o1:List (PC P G):=[AO (Cu (BW hy1) 0)]
 refine Ae (fun hv=>?_) fun hv=>?_
 subst hv
 refine Ae (fun hb1=>?_) fun hb1=>?_
 refine Ai fun y2 hy2=>?_
 let o2:List (PC P G):=o1++[pb hb1,Aj (Df hy2)]
 refine Ae (fun hv=>?_) fun hv=>?_
 subst hv
 refine Ai fun y3 hy3=>?_
 refine Ae (fun hv=>?_) fun hv=>?_
 subst hv
 refine Ae (fun hb2=>?_) fun hb2=>?_
 refine Ai fun y4 hy4=>?_
 intro h
 have hE:=Option.some.inj h
 obtain ⟨hE0,hF0⟩:=Prod.mk.inj hE
 subst hE0 hF0
 exact Al Hd.Ad _ _ [] [none] (Ac 300 (o2++[Aj (CK hy3),pb hb2,DI (.r (.g (.r (.r (.r (.r (.r (.r (.r (.r (.z (.z (.r .nil))))))))))) .nil)) (AQ hy4)])) (by kernel_rfl) .body
 intro h
 have hE:=Option.some.inj h
 obtain ⟨hE0,hF0⟩:=Prod.mk.inj hE
 subst hE0 hF0
 exact Al Hd.Ad _ _ [] [none] (Ac 300 (o2++[Aj (CK hy3),pb hb2])) (by kernel_rfl) .body
 subst hv
 intro h
 have hE:=Option.some.inj h
 obtain ⟨hE0,hF0⟩:=Prod.mk.inj hE
 subst hE0 hF0
 exact Al Hd.Ad _ _ [] [none] (Ac 300 (o2++[Aj (CK hy3)])) (by kernel_rfl) .body
 subst hv
 intro h
 have hE:=Option.some.inj h
 obtain ⟨hE0,hF0⟩:=Prod.mk.inj hE
 subst hE0 hF0
 exact Al Hd.Ad _ _ [] [none] (Ac 300 o2) (by kernel_rfl) .body
 let o3:List (PC P G):=o1++[pb hb1]
 refine Ae (fun hb3=>?_) fun hb3=>?_
 refine Ai fun y5 hy5=>?_
 let o4:List (PC P G):=o3++[pb hb3,Aj (Df hy5)]
 refine Ae (fun hv=>?_) fun hv=>?_
 subst hv
 refine Ai fun y6 hy6=>?_
 let o5:List (PC P G):=o4++[Aj (CK hy6)]
 refine Ae (fun hv=>?_) fun hv=>?_
 subst hv
 refine Ae (fun hb4=>?_) fun hb4=>?_
 refine Ae (fun hb5=>?_) fun hb5=>?_
 refine Ae (fun hb6=>?_) fun hb6=>?_
 refine Ai fun y7 hy7=>?_
 intro h
 have hE:=Option.some.inj h
 obtain ⟨hE0,hF0⟩:=Prod.mk.inj hE
 subst hE0 hF0
 exact Al Hd.Ad _ _ [] [none] (Ac 300 (o5++[pb hb4,pb hb5,pb hb6,DI (.r (.g (.r (.r (.r (.r (.r (.r (.r (.r (.z (.z (.r .nil))))))))))) .nil)) (AQ hy7)])) (by kernel_rfl) .body
 intro h
 have hE:=Option.some.inj h
 obtain ⟨hE0,hF0⟩:=Prod.mk.inj hE
 subst hE0 hF0
 exact Al Hd.Ad _ _ [] [none] (Ac 300 (o5++[pb hb4,pb hb5,pb hb6])) (by kernel_rfl) .body
 intro h
 have hE:=Option.some.inj h
 obtain ⟨hE0,hF0⟩:=Prod.mk.inj hE
 subst hE0 hF0
 exact Al Hd.Ad _ _ [] [none] (Ac 300 (o5++[pb hb4,pb hb5])) (by kernel_rfl) .body
 intro h
 have hE:=Option.some.inj h
 obtain ⟨hE0,hF0⟩:=Prod.mk.inj hE
 subst hE0 hF0
 exact Al Hd.Ad _ _ [] [none] (Ac 300 (o5++[pb hb4])) (by kernel_rfl) .body
 subst hv
 intro h
 have hE:=Option.some.inj h
 obtain ⟨hE0,hF0⟩:=Prod.mk.inj hE
 subst hE0 hF0
 exact Al Hd.Ad _ _ [] [none] (Ac 300 o5) (by kernel_rfl) .body
 subst hv
 intro h
 have hE:=Option.some.inj h
 obtain ⟨hE0,hF0⟩:=Prod.mk.inj hE
 subst hE0 hF0
 exact Al Hd.Ad _ _ [] [none] (Ac 300 o4) (by kernel_rfl) .body
 refine Ae (fun hb7=>?_) fun hb7=>?_
 refine Ai fun y8 hy8=>?_
 let o6:List (PC P G):=o3++[pb hb3,pb hb7,Aj (C5 hy8)]
 refine Ae (fun hv=>?_) fun hv=>?_
 subst hv
 refine Ai fun y9 hy9=>?_
 let o7:List (PC P G):=o6++[Aj (Df hy9)]
 refine Ae (fun hv=>?_) fun hv=>?_
 subst hv
 refine Ai fun y10 hy10=>?_
 let o8:List (PC P G):=o7++[DI (.r (.g (.r (.r (.r (.r (.r (.r (.r (.r (.z (.z (.r .nil))))))))))) .nil)) (AQ hy10)]
 refine Ae (fun hv=>?_) fun hv=>?_
 subst hv
 refine Ae (fun hb8=>?_) fun hb8=>?_
 intro h
 have hE:=Option.some.inj h
 obtain ⟨hE0,hF0⟩:=Prod.mk.inj hE
 subst hE0 hF0
 exact Al Hd.Ad _ _ [] [none] (Ac 300 (o8++[pb hb8])) (by kernel_rfl) .body
 refine Ai fun l11 hl11=>?_
 refine H7 (fun Q v=>IX P G Tryz.f53 1 ⟨[(0,.cells (D7 c))],1,[],0⟩ Q (.sc (.bool v.1)) ⟨[(0,.cells [.sc (.int .i64 v.2)])],1,[],0⟩) (fun i0 ((w2_6,w2_7,w2_8):(Int×Int×Int)) (j0:List Value)=>fr 158 [(0,.ptr 0 0),(2,.sc (.int .i64 depth)),(4,.ptr 1 0),(7,.ptr 2 0),(110,.sl .lost l11.length (CC l11)),(111,.sc (.int .i64 ((l11.length:Nat):Int))),(112,.sc (.int .i64 ((i0:Nat):Int)))] [6,13,14,17,18,21,22,25,26,27,31,32,33,40,41,42,43,46,47,50,51,52,55,56,57,60,61,62,66,67,68,77,78,79,80,83,84,85,88,89,90,91,98,99,100,101,105,106,113,118,119,122,123,133,134,137,138,146,147,156,157] j0) (fun ((w2_6,w2_7,w2_8):(Int×Int×Int))=>⟨[(2,.cells [.sc (.int .i64 0),.sc (.int .i64 0),.sc (.int .i64 0),.sc (.int .i64 0),.sc (.int .i64 0),.sc (.int .i64 0),.sc (.int .i64 w2_6),.sc (.int .i64 w2_7),.sc (.int .i64 w2_8)]),(1,.cells (BA n)),(0,.cells [.sc (.int .i64 y1b)])],3,[],0⟩) (fun ((w2_6,w2_7,w2_8):(Int×Int×Int)) (jx:List Value)=>fr 158 [(0,.ptr 0 0),(2,.sc (.int .i64 depth)),(4,.ptr 1 0),(7,.ptr 2 0)] [6,13,14,17,18,21,22,25,26,27,31,32,33,40,41,42,43,46,47,50,51,52,55,56,57,60,61,62,66,67,68,77,78,79,80,83,84,85,88,89,90,91,98,99,100,101,105,106,113,118,119,122,123,133,134,137,138,146,147,156,157] jx) (fun ((w2_6,w2_7,w2_8):(Int×Int×Int))=>⟨[(2,.cells [.sc (.int .i64 0),.sc (.int .i64 0),.sc (.int .i64 0),.sc (.int .i64 0),.sc (.int .i64 0),.sc (.int .i64 0),.sc (.int .i64 w2_6),.sc (.int .i64 w2_7),.sc (.int .i64 w2_8)]),(1,.cells (BA n)),(0,.cells [.sc (.int .i64 y1b)])],3,[],0⟩) [.bool false,.bool true,.bool false,.bool false,.bool false,undef,undef,undef,undef,undef,undef,undef,undef,undef,undef,.bool false,.bool false,undef,undef,undef,undef,undef,undef,undef,undef,undef,undef,undef,undef,undef,undef,undef,undef,.bool true,.bool true,.bool true,.bool false,.bool false,.bool true,.bool false,.bool false,.bool false,.bool true,.bool false,.bool false,.bool false,.bool false,.bool false] (HH [] 1 (sb oT 241588) [.code (sb oT 30199),.endb 0,.code (sb oT 15)] (Ac 300 (o8++[pb hb8,S0 (JC hl11)])) (by kernel_rfl)) ?_ ?_ ?_ (fun v h=>by cases h;exact .outer .body)
 rintro i0 ⟨w2_6,w2_7,w2_8⟩ j0 hge hq
 exact ED (Ac 300 [pb (On hge)]) (by kernel_rfl) (hq (js 61 j0 [(48,.bool false)]))
 rintro i0 e0 ⟨w2_6,w2_7,w2_8⟩ j0 r he0 hi0 mi0 k
 show BJ  y1b i0 e0 w2_6 w2_7 w2_8=some r→_
 unfold BJ
 let o9:List (PC P G):=[pb (JR hi0),Dh (Cp .lost he0)]
 refine Ae (fun hb9=>?_) fun hb9=>?_
 rintro ⟨⟩
 exact Al Hd.Ad _ _ [] [none] (Ac 300 (o9++[pb hb9])) (by kernel_rfl) (.GF k)
 refine Ae (fun hb10=>?_) fun hb10=>?_
 rintro ⟨⟩
 exact Al Hd.Ad _ _ [] [none] (Ac 300 (o9++[pb hb9,pb hb10])) (by kernel_rfl) (.GF k)
 refine Ae (fun hb11=>?_) fun hb11=>?_
 rintro ⟨⟩
 exact EG Hd.Ad [fq (AK.Hx l11)] [none,bp (AK.pl n),none] (Ac 300 (o9++[pb hb9,pb hb10,Dh (t:=119) (a:=.ptr 2 0) (b:=.sc (.int .i64 e0.kind)) (v:=.ptr 2 6) (by rw [Me hb11];kernel_rfl),pk,Dh (t:=119) (a:=.ptr 2 0) (b:=.sc (.int .i64 e0.kind)) (v:=.ptr 2 6) (by rw [Me hb11];kernel_rfl),pi mi0])) (by kernel_rfl) (k (js 61 j0 [(48,.bool true),(49,.bool false),(50,.bool false),(51,.bool false),(52,.bool false)]))
 refine Ae (fun hb12=>?_) fun hb12=>?_
 rintro ⟨⟩
 exact EG Hd.Ad [fq (AK.Hx l11)] [none,bp (AK.pl n),none] (Ac 300 (o9++[pb hb9,pb hb10,Dh (t:=119) (a:=.ptr 2 0) (b:=.sc (.int .i64 e0.kind)) (v:=.ptr 2 7) (by rw [Me hb12];kernel_rfl),pk,Dh (t:=119) (a:=.ptr 2 0) (b:=.sc (.int .i64 e0.kind)) (v:=.ptr 2 7) (by rw [Me hb12];kernel_rfl),pi mi0])) (by kernel_rfl) (k (js 61 j0 [(48,.bool true),(49,.bool false),(50,.bool false),(51,.bool false),(52,.bool false)]))
 refine Ae (fun hb13=>?_) fun hb13=>?_
 rintro ⟨⟩
 exact EG Hd.Ad [fq (AK.Hx l11)] [none,bp (AK.pl n),none] (Ac 300 (o9++[pb hb9,pb hb10,Dh (t:=119) (a:=.ptr 2 0) (b:=.sc (.int .i64 e0.kind)) (v:=.ptr 2 8) (by rw [Me hb13];kernel_rfl),pk,Dh (t:=119) (a:=.ptr 2 0) (b:=.sc (.int .i64 e0.kind)) (v:=.ptr 2 8) (by rw [Me hb13];kernel_rfl),pi mi0])) (by kernel_rfl) (k (js 61 j0 [(48,.bool true),(49,.bool false),(50,.bool false),(51,.bool false),(52,.bool false)]))
 exact qT
 rintro ⟨w2_6_12,w2_7_12,w2_8_12⟩ jx_12
 dsimp only
 refine Ae (fun hb14=>?_) fun hb14=>?_
 refine Ae (fun hb15=>?_) fun hb15=>?_
 intro h
 have hE:=Option.some.inj h
 obtain ⟨hE0,hF0⟩:=Prod.mk.inj hE
 subst hE0 hF0
 exact Al Hd.Ad _ _ [] [none] (C2 300 [pk,pn hb14,pk,pb hb15]) (by kernel_rfl) .body
 refine Ai fun x13 hx13=>?_
 refine Ai ?_
 rintro ⟨y14a,y14b⟩ hy14
 dsimp only
 let o10:List (PC P G):=[pk,pn hb14,pk,pb hb15,Dh (Cp .lost hx13),pk,AO (IZ (Ht hy14) 0)]
 refine Ae (fun hv=>?_) fun hv=>?_
 subst hv
 refine Ai ?_
 rintro ⟨y15a,y15b⟩ hy15
 dsimp only
 intro h
 have hE:=Option.some.inj h
 obtain ⟨hE0,hF0⟩:=Prod.mk.inj hE
 subst hE0 hF0
 exact Al Hd.Ad _ _ [] [none] (C2 300 (o10++[S0 (JC hl11),pk,AO (Gz (FD hy15) 0)])) (by kernel_rfl) .body
 subst hv
 intro h
 have hE:=Option.some.inj h
 obtain ⟨hE0,hF0⟩:=Prod.mk.inj hE
 subst hE0 hF0
 exact Al Hd.Ad _ _ [] [none] (C2 300 o10) (by kernel_rfl) .body
 intro h
 have hE:=Option.some.inj h
 obtain ⟨hE0,hF0⟩:=Prod.mk.inj hE
 subst hE0 hF0
 exact Al Hd.Ad _ _ [] [none] (C2 300 [pk,pn hb14]) (by kernel_rfl) .body
 subst hv
 intro h
 have hE:=Option.some.inj h
 obtain ⟨hE0,hF0⟩:=Prod.mk.inj hE
 subst hE0 hF0
 exact Al Hd.Ad _ _ [] [none] (Ac 300 o8) (by kernel_rfl) .body
 subst hv
 intro h
 have hE:=Option.some.inj h
 obtain ⟨hE0,hF0⟩:=Prod.mk.inj hE
 subst hE0 hF0
 exact Al Hd.Ad _ _ [] [none] (Ac 300 o7) (by kernel_rfl) .body
 subst hv
 intro h
 have hE:=Option.some.inj h
 obtain ⟨hE0,hF0⟩:=Prod.mk.inj hE
 subst hE0 hF0
 exact Al Hd.Ad _ _ [] [none] (Ac 300 o6) (by kernel_rfl) .body
 intro h
 have hE:=Option.some.inj h
 obtain ⟨hE0,hF0⟩:=Prod.mk.inj hE
 subst hE0 hF0
 exact Al Hd.Ad _ _ [] [none] (Ac 300 (o3++[pb hb3,pb hb7])) (by kernel_rfl) .body
 subst hv
 intro h
 have hE:=Option.some.inj h
 obtain ⟨hE0,hF0⟩:=Prod.mk.inj hE
 subst hE0 hF0
 exact Al Hd.Ad _ _ [] [none] (Ac 300 o1) (by kernel_rfl) .body
end Mo
end Go.Proofs.YtkfplcngmiljaaaGreatDoor
