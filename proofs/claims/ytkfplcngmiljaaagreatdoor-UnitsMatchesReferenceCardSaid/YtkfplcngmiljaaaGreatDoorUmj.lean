/- Part of a proof: see the last text. -/
import Derived.Test.YtkfplcngmiljaaaGreatDoorUmi
import Derived.Test.YtkfplcngmiljaaaGreatDoorProg
import Derived.KernelRfl
import Derived.WalkKit
import Derived.WalkLawsBesides
import Derived.WalkSpells
import Derived.Lib.Hide
import Derived.Laws.Rows
import Derived.Recover
set_option linter.unusedVariables false
set_option linter.unusedSimpArgs false
namespace Go.Proofs.YtkfplcngmiljaaaGreatDoor
open AI Go Go.RowKit
theorem U2 (x y z:Value) (w:World) :
   CallsD Tryz.prog 68 #[x,y,z] .returning w fun e u' w'=>e=.returned (.tuple #[])∧u'=.returning∧w'=w:=by
 refine callsD_of_wpS Tryz.func68 rfl fun c₀ cs hu=>?_
 apply wpS_seq
 apply wpS_region
 simp [wpOpsS,go_sem,recoverD,hu,Tryz.ntmps68,Exit.thenS]
 apply wpS_seq
 apply wpS_region
 simp [wpOpsS,go_sem,Exit.thenS]
 refine wpS_cond (t:=false) (by simp [Act.eval,Array.replicate]) ?_
 simp only [Bool.false_eq_true,if_false]
 refine wpS_of_wp (wp_skip ?_)
 cases c₀
 simp_all [bodyPostS,results,Tryz.results68]
noncomputable def I2 (w:World):World:=((w.alloc (.cells #[.int .i64 0,.string ⟨#[]⟩,.string ⟨#[]⟩,.int .i64 0,.int .i64 0,.int .i64 0,.int .i64 0,.int .i64 0,.slice none 0 0,.slice none 0 0,.int .i64 0] 27)).alloc (.cells #[.int .i64 0,.int .i64 0] 53)).alloc (.cells #[.bool false] 4)
theorem n4 (w:World):(I2 w).heap[w.heap.size]?=some (.cells #[.int .i64 0,.string ⟨#[]⟩,.string ⟨#[]⟩,.int .i64 0,.int .i64 0,.int .i64 0,.int .i64 0,.int .i64 0,.slice none 0 0,.slice none 0 0,.int .i64 0] 27 (0,0)):=by
 unfold I2
 rw [heap_alloc_old _ _ (by simp;omega),heap_alloc_old _ _ (by simp),heap_alloc_new]
theorem mP (w:World):(I2 w).heap[w.heap.size+1]?=some (.cells #[.int .i64 0,.int .i64 0] 53 (0,0)):=by
 unfold I2
 rw [heap_alloc_old _ _ (by simp),heap_alloc2_new]
theorem mS (w:World):(I2 w).heap[w.heap.size+1+1]?=some (.cells #[.bool false] 4 (0,0)):=by
 unfold I2
 have:=heap_alloc_new ((w.alloc (.cells #[.int .i64 0,.string ⟨#[]⟩,.string ⟨#[]⟩,.int .i64 0,.int .i64 0,.int .i64 0,.int .i64 0,.int .i64 0,.slice none 0 0,.slice none 0 0,.int .i64 0] 27)).alloc (.cells #[.int .i64 0,.int .i64 0] 53)) (.cells #[.bool false] 4)
 rwa [World.size_alloc,World.size_alloc] at this
set_option maxRecDepth 20000 in
set_option maxHeartbeats 4000000 in
theorem aD (g:Nat) (hg:I6 Tryz.prog g=true) (fs cs:Array Value) (w:World) (R:Array Value→World→Prop)
   (hR:∀ xs w',R xs w'→(xs.size=11∧xs.all (·.oneCell')=true)∧w'.heap[w.heap.size]?=(I2 w).heap[w.heap.size]?∧w'.heap[w.heap.size+1]?=(I2 w).heap[w.heap.size+1]?∧w'.heap[w.heap.size+1+1]?=(I2 w).heap[w.heap.size+1+1]?)
   (hC:Calls Tryz.prog g (fs++cs) (I2 w) fun e w'=>∃ xs,e=.returned (.agg xs)∧R xs w') :
   Calls Tryz.prog 44 #[.func (.func g) fs cs] w fun e w2=>∃ xs w',R xs w'∧e=.returned (.tuple #[.agg xs,.agg #[.int .i64 0,.int .i64 0],.bool true])∧Nz w' w2 (RW w (I2 w)):=by
 have hmf:∀ (fn:Fn) (first cap:Array Value) (w:World),(Instr.makeFunc fn first cap).run Tryz.prog w=.ok (.func fn first cap) w:=fun _ _ _ _=>rfl
 have hen:=fun args w=>Oh (w:=w) hg args
 have HC:=Lib.hid hC
 have HR:=Lib.hid hR
 clear hC hR
 go_enter_defers Tryz.func44,Tryz.ntmps44
 go_wp2_with fail
 refine HC.out.mono ?_
 clear HC
 rintro e w1 ⟨xs,rfl,hr⟩
 obtain ⟨⟨hx,hone⟩,k0,k1,k2⟩:=HR.out xs w1 hr
 clear HR
 have HB:=Lib.hid hr
 clear hr
 have e0:w1.heap[w.heap.size]?=some (.cells #[.int .i64 0,.string ⟨#[]⟩,.string ⟨#[]⟩,.int .i64 0,.int .i64 0,.int .i64 0,.int .i64 0,.int .i64 0,.slice none 0 0,.slice none 0 0,.int .i64 0] 27 (0,0)):=by
   rw [k0];exact n4 w
 have e1:w1.heap[w.heap.size+1]?=some (.cells #[.int .i64 0,.int .i64 0] 53 (0,0)):=by
   rw [k1];exact mP w
 have e2:w1.heap[w.heap.size+1+1]?=some (.cells #[.bool false] 4 (0,0)):=by
   rw [k2];exact mS w
 have hl2:w.heap.size+1+1 < w1.heap.size:=(Array.getElem?_eq_some_iff.1 e2).1
 obtain ⟨wa,hwa⟩:∃ wa,wa=w1.setRow w.heap.size xs:=⟨_,rfl⟩
 have ca:=Hi w1 w.heap.size xs
 rw [← hwa] at ca
 have f1:wa.heap[w.heap.size+1]?=some (.cells #[.int .i64 0,.int .i64 0] 53 (0,0)):=by
   rw [ca.block _ (by omega) (by omega)];exact e1
 have f2:wa.heap[w.heap.size+1+1]?=some (.cells #[.bool false] 4 (0,0)):=by
   rw [ca.block _ (by omega) (by omega)];exact e2
 have f0:wa.heap[w.heap.size]?=some (.cells xs 27 (0,0)):=by
   rw [hwa];exact setRow_heap w1 _ _ _ _ _ e0
 have s0:wa.setCell ⟨w.heap.size+1,0,none⟩ (.int .i64 0)=wa.setRow (w.heap.size+1) #[.int .i64 0,.int .i64 0]:=setCell_eq_setRow wa _ 0 _ _ _ _ f1
 obtain ⟨wd,hwd⟩:∃ wd,wd=wa.setCell ⟨w.heap.size+1,0,none⟩ (.int .i64 0):=⟨_,rfl⟩
 have cd:=Hi wa (w.heap.size+1) #[.int .i64 0,.int .i64 0]
 have fd1:wd.heap[w.heap.size+1]?=some (.cells #[.int .i64 0,.int .i64 0] 53 (0,0)):=by
   rw [hwd,s0];exact setRow_heap wa _ _ _ _ _ f1
 have s1:wd.setCell ⟨w.heap.size+1,1,none⟩ (.int .i64 0)=wd.setRow (w.heap.size+1) #[.int .i64 0,.int .i64 0]:=setCell_eq_setRow wd _ 1 _ _ _ _ fd1
 rw [← s0,← hwd] at cd
 obtain ⟨wb,hwb⟩:∃ wb,wb=wd.setCell ⟨w.heap.size+1,1,none⟩ (.int .i64 0):=⟨_,rfl⟩
 have cb:=Hi wd (w.heap.size+1) #[.int .i64 0,.int .i64 0]
 rw [← s1,← hwb] at cb
 have hld:w.heap.size+1 < wd.heap.size:=(Array.getElem?_eq_some_iff.1 fd1).1
 have d0:wa.cell? ⟨w.heap.size+1,0,none⟩=some (.int .i64 0):=by simp [World.cell?,f1]
 have d1:(wa.setCell ⟨w.heap.size+1,0,none⟩ (.int .i64 0)).cell? ⟨w.heap.size+1,1,none⟩=some (.int .i64 0):=by rw [← hwd];simp [World.cell?,fd1]
 have z0:wa.frozen? ⟨w.heap.size+1,0,none⟩=false:=by simp [World.frozen?,f1]
 have z1:(wa.setCell ⟨w.heap.size+1,0,none⟩ (.int .i64 0)).frozen? ⟨w.heap.size+1,1,none⟩=false:=by rw [← hwd];simp [World.frozen?,fd1]
 have hla:w.heap.size+1+1 < wa.heap.size:=(Array.getElem?_eq_some_iff.1 f2).1
 have g0:wb.heap[w.heap.size]?=some (.cells xs 27 (0,0)):=by
   rw [cb.block _ (by omega) (by omega),cd.block _ (by omega) (by omega)];exact f0
 have g1:wb.heap[w.heap.size+1]?=some (.cells #[.int .i64 0,.int .i64 0] 53 (0,0)):=by
   rw [hwb,s1];exact setRow_heap wd _ _ _ _ _ fd1
 have g2:wb.heap[w.heap.size+1+1]?=some (.cells #[.bool false] 4 (0,0)):=by
   rw [cb.block _ (by have:=cd.size;omega) (by omega),cd.block _ (by omega) (by omega)];exact f2
 have c2:((wa.setCell ⟨w.heap.size+1,0,none⟩ (.int .i64 0)).setCell ⟨w.heap.size+1,1,none⟩ (.int .i64 0)).cell? ⟨w.heap.size+1+1,0,none⟩=some (.bool false):=by rw [← hwd,← hwb];simp [World.cell?,g2]
 have z2:((wa.setCell ⟨w.heap.size+1,0,none⟩ (.int .i64 0)).setCell ⟨w.heap.size+1,1,none⟩ (.int .i64 0)).frozen? ⟨w.heap.size+1+1,0,none⟩=false:=by rw [← hwd,← hwb];simp [World.frozen?,g2]
 have hsz:(Tryz.prog.info? 27).map (·.size)=some xs.size:=by rw [hx];kernel_rfl
 have E0:=Lib.hid e0
 have HS:=Lib.hid hsz
 have HX:=Lib.hid hx
 have HO:=Lib.hid hone
 have HWA:=Lib.hid hwa
 have HWB:=Lib.hid hwb
 have HWD:=Lib.hid hwd
 have CD:=Lib.hid cd
 have G0:=Lib.hid g0
 have G1:=Lib.hid g1
 have G2:=Lib.hid g2
 have CA:=Lib.hid ca
 have CB:=Lib.hid cb
 have HL:=Lib.hid (And.intro hl2 hla)
 clear e0 e1 e2 f0 f1 f2 g0 g1 g2 hsz hx hone hwa hwb hwd s0 s1 fd1 hld ca cb cd k0 k1 k2 hl2 hla
 go_wp2_with (refine wpList_store_row rfl 27 _ _ rfl w.heap.size xs rfl rfl 27 _ E0.out HS.out (by rw [HX.out];rfl) HO.out ?_;rw [← HWA.out])
 rw [← HWD.out,← HWB.out]
 have s2:wb.setCell ⟨w.heap.size+1+1,0,none⟩ (.bool true)=wb.setRow (w.heap.size+1+1) #[.bool true]:=setCell_eq_setRow wb _ 0 _ _ _ _ G2.out
 have cc:=Hi wb (w.heap.size+1+1) #[.bool true]
 have h2:=setRow_heap wb (w.heap.size+1+1) _ #[.bool true] _ _ G2.out
 rw [s2]
 generalize wb.setRow (w.heap.size+1+1) #[.bool true]=wc at cc h2
 have hl:=HL.out
 have hlb:=CB.out.size
 have hld:=CD.out.size
 have h0:wc.heap[w.heap.size]?=some (.cells xs 27 (0,0)):=by rw [cc.block _ (by omega) (by omega)];exact G0.out
 have h1:wc.heap[w.heap.size+1]?=some (.cells #[.int .i64 0,.int .i64 0] 53 (0,0)):=by rw [cc.block _ (by omega) (by omega)];exact G1.out
 refine leaves_cons (f:=68) (args:=#[.pointer (some ⟨w.heap.size,0,none⟩),.pointer (some ⟨w.heap.size+1,0,none⟩),.pointer (some ⟨w.heap.size+1+1,0,none⟩)]) (by simp) (by simp [go_sem]) ?_
 refine (U2 _ _ _ _).mono ?_
 rintro e u' w2 ⟨rfl,rfl,rfl⟩
 show Leaves _ _ _ _ [] .returning _
 have l0:=run_loadVar_row (P:=Tryz.prog) w2 w.heap.size _ 27 xs _ _ h0 Tryz.underlying27 rfl HS.out
 have l1:=run_loadVar_row (P:=Tryz.prog) w2 (w.heap.size+1) _ 53 #[.int .i64 0,.int .i64 0] _ _ h1 Tryz.underlying53 rfl (by kernel_rfl)
 have l2:w2.cell? ⟨w.heap.size+1+1,0,none⟩=some (.bool true):=by simp [World.cell?,h2]
 refine ⟨.tuple #[.agg xs,.agg #[.int .i64 0,.int .i64 0],.bool true],?_,xs,w1,HB.out,rfl,?_⟩
 · have l3:(loadVar 4 ⟨w.heap.size+1+1,0,none⟩).run Tryz.prog w2=.ok (.bool true) w2:=by simp [go_sem,l2]
   rw [O0,Tryz.results44]
   simp [Yg,asAddr,Sem.run_bind,l0,l1,l3]
 · have hk:∀ k,w1.heap.size > k→¬ RW w (I2 w) k→k≠w.heap.size∧k≠w.heap.size+1∧k≠w.heap.size+1+1:=by
     intro k _ hn
     have hs:(I2 w).heap.size=w.heap.size+1+1+1:=by unfold I2;simp
     refine ⟨fun e=>hn ?_,fun e=>hn ?_,fun e=>hn ?_⟩<;>subst e<;>refine ⟨?_,?_⟩<;>omega
   have ca:=CA.out
   have cd:=CD.out
   have cb:=CB.out
   refine ⟨cc.os.trans (cb.os.trans (cd.os.trans ca.os)),cc.tape.trans (cb.tape.trans (cd.tape.trans ca.tape)),cc.output.trans (cb.output.trans (cd.output.trans ca.output)),Nat.le_trans ca.size (Nat.le_trans hld (Nat.le_trans hlb cc.size)),fun k hk1 hk2=>?_⟩
   obtain ⟨n0,n1,n2⟩:=hk k hk1 hk2
   rw [cc.block k (by have:=ca.size;omega) n2,cb.block k (by have:=ca.size;omega) n1,cd.block k (by have:=ca.size;omega) n1,ca.block k hk1 n0]
def cB:CR→Option CR
 | .ret (.agg cs)=>(match Nat.beq cs.length 11 with
   | true=>(match cs.all one with
     | true=>some (.ret (.A9 [.agg cs,.agg [.sc (.int .i64 0),.sc (.int .i64 0)],.sc (.bool true)]))
     | false=>none)
   | false=>none)
 | _=>none
theorem RF {G:AN} {g:FuncId} (hg:I6 Tryz.prog g=true) {first caps:List AV} {s s':AS} {r r':CR} (h:Sound Tryz.prog G (.call g (first++[]++caps) s r s')) (hk:cB r=some r'):Sound Tryz.prog G (.call 44 [.fn (.func g) first caps] s r' s'):=by
 unfold cB at hk
 split at hk
 · rename_i cs
   split at hk
   · rename_i hn
     split at hk
     · rename_i ho
       cases hk
       intro cx w vs hs ha
       cases ha with
       | cons h1 t =>
       cases t
       cases h1 with
       | fn hf hc =>
       rename_i us vs
       have k:Nz w (I2 w) (fun _=>False):=by
         have k1:=K7 w (.cells #[.int .i64 0,.string ⟨#[]⟩,.string ⟨#[]⟩,.int .i64 0,.int .i64 0,.int .i64 0,.int .i64 0,.int .i64 0,.slice none 0 0,.slice none 0 0,.int .i64 0] 27)
         exact ⟨rfl,rfl,rfl,by unfold I2;simp;omega,fun q hq _=>by unfold I2;rw [heap_alloc_old _ _ (by simp;omega),heap_alloc_old _ _ (by simp;omega),heap_alloc_old _ _ hq]⟩
       have hsv:=fD hs k
       have hm:=Px (cx:=cx) k
       have hC:=h (cx.Tq w (I2 w)) (I2 w) (us++vs) hsv (by simpa using (hf.CX hm).append (hc.CX hm))
       have e1:(us++vs).toArray=us.toArray++vs.toArray:=by simp
       rw [e1] at hC
       refine (aD g hg us.toArray vs.toArray w (fun xs w'=>∃ c',Ext (cx.Tq w (I2 w)) (I2 w) c' w'∧St G c' w' s'∧BN c' w' cs xs.toList) ?_ (hC.mono ?_)).mono ?_
       · rintro xs w' ⟨c',hx,_,hr⟩
         have hl:=hr.len
         have hsz:(I2 w).heap.size=w.heap.size+1+1+1:=by unfold I2;simp
         refine ⟨⟨by have:=Nat.eq_of_beq_eq_true hn;rw [← Array.length_toList];omega,?_⟩,NK hs hx ⟨by omega,by omega⟩,NK hs hx ⟨by omega,by omega⟩,NK hs hx ⟨by omega,by omega⟩⟩
         rw [Array.all_eq_true_iff_forall_mem]
         intro v hv
         exact Sb hr ho v (by simpa using hv)
       · rintro e w' ⟨c',hx,hs',u,rfl,hu⟩
         cases hu with
         | agg hr=>exact ⟨_,rfl,c',hx,hs',by simpa using hr⟩
       · rintro e w2 ⟨xs,w',⟨c',hx,hs',hr⟩,rfl,k2⟩
         have m2:=Md hx k2
         refine ⟨c'.PG cx,Ul hs k hx k2,WE hs hx hs' k2,_,rfl,?_⟩
         have hr2:=hr.CX m2
         have ha:Rp (c'.PG cx) w2 (.agg cs) (.agg xs):=by
           have:=Rp.agg hr2
           simpa using this
         exact .A9 (vs:=[.agg xs,.agg #[.int .i64 0,.int .i64 0],.bool true]) (.cons ha (.cons (.agg (vs:=[.int .i64 0,.int .i64 0]) (.cons (.sc rfl) (.cons (.sc rfl) .nil))) (.cons (.sc rfl) .nil)))
     · cases hk
   · cases hk
 · cases hk
end Go.Proofs.YtkfplcngmiljaaaGreatDoor
namespace AI
open Go
section
variable {α γ δ ρ:Type}
def allI (p:Nat→α→Bool):List α→Nat→Bool
 | [],_=>true
 | y::l,i=>p i y&&allI p l (i+1)
theorem T9 {body:Nat→α→Unit→Option (Lp Unit δ ρ)} {done:Unit→δ} {p:Nat→α→Bool} {v:ρ}:∀ {l:List α} {i:Nat},(∀ k y,l[k]?=some y→body (i+k) y ()=some (if p (i+k) y then .nx () else .rt v))→AL body done l i ()=some (if allI p l i then .inl (done ()) else .inr v)
 | [],i,_=>rfl
 | y::l,i,h=>by
   have h0:=h 0 y rfl
   rw [Nat.add_zero] at h0
   rw [AL,h0,allI]
   cases p i y with
   | false=>simp [Gj]
   | true =>
     have:=T9 (body:=body) (done:=done) (p:=p) (v:=v) (l:=l) (i:=i+1) fun k z hz=>by
       have:=h (k+1) z (by simpa using hz)
       rwa [show i+(k+1)=i+1+k by omega] at this
     simpa [Gj] using this
theorem DJ {β:Type} {n:Nat} {x:Option β} (h:n≤9223372036854775807):It n x=x:=by unfold It;rw [if_pos h]
theorem So {β:Type} {n:Nat} {x:Option β} (h:n≤100000000):SY n x=x:=by unfold SY;rw [if_pos h]
end
end AI
namespace AI
open Go
noncomputable def mb (p:Prop):Bool:=@decide p (Classical.propDecidable _)
theorem Bk {p:Prop}:mb p=true↔p:=by unfold mb;exact @decide_eq_true_iff p (_)
theorem FC {p q:Prop} (h:p↔q):mb p=mb q:=by rw [propext h]
noncomputable def AQ {β:Type} (p:Prop) (x y:β):β:=@ite β p (Classical.propDecidable _) x y
theorem Ag {β:Type} {p:Prop} {x y:β} (h:p):AQ p x y=x:=@if_pos p (_) h _ _ _
theorem Ad {β:Type} {p:Prop} {x y:β} (h:¬ p):AQ p x y=y:=@if_neg p (_) h _ _ _
section
variable {β:Type} {x y:β}
theorem sW (a b:Int):cond (KL a b) x y=AQ (a≤b) x y:=by
 rw [Uq]
 by_cases h:a≤b
 · rw [Ag h,decide_eq_true h];rfl
 · rw [Ad h,decide_eq_false h];rfl
theorem tZ (a b:Int):cond (F4 a b) x y=AQ (a < b) x y:=by
 rw [Kh]
 by_cases h:a < b
 · rw [Ag h,decide_eq_true h];rfl
 · rw [Ad h,decide_eq_false h];rfl
theorem RP (a b:Int):cond (Bq a b) x y=AQ (a=b) x y:=by
 by_cases h:a=b
 · have:Bq a b=true:=by rw [J2];simpa using h
   rw [Ag h,this];rfl
 · have:Bq a b=false:=by rw [J2];simpa using h
   rw [Ad h,this];rfl
theorem QL (a b:ByteArray):cond (BA a.data.toList b.data.toList) x y=AQ (a=b) x y:=by
 by_cases h:a=b
 · have:BA a.data.toList b.data.toList=true:=by rw [P7,h];simp
   rw [Ag h,this];rfl
 · have:BA a.data.toList b.data.toList=false:=by
     rw [P7]
     apply beq_false_of_ne
     exact fun e=>h (ByteArray.ext (Array.ext' e))
   rw [Ad h,this];rfl
theorem Bo (p:Prop):cond (mb p) x y=AQ p x y:=by
 by_cases h:p
 · rw [Ag h,Bk.2 h];rfl
 · rw [Ad h]
   have:mb p=false:=by
     cases hm:mb p
     · rfl
     · exact absurd (Bk.1 hm) h
   rw [this];rfl
theorem rF (b:Bool):cond b x y=AQ (b=true) x y:=by cases b<;>simp [AQ]
end
section
variable {p q r:Prop}
theorem GF:AQ p (some true) (some false)=some (mb p):=by
 by_cases h:p
 · rw [Ag h,Bk.2 h]
 · rw [Ad h];congr 1;cases hm:mb p;rfl;exact absurd (Bk.1 hm) h
theorem iF:true=mb True:=(Bk.2 trivial).symm
theorem uJ:false=mb False:=by cases h:mb False;rfl;exact (Bk.1 h).elim
theorem mE:AQ p (some false) (some true)=some (mb ¬ p):=by
 by_cases h:p
 · rw [Ag h];congr 1;rw [Bool.eq_iff_iff,Bk];simp [h]
 · rw [Ad h];congr 1;rw [Bool.eq_iff_iff,Bk];simp [h]
theorem EC:AQ p (some (mb q)) (some false)=some (mb (p∧q)):=by
 by_cases h:p
 · rw [Ag h];congr 1;rw [Bool.eq_iff_iff,Bk,Bk];simp [h]
 · rw [Ad h];congr 1;rw [Bool.eq_iff_iff,Bk];simp [h]
theorem ZK:AQ p (some false) (some (mb q))=some (mb (¬ p∧q)):=by
 by_cases h:p
 · rw [Ag h];congr 1;rw [Bool.eq_iff_iff,Bk];simp [h]
 · rw [Ad h];congr 1;rw [Bool.eq_iff_iff,Bk,Bk];simp [h]
theorem fN:AQ p (some true) (some (mb q))=some (mb (p∨q)):=by
 by_cases h:p
 · rw [Ag h];congr 1;rw [Bool.eq_iff_iff,Bk];simp [h]
 · rw [Ad h];congr 1;rw [Bool.eq_iff_iff,Bk,Bk];simp [h]
theorem dS:AQ p (some (mb q)) (some (mb r))=some (mb ((p→q)∧(¬ p→r))):=by
 by_cases h:p
 · rw [Ag h];congr 1;rw [Bool.eq_iff_iff,Bk,Bk];simp [h]
 · rw [Ad h];congr 1;rw [Bool.eq_iff_iff,Bk,Bk];simp [h]
theorem Kc {β:Type} {x:β}:AQ p x x=x:=by
 by_cases h:p
 · exact Ag h
 · exact Ad h
noncomputable def ck {δ ρ:Type} (v:ρ) (p:Prop):Lp Unit δ ρ:=AQ p (.nx ()) (.rt v)
variable {δ ρ:Type} {v:ρ}
theorem SD:AQ p (some (.nx ())) (some (.rt v))=some (ck (δ:=δ) v p):=by
 unfold ck;by_cases h:p
 · rw [Ag h,Ag h]
 · rw [Ad h,Ad h]
theorem WA:AQ p (some (.rt v)) (some (.nx ()))=some (ck (δ:=δ) v ¬ p):=by
 unfold ck;by_cases h:p
 · rw [Ag h,Ad (by simp [h])]
 · rw [Ad h,Ag h]
theorem X1:AQ p (some (ck (δ:=δ) v q)) (some (.rt v))=some (ck v (p∧q)):=by
 unfold ck;by_cases h:p
 · rw [Ag h];simp [h]
 · rw [Ad h,Ad (by simp [h])]
theorem WO:AQ p (some (.rt v)) (some (ck (δ:=δ) v q))=some (ck v (¬ p∧q)):=by
 unfold ck;by_cases h:p
 · rw [Ag h,Ad (by simp [h])]
 · rw [Ad h];simp [h]
theorem mG:AQ p (some (ck (δ:=δ) v q)) (some (.nx ()))=some (ck v (p→q)):=by
 unfold ck;by_cases h:p
 · rw [Ag h];simp [h]
 · rw [Ad h,Ag (by simp [h])]
theorem sC:AQ p (some (.nx ())) (some (ck (δ:=δ) v q))=some (ck v (p∨q)):=by
 unfold ck;by_cases h:p
 · rw [Ag h,Ag (by simp [h])]
 · rw [Ad h];simp [h]
theorem wS:AQ p (some (ck (δ:=δ) v q)) (some (ck v r))=some (ck v ((p→q)∧(¬ p→r))):=by
 unfold ck;by_cases h:p
 · rw [Ag h];simp [h]
 · rw [Ad h];simp [h]
theorem Io {α β:Type} {l:List α} {body:Nat→α→Unit→Option (Lp Unit Unit ρ)} {P:Nat→α→Prop} {k:Unit→Option β} {kr:ρ→Option β} (hl:l.length≤9223372036854775807) (hb:∀ i y,l[i]?=some y→body i y ()=some (ck v (P i y))):(It l.length (AL body (fun _=>()) (l.drop 0) 0 ())).bind (Ii k kr)=AQ (∀ i y,l[i]?=some y→P i y) (k ()) (kr v):=by
 rw [DJ hl,List.drop_zero]
 have h1:∀ k y,l[k]?=some y→body (0+k) y ()=some (if mb (P (0+k) y) then .nx () else .rt v):=fun k y hy=>by
   rw [Nat.zero_add,hb k y hy]
   unfold ck
   by_cases h:P k y
   · rw [Ag h,if_pos (Bk.2 h)]
   · rw [Ad h,if_neg (fun e=>h (Bk.1 e))]
 rw [T9 (p:=fun i y=>mb (P i y)) (v:=v) h1]
 have h2:∀ (l:List α) (i:Nat),allI (fun i y=>mb (P i y)) l i=true↔∀ k y,l[k]?=some y→P (i+k) y:=by
   intro l
   induction l with
   | nil=>intro i;simp [allI]
   | cons a l ih =>
     intro i
     rw [allI,Bool.and_eq_true,Bk,ih]
     constructor
     · rintro ⟨h1,h2⟩ k y hk
       cases k with
       | zero=>simp at hk;subst hk;exact h1
       | succ k=>rw [show i+(k+1)=i+1+k by omega];exact h2 k y (by simpa using hk)
     · intro h
       refine ⟨h 0 a rfl,fun k y hk=>?_⟩
       rw [show i+1+k=i+(k+1) by omega]
       exact h (k+1) y (by simpa using hk)
 have h3:=h2 l 0
 simp only [Nat.zero_add] at h3
 by_cases h:∀ i y,l[i]?=some y→P i y
 · rw [Ag h,h3.2 h];rfl
 · rw [Ad h]
   have:allI (fun i y=>mb (P i y)) l 0=false:=by
     cases ha:allI (fun i y=>mb (P i y)) l 0
     · rfl
     · exact absurd (h3.1 ha) h
   rw [this];rfl
end
end AI
namespace AI
open Go
def Sp {β:Type} (o:Option β) (Q:β→Prop):Prop:=∃ r,o=some r∧Q r
section
variable {α β γ δ ρ κ:Type} {Q:β→Prop}
theorem Mt {r:β}:Sp (some r) Q=Q r:=propext ⟨fun ⟨_,h,k⟩=>by cases h;exact k,fun h=>⟨_,rfl,h⟩⟩
theorem VI {o:Option κ} {k:κ→Option β}:Sp (o.bind k) Q=Sp o (fun y=>Sp (k y) Q):=propext ⟨fun ⟨r,h,hq⟩=>by
 obtain ⟨y,h1,h2⟩:=Su h
 exact ⟨y,h1,r,h2,hq⟩,fun ⟨y,h1,r,h2,hq⟩=>⟨r,by rw [h1];exact h2,hq⟩⟩
theorem Sp.mono {Q':β→Prop} {o:Option β} (h:Sp o Q) (k:∀ r,Q r→Q' r):Sp o Q':=h.elim fun r h=>⟨r,h.1,k r h.2⟩
theorem VV {o:Option β} {r:β}:(o=some r)=Sp o (fun x=>x=r):=propext ⟨fun h=>⟨r,h,rfl⟩,fun ⟨_,h,k⟩=>by rw [h,k]⟩
theorem UU {p:Prop} {x y:Option β}:Sp (AQ p x y) Q=((p→Sp x Q)∧(¬ p→Sp y Q)):=propext (by
 by_cases h:p
 · rw [Ag h];exact ⟨fun a=>⟨fun _=>a,fun n=>absurd h n⟩,fun a=>a.1 h⟩
 · rw [Ad h];exact ⟨fun a=>⟨fun n=>absurd n h,fun _=>a⟩,fun a=>a.2 h⟩)
theorem F6 (a b:Int):KL a b=mb (a≤b):=by rw [Uq,Bool.eq_iff_iff,Bk,decide_eq_true_iff]
theorem EH (a b:Int):F4 a b=mb (a < b):=by rw [Kh,Bool.eq_iff_iff,Bk,decide_eq_true_iff]
theorem Bu (a b:Int):Bq a b=mb (a=b):=by rw [J2,Bool.eq_iff_iff,Bk,beq_iff_eq]
theorem B8 (a b:ByteArray):BA a.data.toList b.data.toList=mb (a=b):=by
 rw [P7,Bool.eq_iff_iff,Bk,beq_iff_eq]
 exact ⟨fun h=>ByteArray.ext (Array.ext' h),fun h=>by rw [h]⟩
theorem kI {p:Prop}:(!mb p)=mb ¬ p:=by
 rw [Bool.eq_iff_iff,Bk,Bool.not_eq_true',← Bool.not_eq_true,Bk]
theorem Gu {p:Prop}:(mb p=true)=p:=propext Bk
theorem N2 {p:Prop}:(mb p=false)=¬ p:=by rw [← Bool.not_eq_true,Gu]
theorem UP {p:Prop}:(true=mb p)=p:=by rw [@eq_comm _ true,Gu]
theorem N6 {p:Prop}:(false=mb p)=¬ p:=by rw [@eq_comm _ false,N2]
theorem Ke {p q:Prop} (h:p↔q):some (mb p)=some (mb q):=by rw [FC h]
theorem H9 {p:Prop} (h:¬ p):some false=some (mb p):=congrArg some (by rw [N6];exact h)
theorem aX {l:List α} {body:Nat→α→γ→Option (Lp γ δ ρ)} {done:γ→δ} {k:δ→Option β} {kr:ρ→Option β} {x0:γ} (I:Nat→γ→Prop) (hl:l.length≤9223372036854775807) (h0:I 0 x0)
   (hb:∀ i y x,l[i]?=some y→I i x→Sp (body i y x) (RQ (I (i+1)) (fun d=>Sp (k d) Q) (fun v=>Sp (kr v) Q)))
   (hz:∀ x,I l.length x→Sp (k (done x)) Q):Sp ((It l.length (AL body done (l.drop 0) 0 x0)).bind (Ii k kr)) Q:=by
 rw [DJ hl,List.drop_zero]
 have key:∀ (m:List α) (i:Nat) (x:γ),l.drop i=m→i≤l.length→I i x→Sp ((AL body done m i x).bind (Ii k kr)) Q:=by
   intro m
   induction m with
   | nil =>
     intro i x hd hle hi
     have h1:=List.drop_eq_nil_iff.1 hd
     have:i=l.length:=by omega
     subst this
     exact hz x hi
   | cons y m ih =>
     intro i x hd hle hi
     have hlt:i < l.length:=by
       rcases Nat.lt_or_ge i l.length with h1 | h1
       · exact h1
       · rw [List.drop_eq_nil_of_le h1] at hd;cases hd
     have hy:l[i]?=some y:=by rw [← List.head?_drop,hd];rfl
     have hd2:l.drop (i+1)=m:=by rw [← List.tail_drop,hd];rfl
     obtain ⟨r,hr,hq⟩:=hb i y x hy hi
     rw [AL,hr]
     cases r with
     | nx x'=>exact ih (i+1) x' hd2 hlt hq
     | ex d=>exact hq
     | rt v=>exact hq
 exact key l 0 x0 rfl (Nat.zero_le _) h0
theorem rL {Qn:γ→Prop} {Qx:δ→Prop} {Qr:ρ→Prop} {x:γ}:RQ Qn Qx Qr (.nx x)=Qn x:=rfl
theorem qT {Qn:γ→Prop} {Qx:δ→Prop} {Qr:ρ→Prop} {x:δ}:RQ Qn Qx Qr (.ex x)=Qx x:=rfl
theorem nT {body:γ→Option (Lp γ δ ρ)} {k:δ→Option β} {kr:ρ→Option β} {x0:γ} (I:γ→Prop) (m:γ→Nat) (h0:I x0)
   (hb:∀ x,I x→Sp (body x) (RQ (fun x'=>I x'∧m x' < m x) (fun d=>Sp (k d) Q) (fun v=>Sp (kr v) Q))):Sp ((U5 body x0).bind (Ii k kr)) Q:=by
 have key:∀ (n:Nat) (x:γ),I x→m x < n→∃ r,Ld body n x=some r∧Sp (Ii k kr r) Q:=by
   intro n
   induction n with
   | zero=>intro x _ h;omega
   | succ n ih =>
     intro x hi hm
     obtain ⟨r,hr,hq⟩:=hb x hi
     rw [Ld,hr]
     cases r with
     | nx x'=>exact ih x' hq.1 (by have:=hq.2;omega)
     | ex d=>exact ⟨_,rfl,hq⟩
     | rt v=>exact ⟨_,rfl,hq⟩
 obtain ⟨r,hr,hq⟩:=key (m x0+1) x0 h0 (by omega)
 rw [bH hr]
 exact hq
theorem jR {n:Nat} {body:Nat→γ→Option (Lp γ δ ρ)} {done:γ→δ} {k:δ→Option β} {kr:ρ→Option β} {x0:γ} (I:Nat→γ→Prop) (hl:n≤9223372036854775807) (h0:I 0 x0)
   (hb:∀ i x,i < n→I i x→Sp (body i x) (RQ (I (i+1)) (fun d=>Sp (k d) Q) (fun v=>Sp (kr v) Q)))
   (hz:∀ x,I n x→Sp (k (done x)) Q):Sp ((It n (RZ body done n 0 x0)).bind (Ii k kr)) Q:=by
 rw [DJ hl]
 have key:∀ (d i:Nat) (x:γ),i+d=n→I i x→Sp ((RZ body done d i x).bind (Ii k kr)) Q:=by
   intro d
   induction d with
   | zero =>
     intro i x hd hi
     have:i=n:=by omega
     subst this
     exact hz x hi
   | succ d ih =>
     intro i x hd hi
     obtain ⟨r,hr,hq⟩:=hb i x (by omega) hi
     rw [RZ,hr]
     cases r with
     | nx x'=>exact ih (i+1) x' (by omega) hq
     | ex d=>exact hq
     | rt v=>exact hq
 exact key n 0 x0 (by omega) h0
end
theorem M8 {n:Int} (h:-9223372036854775808≤n∧n≤9223372036854775807):Lc .i64 n=n:=by
 rw [Mn]
 exact IntWalk.i64_in n (by omega)
theorem CI {a b:Int} (h:-9223372036854775808≤a+b∧a+b≤9223372036854775807):BH a b=a+b:=by
 unfold BH
 rw [RX,M8 h]
theorem ML {a b:Int} (h:-9223372036854775808≤a - b∧a - b≤9223372036854775807):RV a b=a - b:=by
 unfold RV
 rw [V4,M8 h]
theorem Vr {a b:Int} (h:-9223372036854775808≤a*b∧a*b≤9223372036854775807):QA a b=a*b:=by
 unfold QA
 rw [M8 h]
end AI
namespace Go.Proofs.YtkfplcngmiljaaaGreatDoor
open AI Go
namespace Mo
set_option maxRecDepth 100000
set_option maxHeartbeats 4000000
noncomputable def vO:Code:=A3 Tryz.f40
theorem b40:Tryz.f40.body=some vO:=by kernel_rfl
noncomputable def Dl (Eh:Nd→Int→Option Int) (limit:Int) (i0:Nat) (e0:Nd) (out5:Int):Option (Lp Int Int Int):=cond (F4 out5 limit) ((Eh e0 (RV limit out5)).bind fun y1=>some (.nx (BH out5 y1))) (some (.ex out5))
noncomputable def Ei (Eh:Nd→Int→Option Int) (n:Nd) (limit:Int):Option Int:=cond (KL limit 0) (some 0) ((It n.kids.length (AL (fun i y x=>Dl Eh limit i y x) (fun x=>x) (n.kids.drop 0) 0 1)).bind (Ii (fun (out5_2:Int)=>some out5_2) (fun v=>some v)))
theorem NH (Eh:Nd→Int→Option Int) (Qc:∀ {n:Nd} {limit:Int} {yR:Int},Eh n limit=some yR→Pure P G 40 [.agg (Bl n),.sc (.int .i64 limit)] (.sc (.int .i64 yR))) {n:Nd} {limit:Int} {yR:Int} (h:Ei Eh n limit=some yR):Pure P G 40 [.agg (Bl n),.sc (.int .i64 limit)] (.sc (.int .i64 yR)):=by
 unfold Ei at h
 refine BB Hd.mixed Hd.Aa (AB Tryz.func40 b40 ?_) (A2 (Al.GB n) (A2 rfl rfl)) rfl
 revert h
 refine Ae (fun hb1=>?_) fun hb1=>?_
 rintro ⟨⟩
 exact rS (Ab 300 [pb hb1]) (by kernel_rfl)
 refine Fb (fun Q v=>Fq P Tryz.f40 0 Q (.sc (.int .i64 v))) (fun i0 (out5:Int) (j0:List Value)=>fr 33 [(1,.sc (.int .i64 limit)),(2,.ptr 0 0),(5,.sc (.int .i64 out5)),(6,.sc (.int .i64 ((i0:Nat):Int)))] [8,13,14,17,18] j0) (fun (out5:Int)=>⟨[(0,.cells (Bl n))],1,[],0⟩) (fun (out5:Int) (jx:List Value)=>fr 33 [(5,.sc (.int .i64 out5))] [8,13,14,17,18] jx) (fun (out5:Int)=>⟨[(0,.cells (Bl n))],1,[],0⟩) [.bool false] (EO [] 0 (sb vO 244) [.code (sb vO 31)] (Ab 300 [pb hb1]) (by kernel_rfl)) ?_ ?_ ?_ (fun v h=>by cases h;exact .outer .body)
 rintro i0 out5 j0 hge hq
 exact CT (Ab 300 [pb (Kz hge)]) (by kernel_rfl) (hq [(jv j0 0),.bool false,.bool false,undef,.bool false])
 rintro i0 e0 out5 j0 r he0 hi0 mi0 k
 show Dl Eh limit i0 e0 out5=some r→_
 unfold Dl
 refine Ae (fun hb2=>?_) fun hb2=>?_
 refine Ah fun y1 hy1=>?_
 rintro ⟨⟩
 exact D6 (Ab 300 [pb (GD hi0),pb hb2,Ct (BD .lost he0),pk,Ak (Qc hy1),pk,pi mi0]) (by kernel_rfl) (k [(jv j0 0),.bool true,.bool true,.bool true,.bool true])
 rintro ⟨⟩
 exact CT (Ab 300 [pb (GD hi0),pb hb2]) (by kernel_rfl) (k [(jv j0 0),.bool true,.bool true,.bool false,.bool false])
 rintro out5_2 jx_2
 intro h
 have hE:=Option.some.inj h
 subst hE
 exact AG _ _ (Cc 300 []) (by kernel_rfl) .body .sc
noncomputable def BE:Nat→Nd→Int→Option Int
 | 0,_,_=>none
 | qn+1,n,limit=>Ei (BE qn) n limit
theorem Ou:∀ qn:Nat,∀ {n:Nd} {limit:Int} {yR:Int},BE qn n limit=some yR→Pure P G 40 [.agg (Bl n),.sc (.int .i64 limit)] (.sc (.int .i64 yR)):=by
 intro qn
 induction qn with
 | zero=>exact (fun h=>by simp only [BE] at h;cases h)
 | succ qn ih=>exact (fun h=>NH (BE qn) ih (by rw [BE] at h;exact h))
noncomputable def HU (n:Nd) (limit:Int):Option Int:=Xv (fun qn=>BE qn n limit)
theorem Lh {n:Nd} {limit:Int} {yR:Int} (h:HU n limit=some yR):Pure P G 40 [.agg (Bl n),.sc (.int .i64 limit)] (.sc (.int .i64 yR)):=by
 obtain ⟨qn,h⟩:=UE h
 exact (Ou qn) h
noncomputable def B23:Code:=A3 Tryz.f23
theorem b23:Tryz.f23.body=some B23:=by kernel_rfl
noncomputable def Ee  (n:Nd) (limit:Int):Option Bool:=(HU n (BH limit 1)).bind fun y1=>cond (KL y1 limit) (some true) (some false)
theorem FH   {n:Nd} {limit:Int} {yR:Bool} (h:Ee  n limit=some yR):Pure P G 23 [.agg (Bl n),.sc (.int .i64 limit)] (.sc (.bool yR)):=by
 unfold Ee at h
 refine BB Hd.mixed Hd.Aa (AB Tryz.func23 b23 ?_) (A2 (Al.GB n) (A2 rfl rfl)) rfl
 revert h
 refine Ah fun y1 hy1=>?_
 refine Ae (fun hb1=>?_) fun hb1=>?_
 rintro ⟨⟩
 exact rS (Ab 300 [pk,Ak (Lh hy1),pb hb1]) (by kernel_rfl)
 rintro ⟨⟩
 exact rS (Ab 300 [pk,Ak (Lh hy1),pb hb1]) (by kernel_rfl)
noncomputable def B12:Code:=A3 Tryz.f12
theorem b12:Tryz.f12.body=some B12:=by kernel_rfl
noncomputable def Ig  (a:Nd) (b:Nd):Option Bool:=(Ee a 400).bind fun y1=>cond y1 ((Ee b 400).bind fun y2=>some y2) (some false)
theorem Qf   {a:Nd} {b:Nd} {yR:Bool} (h:Ig  a b=some yR):Pure P G 12 [.agg (Bl a),.agg (Bl b)] (.sc (.bool yR)):=by
 unfold Ig at h
 refine BB Hd.mixed Hd.Aa (AB Tryz.func12 b12 ?_) (A2 (Al.GB a) (A2 (Al.GB b) rfl)) rfl
 revert h
 refine Ah fun y1 hy1=>?_
 refine Ae (fun hv=>?_) fun hv=>?_
 subst hv
 refine Ah fun y2 hy2=>?_
 intro h
 have hE:=Option.some.inj h
 subst hE
 exact rS (Ab 300 [Ak (FH hy1),Ak (FH hy2)]) (by kernel_rfl)
 subst hv
 rintro ⟨⟩
 exact rS (Ab 300 [Ak (FH hy1)]) (by kernel_rfl)
noncomputable def B50:Code:=A3 Tryz.f50
theorem b50:Tryz.f50.body=some B50:=by kernel_rfl
noncomputable def Br  (c:Ck) (n:Nd) (depth:Int):Option (Bool×Int):=cond (KL (BH c.nodes 1) 2000) ((some (KL depth 40)).bind fun q1=>some (q1,(BH c.nodes 1))) (some (false,(BH c.nodes 1)))
theorem Da {c:Ck} {n:Nd} {depth:Int} {yR:Bool} {qc_nodesR:Int} (hS:Sound P G (.call 50 [.ptr 0 0,.agg (Bl n),.sc (.int .i64 depth)] ⟨[(0,.cells (Fj c))],1,[],0⟩ (.ret (.sc (.bool yR))) ⟨[(0,.cells [.sc (.int .i64 qc_nodesR)])],1,[],0⟩)) (u0:Nat) (hnb:[u0].Nodup:=by decide) (hnt:([]:List Nat).Nodup:=by decide):Cd.ok P G (.callU 50 [.ptr u0 0,.agg (Bl n),.sc (.int .i64 depth)] (.ret (.sc (.bool yR))) [(u0,.cells (Fj c))] [] [(u0,.cells [.sc (.int .i64 qc_nodesR)])] []) :=
 DE (M:=[.cells (Fj c)]) (M2:=[.cells [.sc (.int .i64 qc_nodesR)]]) (T:=[]) (T2:=[]) (k:=1) (j:=0) Hd.Aa _ _ _ _ hS rfl rfl rfl rfl rfl hnb hnt rfl rfl (.cons (.cells (.pl (KD.pl c))) .nil) (.cons (.cells (.pl (A2 rfl rfl))) .nil) (.cons (.ptr (by decide)) (.cons (.pl (Al.GB n)) (.cons (.pl rfl) .nil))) (.pl rfl) (fun e he=>by simp only [List.mem_singleton] at he;subst he;exact (.arg (.here .ptr)))
theorem CE   {c:Ck} {n:Nd} {depth:Int} {yR:Bool} {qc_nodesR:Int} (h:Br  c n depth=some (yR,qc_nodesR)):Sound P G (.call 50 [.ptr 0 0,.agg (Bl n),.sc (.int .i64 depth)] ⟨[(0,.cells (Fj c))],1,[],0⟩ (.ret (.sc (.bool yR))) ⟨[(0,.cells [.sc (.int .i64 qc_nodesR)])],1,[],0⟩):=by
 unfold Br at h
 refine DI Hd.mixed (AB Tryz.func50 b50 ?_)
 revert h
 refine Ae (fun hb1=>?_) fun hb1=>?_
 refine Ah fun q1 hq1=>?_
 intro h
 have hE:=Option.some.inj h
 obtain ⟨hE0,hF0⟩:=Prod.mk.inj hE
 subst hE0 hF0
 exact An Hd.Aa _ _ [] [none] (Ab 300 [pk,pb hb1,HY (sZ hq1 (.tmp 20) (.const (.int .i64 40)))]) (by kernel_rfl) .body
 intro h
 have hE:=Option.some.inj h
 obtain ⟨hE0,hF0⟩:=Prod.mk.inj hE
 subst hE0 hF0
 exact An Hd.Aa _ _ [] [none] (Ab 300 [pk,pb hb1]) (by kernel_rfl) .body
noncomputable def vC:Code:=A3 Tryz.f82
theorem b82:Tryz.f82.body=some vC:=by kernel_rfl
noncomputable def Hv  (s2:(List Pc)) (i0:Nat) (e0:Pc) :Option (Lp Unit Unit Bool):=(s2[i0]?).bind fun x1=>cond (NF e0 x1) (some (.nx ())) (some (.rt false))
noncomputable def G6  (s1:(List Pc)) (s2:(List Pc)):Option Bool:=cond (Bq ((s1.length:Nat):Int) ((s2.length:Nat):Int)) ((It s1.length (AL (fun i y x=>Hv  s2 i y ) (fun x=>()) (s1.drop 0) 0 ())).bind (Ii (fun (_:Unit)=>some true) (fun v=>some v))) (some false)
theorem Oq   {s1:(List Pc)} {s2:(List Pc)} {yR:Bool} (h:G6  s1 s2=some yR):Pure P G 82 [.sl .lost s1.length (rows El s1),.sl .lost s2.length (rows El s2)] (.sc (.bool yR)):=by
 unfold G6 at h
 refine BB Hd.mixed Hd.Aa (AB Tryz.func82 b82 ?_) (A2 (CS.B9 s1) (A2 (CS.B9 s2) rfl)) rfl
 revert h
 refine Ae (fun hb1=>?_) fun hb1=>?_
 refine Fb (fun Q v=>Fq P Tryz.f82 0 Q (.sc (.bool v))) (fun i0 (_:Unit) (j0:List Value)=>fr 26 [(0,.sl .lost s1.length (rows El s1)),(1,.sl .lost s2.length (rows El s2)),(12,.sc (.int .i64 ((s1.length:Nat):Int))),(13,.sc (.int .i64 ((i0:Nat):Int)))] [4,10,14,24] j0) (fun (_:Unit)=>⟨[],0,[],0⟩) (fun (_:Unit) (jx:List Value)=>fr 26 [] [4,10,14,24] jx) (fun (_:Unit)=>⟨[],0,[],0⟩) [.bool false,.bool false] (EO [] 0 (sb vC 116) [.code (sb vC 15)] (Ab 300 [pn hb1]) (by kernel_rfl)) ?_ ?_ ?_ (fun v h=>by cases h;exact .outer .body)
 rintro i0 ⟨⟩ j0 hge hq
 exact CT (Ab 300 [pb (Kz hge)]) (by kernel_rfl) (hq (js 4 j0 [(2,.bool false)]))
 rintro i0 e0 ⟨⟩ j0 r he0 hi0 mi0 k
 show Hv  s2 i0 e0 =some r→_
 unfold Hv
 refine Ah fun x1 hx1=>?_
 refine Ae (fun hb2=>?_) fun hb2=>?_
 rintro ⟨⟩
 exact D6 (Ab 300 [pb (GD hi0),Ct (T3 .lost he0),Ct (T3 .lost hx1),HY (gY hb2 (.tmp 19) (.tmp 23)),pi mi0]) (by kernel_rfl) (k (js 4 j0 [(2,.bool true),(3,.bool false)]))
 rintro ⟨⟩
 exact AG _ _ (Ab 300 [pb (GD hi0),Ct (T3 .lost he0),Ct (T3 .lost hx1),HY (gY hb2 (.tmp 19) (.tmp 23))]) (by kernel_rfl) (.GS k) .sc
 rintro ⟨⟩ jx_2
 intro h
 have hE:=Option.some.inj h
 subst hE
 exact AG _ _ (Cc 300 []) (by kernel_rfl) .body .sc
 rintro ⟨⟩
 exact rS (Ab 300 [pn hb1]) (by kernel_rfl)
noncomputable def B51:Code:=A3 Tryz.f51
theorem b51:Tryz.f51.body=some B51:=by kernel_rfl
noncomputable def Bf  (n:Nd) (fields:Nd):Option Bool:=cond (BA n.name.data.toList fields.name.data.toList) (cond (BA n.unit.data.toList fields.unit.data.toList) (cond (Bq n.n fields.n) (cond (Bq n.fr fields.fr) (cond (Bq n.to fields.to) (cond (Bq n.known fields.known) (cond (Bq n.tab.den fields.tab.den) ((G6 n.tab.ps fields.tab.ps).bind fun y1=>some y1) (some false)) (some false)) (some false)) (some false)) (some false)) (some false)) (some false)
theorem Be   {n:Nd} {fields:Nd} {yR:Bool} (h:Bf  n fields=some yR):Pure P G 51 [.agg (Bl n),.agg (Bl fields)] (.sc (.bool yR)):=by
 unfold Bf at h
 refine BB Hd.mixed Hd.Aa (AB Tryz.func51 b51 ?_) (A2 (Al.GB n) (A2 (Al.GB fields) rfl)) rfl
 revert h
 refine Ae (fun hb1=>?_) fun hb1=>?_
 refine Ae (fun hb2=>?_) fun hb2=>?_
 let o1:List (PC P G):=[pn hb1,pn hb2]
 refine Ae (fun hb3=>?_) fun hb3=>?_
 refine Ae (fun hb4=>?_) fun hb4=>?_
 refine Ae (fun hb5=>?_) fun hb5=>?_
 refine Ae (fun hb6=>?_) fun hb6=>?_
 refine Ae (fun hb7=>?_) fun hb7=>?_
 refine Ah fun y1 hy1=>?_
 intro h
 have hE:=Option.some.inj h
 subst hE
 exact rS (Ab 300 (o1++[pn hb3,pn hb4,pn hb5,pn hb6,pb hb7,Ak (Oq hy1)])) (by kernel_rfl)
 rintro ⟨⟩
 exact rS (Ab 300 (o1++[pn hb3,pn hb4,pn hb5,pn hb6,pb hb7])) (by kernel_rfl)
 rintro ⟨⟩
 exact rS (Ab 300 (o1++[pn hb3,pn hb4,pn hb5,pn hb6])) (by kernel_rfl)
 rintro ⟨⟩
 exact rS (Ab 300 (o1++[pn hb3,pn hb4,pn hb5])) (by kernel_rfl)
 rintro ⟨⟩
 exact rS (Ab 300 (o1++[pn hb3,pn hb4])) (by kernel_rfl)
 rintro ⟨⟩
 exact rS (Ab 300 (o1++[pn hb3])) (by kernel_rfl)
 rintro ⟨⟩
 exact rS (Ab 300 [pn hb1,pn hb2]) (by kernel_rfl)
 rintro ⟨⟩
 exact rS (Ab 300 [pn hb1]) (by kernel_rfl)
noncomputable def lL:Code:=A3 Tryz.f113
theorem wH:Tryz.f113.body=some lL:=by kernel_rfl
noncomputable def Fi   (i0:Nat) (e0:UInt8) :Option (Lp Unit Unit Bool):=cond (F4 ((e0.toNat:Nat):Int) 65) (some (.rt false)) (cond (F4 90 ((e0.toNat:Nat):Int)) (some (.rt false)) (some (.nx ())))
noncomputable def Ev  (text:ByteArray):Option Bool:=cond (Bq ((text.data.toList.length:Nat):Int) 3) ((It text.data.toList.length (AL (fun i y x=>Fi   i y ) (fun x=>()) (text.data.toList.drop 0) 0 ())).bind (Ii (fun (_:Unit)=>some true) (fun v=>some v))) (some false)
theorem Lz   {text:ByteArray} {yR:Bool} (h:Ev  text=some yR):Pure P G 113 [.sc (.string text)] (.sc (.bool yR)):=by
 unfold Ev at h
 refine BB Hd.mixed Hd.Aa (AB Tryz.func113 wH ?_) (A2 rfl rfl) rfl
 revert h
 refine Ae (fun hb1=>?_) fun hb1=>?_
 refine Fb (fun Q v=>Fq P Tryz.f113 0 Q (.sc (.bool v))) (fun i0 (_:Unit) (j0:List Value)=>fr 23 [(0,.sc (.string text)),(8,.sc (.int .i64 ((text.data.toList.length:Nat):Int))),(9,.sc (.int .i64 ((i0:Nat):Int)))] [2,6,10,15,16,20,21] j0) (fun (_:Unit)=>⟨[],0,[],0⟩) (fun (_:Unit) (jx:List Value)=>fr 23 [] [2,6,10,15,16,20,21] jx) (fun (_:Unit)=>⟨[],0,[],0⟩) [.bool false,.bool false] (EO [] 0 (sb lL 116) [.code (sb lL 15)] (Ab 300 [pn hb1]) (by kernel_rfl)) ?_ ?_ ?_ (fun v h=>by cases h;exact .outer .body)
 rintro i0 ⟨⟩ j0 hge hq
 exact CT (Ab 300 [pb (Kz hge)]) (by kernel_rfl) (hq (js 7 j0 [(2,.bool false)]))
 rintro i0 e0 ⟨⟩ j0 r he0 hi0 mi0 k
 show Fi   i0 e0 =some r→_
 unfold Fi
 refine Ae (fun hb2=>?_) fun hb2=>?_
 rintro ⟨⟩
 exact AG _ _ (Ab 300 [pb (GD hi0),Sg (J8 he0),pb hb2]) (by kernel_rfl) (.GS k) .sc
 refine Ae (fun hb3=>?_) fun hb3=>?_
 rintro ⟨⟩
 exact AG _ _ (Ab 300 [pb (GD hi0),Sg (J8 he0),pb hb2,Sg (J8 he0),pb hb3]) (by kernel_rfl) (.GS k) .sc
 rintro ⟨⟩
 exact D6 (Ab 300 [pb (GD hi0),Sg (J8 he0),pb hb2,Sg (J8 he0),pb hb3,pi mi0]) (by kernel_rfl) (k [(jv j0 0),(jv j0 1),.bool true,.bool false,.bool false,.bool false,.bool false])
 rintro ⟨⟩ jx_1
 intro h
 have hE:=Option.some.inj h
 subst hE
 exact AG _ _ (Cc 300 []) (by kernel_rfl) .body .sc
 rintro ⟨⟩
 exact rS (Ab 300 [pn hb1]) (by kernel_rfl)
noncomputable def B76:Code:=A3 Tryz.f76
theorem b76:Tryz.f76.body=some B76:=by kernel_rfl
noncomputable def CW  (text:ByteArray):Option Bool:=cond (BA text.data.toList AO.data.toList) (some true) (cond (BA text.data.toList Bj.data.toList) (some true) (cond (BA text.data.toList B2.data.toList) (some true) ((Ev text).bind fun y1=>some y1)))
theorem Dk   {text:ByteArray} {yR:Bool} (h:CW  text=some yR):Pure P G 76 [.sc (.string text)] (.sc (.bool yR)):=by
 unfold CW at h
 refine BB Hd.mixed Hd.Aa (AB Tryz.func76 b76 ?_) (A2 rfl rfl) rfl
 revert h
 refine Ae (fun hb1=>?_) fun hb1=>?_
 rintro ⟨⟩
 exact rS (Ab 300 [pb hb1]) (by kernel_rfl)
 refine Ae (fun hb2=>?_) fun hb2=>?_
 rintro ⟨⟩
 exact rS (Ab 300 [pb hb1,pb hb2]) (by kernel_rfl)
 refine Ae (fun hb3=>?_) fun hb3=>?_
 rintro ⟨⟩
 exact rS (Ab 300 [pb hb1,pb hb2,pb hb3]) (by kernel_rfl)
 refine Ah fun y1 hy1=>?_
 intro h
 have hE:=Option.some.inj h
 subst hE
 exact rS (Ab 300 [pb hb1,pb hb2,pb hb3,Ak (Lz hy1)]) (by kernel_rfl)
noncomputable def u7:Code:=A3 Tryz.f114
theorem xF:Tryz.f114.body=some u7:=by kernel_rfl
noncomputable def Fl  (word:ByteArray):Option Bool:=cond (BA word.data.toList RC.data.toList) (some true) (cond (BA word.data.toList QG.data.toList) (some true) (cond (BA word.data.toList JY.data.toList) (some true) (cond (BA word.data.toList Xg.data.toList) (some true) (cond (BA word.data.toList Rf.data.toList) (some true) (cond (BA word.data.toList RB.data.toList) (some true) (cond (BA word.data.toList pT.data.toList) (some true) (cond (BA word.data.toList NP.data.toList) (some true) (cond (BA word.data.toList Rm.data.toList) (some true) (cond (BA word.data.toList Ly.data.toList) (some true) (cond (BA word.data.toList Li.data.toList) (some true) (cond (BA word.data.toList AO.data.toList) (some true) (cond (BA word.data.toList Bj.data.toList) (some true) (cond (BA word.data.toList B2.data.toList) (some true) (cond (BA word.data.toList Wh.data.toList) (some true) (cond (BA word.data.toList Ro.data.toList) (some true) (cond (BA word.data.toList Lj.data.toList) (some true) (cond (BA word.data.toList Nv.data.toList) (some true) (cond (BA word.data.toList Q2.data.toList) (some true) (cond (BA word.data.toList SO.data.toList) (some true) (cond (BA word.data.toList Iq.data.toList) (some true) (cond (BA word.data.toList Xa.data.toList) (some true) (cond (BA word.data.toList Tu.data.toList) (some true) (cond (BA word.data.toList QT.data.toList) (some true) (cond (BA word.data.toList NA.data.toList) (some true) (cond (BA word.data.toList Wt.data.toList) (some true) (cond (BA word.data.toList EX.data.toList) (some true) (cond (BA word.data.toList Ox.data.toList) (some true) (cond (BA word.data.toList Ip.data.toList) (some true) (cond (BA word.data.toList Ky.data.toList) (some true) (cond (BA word.data.toList Hm.data.toList) (some true) (cond (BA word.data.toList Er.data.toList) (some true) (cond (BA word.data.toList NS.data.toList) (some true) (some false)))))))))))))))))))))))))))))))))
theorem Jl   {word:ByteArray} {yR:Bool} (h:Fl  word=some yR):Pure P G 114 [.sc (.string word)] (.sc (.bool yR)):=by
 unfold Fl at h
 refine BB Hd.mixed Hd.Aa (AB Tryz.func114 xF ?_) (A2 rfl rfl) rfl
 revert h
 refine Ae (fun hb1=>?_) fun hb1=>?_
 rintro ⟨⟩
 exact rS (Ab 300 [pb hb1]) (by kernel_rfl)
 let o1:List (PC P G):=[pb hb1]
 refine Ae (fun hb2=>?_) fun hb2=>?_
 rintro ⟨⟩
 exact rS (Ab 300 (o1++[pb hb2])) (by kernel_rfl)
 let o2:List (PC P G):=o1++[pb hb2]
 refine Ae (fun hb3=>?_) fun hb3=>?_
 rintro ⟨⟩
 exact rS (Ab 300 (o2++[pb hb3])) (by kernel_rfl)
 let o3:List (PC P G):=o2++[pb hb3]
 refine Ae (fun hb4=>?_) fun hb4=>?_
 rintro ⟨⟩
 exact rS (Ab 300 (o3++[pb hb4])) (by kernel_rfl)
 let o4:List (PC P G):=o3++[pb hb4]
 refine Ae (fun hb5=>?_) fun hb5=>?_
 rintro ⟨⟩
 exact rS (Ab 300 (o4++[pb hb5])) (by kernel_rfl)
 let o5:List (PC P G):=o4++[pb hb5]
 refine Ae (fun hb6=>?_) fun hb6=>?_
 rintro ⟨⟩
 exact rS (Ab 300 (o5++[pb hb6])) (by kernel_rfl)
 let o6:List (PC P G):=o5++[pb hb6]
 refine Ae (fun hb7=>?_) fun hb7=>?_
 rintro ⟨⟩
 exact rS (Ab 300 (o6++[pb hb7])) (by kernel_rfl)
 let o7:List (PC P G):=o6++[pb hb7]
 refine Ae (fun hb8=>?_) fun hb8=>?_
 rintro ⟨⟩
 exact rS (Ab 300 (o7++[pb hb8])) (by kernel_rfl)
 let o8:List (PC P G):=o7++[pb hb8]
 refine Ae (fun hb9=>?_) fun hb9=>?_
 rintro ⟨⟩
 exact rS (Ab 300 (o8++[pb hb9])) (by kernel_rfl)
 let o9:List (PC P G):=o8++[pb hb9]
 refine Ae (fun hb10=>?_) fun hb10=>?_
 rintro ⟨⟩
 exact rS (Ab 300 (o9++[pb hb10])) (by kernel_rfl)
 let o10:List (PC P G):=o9++[pb hb10]
 refine Ae (fun hb11=>?_) fun hb11=>?_
 rintro ⟨⟩
 exact rS (Ab 300 (o10++[pb hb11])) (by kernel_rfl)
 let o11:List (PC P G):=o10++[pb hb11]
 refine Ae (fun hb12=>?_) fun hb12=>?_
 rintro ⟨⟩
 exact rS (Ab 300 (o11++[pb hb12])) (by kernel_rfl)
 let o12:List (PC P G):=o11++[pb hb12]
 refine Ae (fun hb13=>?_) fun hb13=>?_
 rintro ⟨⟩
 exact rS (Ab 300 (o12++[pb hb13])) (by kernel_rfl)
 let o13:List (PC P G):=o12++[pb hb13]
 refine Ae (fun hb14=>?_) fun hb14=>?_
 rintro ⟨⟩
 exact rS (Ab 300 (o13++[pb hb14])) (by kernel_rfl)
 let o14:List (PC P G):=o13++[pb hb14]
 refine Ae (fun hb15=>?_) fun hb15=>?_
 rintro ⟨⟩
 exact rS (Ab 300 (o14++[pb hb15])) (by kernel_rfl)
 let o15:List (PC P G):=o14++[pb hb15]
 refine Ae (fun hb16=>?_) fun hb16=>?_
 rintro ⟨⟩
 exact rS (Ab 300 (o15++[pb hb16])) (by kernel_rfl)
 let o16:List (PC P G):=o15++[pb hb16]
 refine Ae (fun hb17=>?_) fun hb17=>?_
 rintro ⟨⟩
 exact rS (Ab 300 (o16++[pb hb17])) (by kernel_rfl)
 let o17:List (PC P G):=o16++[pb hb17]
 refine Ae (fun hb18=>?_) fun hb18=>?_
 rintro ⟨⟩
 exact rS (Ab 300 (o17++[pb hb18])) (by kernel_rfl)
 let o18:List (PC P G):=o17++[pb hb18]
 refine Ae (fun hb19=>?_) fun hb19=>?_
 rintro ⟨⟩
 exact rS (Ab 300 (o18++[pb hb19])) (by kernel_rfl)
 let o19:List (PC P G):=o18++[pb hb19]
 refine Ae (fun hb20=>?_) fun hb20=>?_
 rintro ⟨⟩
 exact rS (Ab 300 (o19++[pb hb20])) (by kernel_rfl)
 let o20:List (PC P G):=o19++[pb hb20]
 refine Ae (fun hb21=>?_) fun hb21=>?_
 rintro ⟨⟩
 exact rS (Ab 300 (o20++[pb hb21])) (by kernel_rfl)
 let o21:List (PC P G):=o20++[pb hb21]
 refine Ae (fun hb22=>?_) fun hb22=>?_
 rintro ⟨⟩
 exact rS (Ab 300 (o21++[pb hb22])) (by kernel_rfl)
 let o22:List (PC P G):=o21++[pb hb22]
 refine Ae (fun hb23=>?_) fun hb23=>?_
 rintro ⟨⟩
 exact rS (Ab 300 (o22++[pb hb23])) (by kernel_rfl)
 let o23:List (PC P G):=o22++[pb hb23]
 refine Ae (fun hb24=>?_) fun hb24=>?_
 rintro ⟨⟩
 exact rS (Ab 300 (o23++[pb hb24])) (by kernel_rfl)
 let qH:List (PC P G):=o23++[pb hb24]
 refine Ae (fun hb25=>?_) fun hb25=>?_
 rintro ⟨⟩
 exact rS (Ab 300 (qH++[pb hb25])) (by kernel_rfl)
 refine Ae (fun hb26=>?_) fun hb26=>?_
 rintro ⟨⟩
 exact rS (Ab 300 (qH++[pb hb25,pb hb26])) (by kernel_rfl)
 let o25:List (PC P G):=qH++[pb hb25,pb hb26]
 refine Ae (fun hb27=>?_) fun hb27=>?_
 rintro ⟨⟩
 exact rS (Ab 300 (o25++[pb hb27])) (by kernel_rfl)
 refine Ae (fun hb28=>?_) fun hb28=>?_
 rintro ⟨⟩
 exact rS (Ab 300 (o25++[pb hb27,pb hb28])) (by kernel_rfl)
 let o26:List (PC P G):=o25++[pb hb27,pb hb28]
 refine Ae (fun hb29=>?_) fun hb29=>?_
 rintro ⟨⟩
 exact rS (Ab 300 (o26++[pb hb29])) (by kernel_rfl)
 refine Ae (fun hb30=>?_) fun hb30=>?_
 rintro ⟨⟩
 exact rS (Ab 300 (o26++[pb hb29,pb hb30])) (by kernel_rfl)
 refine Ae (fun hb31=>?_) fun hb31=>?_
 rintro ⟨⟩
 exact rS (Ab 300 (o26++[pb hb29,pb hb30,pb hb31])) (by kernel_rfl)
 refine Ae (fun hb32=>?_) fun hb32=>?_
 rintro ⟨⟩
 exact rS (Ab 300 (o26++[pb hb29,pb hb30,pb hb31,pb hb32])) (by kernel_rfl)
 refine Ae (fun hb33=>?_) fun hb33=>?_
 rintro ⟨⟩
 exact rS (Ab 300 (o26++[pb hb29,pb hb30,pb hb31,pb hb32,pb hb33])) (by kernel_rfl)
 rintro ⟨⟩
 exact rS (Ab 300 (o26++[pb hb29,pb hb30,pb hb31,pb hb32,pb hb33])) (by kernel_rfl)
noncomputable def wQ:Code:=A3 Tryz.f77
theorem b77:Tryz.f77.body=some wQ:=by kernel_rfl
noncomputable def EN   (i0:Nat) (e0:UInt8) :Option (Lp Unit Unit Bool):=cond (F4 ((e0.toNat:Nat):Int) 97) (cond (F4 ((e0.toNat:Nat):Int) 48) (some (.rt false)) (cond (F4 57 ((e0.toNat:Nat):Int)) (cond (Bq ((e0.toNat:Nat):Int) 95) (some (.nx ())) (some (.rt false))) (some (.nx ())))) (cond (F4 122 ((e0.toNat:Nat):Int)) (some (.rt false)) (some (.nx ())))
noncomputable def Cu  (text:ByteArray):Option Bool:=cond (BA text.data.toList ByteArray.empty.data.toList) (some false) (cond (F4 16 ((text.data.toList.length:Nat):Int)) (some false) ((text.data.toList[0]?).bind fun c1=>cond (F4 ((c1.toNat:Nat):Int) 97) (some false) (cond (F4 122 ((c1.toNat:Nat):Int)) (some false) ((Fl text).bind fun y2=>cond y2 (some false) ((It text.data.toList.length (AL (fun i y x=>EN   i y ) (fun x=>()) (text.data.toList.drop 0) 0 ())).bind (Ii (fun (_:Unit)=>some true) (fun v=>some v)))))))
theorem Ed   {text:ByteArray} {yR:Bool} (h:Cu  text=some yR):Pure P G 77 [.sc (.string text)] (.sc (.bool yR)):=by
 unfold Cu at h
 refine BB Hd.mixed Hd.Aa (AB Tryz.func77 b77 ?_) (A2 rfl rfl) rfl
 revert h
 refine Ae (fun hb1=>?_) fun hb1=>?_
 rintro ⟨⟩
 exact rS (Ab 300 [pb hb1]) (by kernel_rfl)
 refine Ae (fun hb2=>?_) fun hb2=>?_
 rintro ⟨⟩
 exact rS (Ab 300 [pb hb1,pb hb2]) (by kernel_rfl)
 refine Ah fun c1 hc1=>?_
 let o1:List (PC P G):=[pb hb1,pb hb2,Sg (J8 hc1)]
 refine Ae (fun hb3=>?_) fun hb3=>?_
 rintro ⟨⟩
 exact rS (Ab 300 (o1++[pb hb3])) (by kernel_rfl)
 refine Ae (fun hb4=>?_) fun hb4=>?_
 rintro ⟨⟩
 exact rS (Ab 300 (o1++[pb hb3,Sg (J8 hc1),pb hb4])) (by kernel_rfl)
 refine Ah fun y2 hy2=>?_
 refine Ae (fun hv=>?_) fun hv=>?_
 subst hv
 rintro ⟨⟩
 exact rS (Ab 300 (o1++[pb hb3,Sg (J8 hc1),pb hb4,Ak (Jl hy2)])) (by kernel_rfl)
 subst hv
 refine Fb (fun Q v=>Fq P Tryz.f77 0 Q (.sc (.bool v))) (fun i0 (_:Unit) (j0:List Value)=>fr 53 [(0,.sc (.string text)),(27,.sc (.int .i64 ((text.data.toList.length:Nat):Int))),(28,.sc (.int .i64 ((i0:Nat):Int)))] [2,6,7,10,11,12,15,16,17,20,21,22,24,25,29,35,36,38,39,40,42,43,45,46,47,48,50,51] j0) (fun (_:Unit)=>⟨[],0,[],0⟩) (fun (_:Unit) (jx:List Value)=>fr 53 [] [2,6,7,10,11,12,15,16,17,20,21,22,24,25,29,35,36,38,39,40,42,43,45,46,47,48,50,51] jx) (fun (_:Unit)=>⟨[],0,[],0⟩) [.bool false,.bool false,.bool false,.bool false,.bool false,.bool false,.bool false,.bool false,.bool false,.bool false,.bool false,.bool false,.bool false,.bool false] (EO [] 0 (sb wQ 116) [.code (sb wQ 15)] (Ab 300 (o1++[pb hb3,Sg (J8 hc1),pb hb4,Ak (Jl hy2)])) (by kernel_rfl)) ?_ ?_ ?_ (fun v h=>by cases h;exact .outer .body)
 rintro i0 ⟨⟩ j0 hge hq
 exact CT (Ab 300 [pb (Kz hge)]) (by kernel_rfl) (hq (js 28 j0 [(14,.bool false)]))
 rintro i0 e0 ⟨⟩ j0 r he0 hi0 mi0 k
 show EN   i0 e0 =some r→_
 unfold EN
 let o2:List (PC P G):=[pb (GD hi0),Sg (J8 he0)]
 refine Ae (fun hb5=>?_) fun hb5=>?_
 refine Ae (fun hb6=>?_) fun hb6=>?_
 rintro ⟨⟩
 exact AG _ _ (Ab 300 (o2++[pb hb5,pb hb6,pn (B:=Bq ((e0.toNat:Nat):Int) 95) (b:=false) (iJ (by have:=N0 hb5;have:=N0 hb6;omega))])) (by kernel_rfl) (.GS k) .sc
 refine Ae (fun hb7=>?_) fun hb7=>?_
 refine Ae (fun hb8=>?_) fun hb8=>?_
 rintro ⟨⟩
 exact D6 (Ab 300 (o2++[pb hb5,pb hb6,pb hb7,pn hb8,pi mi0])) (by kernel_rfl) (k (js 28 j0 [(14,.bool true),(15,.bool true),(16,.bool true),(17,undef),(18,.bool true),(19,.bool true),(20,.bool false),(21,.bool false),(22,.bool true),(23,.bool true),(24,.bool true),(25,.bool true),(26,.bool false),(27,.bool false)]))
 rintro ⟨⟩
 exact AG _ _ (Ab 300 (o2++[pb hb5,pb hb6,pb hb7,pn hb8])) (by kernel_rfl) (.GS k) .sc
 rintro ⟨⟩
 exact D6 (Ab 300 (o2++[pb hb5,pb hb6,pb hb7,pi mi0])) (by kernel_rfl) (k (js 28 j0 [(14,.bool true),(15,.bool true),(16,.bool true),(17,undef),(18,.bool true),(19,.bool true),(20,.bool false),(21,.bool false),(22,.bool false),(23,.bool false),(24,.bool false),(25,.bool false),(26,undef),(27,.bool false)]))
 refine Ae (fun hb9=>?_) fun hb9=>?_
 rintro ⟨⟩
 exact AG _ _ (Ab 300 (o2++[pb hb5,pb hb9,pb (B:=F4 ((e0.toNat:Nat):Int) 48) (b:=false) (hN (by have:=Yc hb5;have:=N0 hb9;omega)),pb (B:=F4 57 ((e0.toNat:Nat):Int)) (b:=true) (tL (by have:=Yc hb5;have:=N0 hb9;omega)),pn (B:=Bq ((e0.toNat:Nat):Int) 95) (b:=false) (iJ (by have:=Yc hb5;have:=N0 hb9;omega))])) (by kernel_rfl) (.GS k) .sc
 rintro ⟨⟩
 exact D6 (Ab 300 (o2++[pb hb5,pb hb9,pi mi0])) (by kernel_rfl) (k (js 28 j0 [(14,.bool true),(15,.bool false),(16,.bool false),(17,.bool false),(18,.bool false),(19,.bool false),(20,undef),(21,undef),(22,undef),(23,undef),(24,.bool false),(25,.bool false),(26,undef),(27,.bool false)]))
 rintro ⟨⟩ jx_3
 intro h
 have hE:=Option.some.inj h
 subst hE
 exact AG _ _ (Cc 300 []) (by kernel_rfl) .body .sc
noncomputable def B78:Code:=A3 Tryz.f78
theorem b78:Tryz.f78.body=some B78:=by kernel_rfl
noncomputable def Ci  (n:Int):Option Bool:=cond (KL 1 n) (cond (KL n 1000000) (some true) (some false)) (some false)
theorem DX   {n:Int} {yR:Bool} (h:Ci  n=some yR):Pure P G 78 [.sc (.int .i64 n)] (.sc (.bool yR)):=by
 unfold Ci at h
 refine BB Hd.mixed Hd.Aa (AB Tryz.func78 b78 ?_) (A2 rfl rfl) rfl
 revert h
 refine Ae (fun hb1=>?_) fun hb1=>?_
 refine Ae (fun hb2=>?_) fun hb2=>?_
 rintro ⟨⟩
 exact rS (Ab 300 [pb hb1,pb hb2]) (by kernel_rfl)
 rintro ⟨⟩
 exact rS (Ab 300 [pb hb1,pb hb2]) (by kernel_rfl)
 rintro ⟨⟩
 exact rS (Ab 300 [pb hb1]) (by kernel_rfl)
noncomputable def B79:Code:=A3 Tryz.f79
theorem b79:Tryz.f79.body=some B79:=by kernel_rfl
noncomputable def DD  (word:ByteArray):Option Bool:=cond (BA word.data.toList EX.data.toList) (some true) (cond (BA word.data.toList Ox.data.toList) (some true) (cond (BA word.data.toList Ip.data.toList) (some true) (cond (BA word.data.toList Ky.data.toList) (some true) (some false))))
theorem J9   {word:ByteArray} {yR:Bool} (h:DD  word=some yR):Pure P G 79 [.sc (.string word)] (.sc (.bool yR)):=by
 unfold DD at h
 refine BB Hd.mixed Hd.Aa (AB Tryz.func79 b79 ?_) (A2 rfl rfl) rfl
 revert h
 refine Ae (fun hb1=>?_) fun hb1=>?_
 rintro ⟨⟩
 exact rS (Ab 300 [pb hb1]) (by kernel_rfl)
 refine Ae (fun hb2=>?_) fun hb2=>?_
 rintro ⟨⟩
 exact rS (Ab 300 [pb hb1,pb hb2]) (by kernel_rfl)
 refine Ae (fun hb3=>?_) fun hb3=>?_
 rintro ⟨⟩
 exact rS (Ab 300 [pb hb1,pb hb2,pb hb3]) (by kernel_rfl)
 refine Ae (fun hb4=>?_) fun hb4=>?_
 rintro ⟨⟩
 exact rS (Ab 300 [pb hb1,pb hb2,pb hb3,pb hb4]) (by kernel_rfl)
 rintro ⟨⟩
 exact rS (Ab 300 [pb hb1,pb hb2,pb hb3,pb hb4]) (by kernel_rfl)
noncomputable def xB:Code:=A3 Tryz.f81
theorem b81:Tryz.f81.body=some xB:=by kernel_rfl
noncomputable def Em  (f:Fn) (i0:Nat) (e0:Pc) :Option (Lp Unit Unit Bool):=cond (F4 999999999999 e0.fr) (some (.rt false)) (cond (F4 0 ((i0:Nat):Int)) ((LC f.ps (RV ((i0:Nat):Int) 1)).bind fun x3=>cond (KL e0.fr x3.fr) (some (.rt false)) ((Qz e0.att f.den).bind fun z4=>cond (Bq z4 0) (cond (F4 (QA 999999999999 f.den) e0.att) (some (.rt false)) (cond (F4 e0.att (QA (-999999999999) f.den)) (some (.rt false)) (cond (F4 1000000 e0.slope) (some (.rt false)) (cond (F4 e0.slope (-1000000)) (some (.rt false)) (some (.nx ())))))) (some (.rt false)))) ((Qz e0.att f.den).bind fun z5=>cond (Bq z5 0) (cond (F4 (QA 999999999999 f.den) e0.att) (some (.rt false)) (cond (F4 e0.att (QA (-999999999999) f.den)) (some (.rt false)) (cond (F4 1000000 e0.slope) (some (.rt false)) (cond (F4 e0.slope (-1000000)) (some (.rt false)) (some (.nx ())))))) (some (.rt false))))
noncomputable def DT  (f:Fn):Option Bool:=(Ci f.den).bind fun y1=>cond y1 (cond (F4 ((f.ps.length:Nat):Int) 1) (some false) (cond (F4 64 ((f.ps.length:Nat):Int)) (some false) ((f.ps[0]?).bind fun x2=>cond (Bq x2.fr 0) ((It f.ps.length (AL (fun i y x=>Em  f i y ) (fun x=>()) (f.ps.drop 0) 0 ())).bind (Ii (fun (_:Unit)=>some true) (fun v=>some v))) (some false)))) (some false)
theorem E9   {f:Fn} {yR:Bool} (h:DT  f=some yR):Pure P G 81 [.agg (XA f)] (.sc (.bool yR)):=by
 unfold DT at h
 refine BB Hd.mixed Hd.Aa (AB Tryz.func81 b81 ?_) (A2 (O7.GB f) rfl) rfl
 revert h
 refine Ah fun y1 hy1=>?_
 let o1:List (PC P G):=[Ak (DX hy1)]
 refine Ae (fun hv=>?_) fun hv=>?_
 subst hv
 refine Ae (fun hb1=>?_) fun hb1=>?_
 rintro ⟨⟩
 exact rS (Ab 300 (o1++[pb hb1])) (by kernel_rfl)
 refine Ae (fun hb2=>?_) fun hb2=>?_
 rintro ⟨⟩
 exact rS (Ab 300 (o1++[pb hb1,pb hb2])) (by kernel_rfl)
 refine Ah fun x2 hx2=>?_
 refine Ae (fun hb3=>?_) fun hb3=>?_
 refine Fb (fun Q v=>Fq P Tryz.f81 0 Q (.sc (.bool v))) (fun i0 (_:Unit) (j0:List Value)=>fr 87 [(1,.ptr 0 0),(30,.sl .lost f.ps.length (rows El f.ps)),(31,.sc (.int .i64 ((f.ps.length:Nat):Int))),(32,.sc (.int .i64 ((i0:Nat):Int)))] [2,7,8,9,13,14,15,19,20,21,27,28,33,39,40,42,43,53,54,55,61,62,68,69,70,76,77,80,81,84,85] j0) (fun (_:Unit)=>⟨[(0,.cells (XA f))],1,[],0⟩) (fun (_:Unit) (jx:List Value)=>fr 87 [] [2,7,8,9,13,14,15,19,20,21,27,28,33,39,40,42,43,53,54,55,61,62,68,69,70,76,77,80,81,84,85] jx) (fun (_:Unit)=>⟨[(0,.cells (XA f))],1,[],0⟩) [.bool false,.bool true,.bool false,.bool false,.bool false,.bool false,.bool false,.bool false,.bool false,.bool false,.bool false,.bool false] (EO [] 0 (sb xB 116) [.code (sb xB 15)] (Ab 300 (o1++[pb hb1,pb hb2,Ct (T3 .lost hx2),pn hb3])) (by kernel_rfl)) ?_ ?_ ?_ (fun v h=>by cases h;exact .outer .body)
 rintro i0 ⟨⟩ j0 hge hq
 exact CT (Ab 300 [pb (Kz hge)]) (by kernel_rfl) (hq (js 31 j0 [(12,.bool false)]))
 rintro i0 e0 ⟨⟩ j0 r he0 hi0 mi0 k
 show Em  f i0 e0 =some r→_
 unfold Em
 let o2:List (PC P G):=[pb (GD hi0),Ct (T3 .lost he0)]
 refine Ae (fun hb4=>?_) fun hb4=>?_
 rintro ⟨⟩
 exact AG _ _ (Ab 300 (o2++[pb hb4])) (by kernel_rfl) (.GS k) .sc
 let o3:List (PC P G):=o2++[pb hb4]
 refine Ae (fun hb5=>?_) fun hb5=>?_
 refine Ah fun x3 hx3=>?_
 let o4:List (PC P G):=o3++[pb hb5,pk,Ct (ZU .lost hx3)]
 refine Ae (fun hb6=>?_) fun hb6=>?_
 rintro ⟨⟩
 exact AG _ _ (Ab 300 (o4++[pb hb6])) (by kernel_rfl) (.GS k) .sc
 refine Ah fun z4 hz4=>?_
 let o5:List (PC P G):=o4++[pb hb6,HY (SH hz4 (.tmp 57) (.tmp 59))]
 refine Ae (fun hb7=>?_) fun hb7=>?_
 refine Ae (fun hb8=>?_) fun hb8=>?_
 rintro ⟨⟩
 exact AG _ _ (Ab 300 (o5++[pn hb7,pk,pb hb8])) (by kernel_rfl) (.GS k) .sc
 refine Ae (fun hb9=>?_) fun hb9=>?_
 rintro ⟨⟩
 exact AG _ _ (Ab 300 (o5++[pn hb7,pk,pb hb8,pk,pb hb9])) (by kernel_rfl) (.GS k) .sc
 refine Ae (fun hb10=>?_) fun hb10=>?_
 rintro ⟨⟩
 exact AG _ _ (Ab 300 (o5++[pn hb7,pk,pb hb8,pk,pb hb9,pb hb10])) (by kernel_rfl) (.GS k) .sc
 refine Ae (fun hb11=>?_) fun hb11=>?_
 rintro ⟨⟩
 exact AG _ _ (Ab 300 (o5++[pn hb7,pk,pb hb8,pk,pb hb9,pb hb10,pb hb11])) (by kernel_rfl) (.GS k) .sc
 rintro ⟨⟩
 exact BJ Hd.Aa [fq (CS.B9 f.ps)] [bp (O7.pl f)] (Ab 300 (o5++[pn hb7,pk,pb hb8,pk,pb hb9,pb hb10,pb hb11,pi mi0])) (by kernel_rfl) (k (js 31 j0 [(12,.bool true),(13,.bool false),(14,.bool false),(15,.bool true),(16,.bool true),(17,.bool false),(18,.bool false),(19,.bool false),(20,.bool false),(21,.bool false),(22,.bool false),(23,.bool false),(24,.bool false),(25,.bool false),(26,.bool false),(27,.bool false),(28,.bool false),(29,.bool false),(30,.bool false)]))
 rintro ⟨⟩
 exact AG _ _ (Ab 300 (o5++[pn hb7])) (by kernel_rfl) (.GS k) .sc
 refine Ah fun z5 hz5=>?_
 let o6:List (PC P G):=o3++[pb hb5,HY (SH hz5 (.tmp 57) (.tmp 59))]
 refine Ae (fun hb12=>?_) fun hb12=>?_
 refine Ae (fun hb13=>?_) fun hb13=>?_
 rintro ⟨⟩
 exact AG _ _ (Ab 300 (o6++[pn hb12,pk,pb hb13])) (by kernel_rfl) (.GS k) .sc
 refine Ae (fun hb14=>?_) fun hb14=>?_
 rintro ⟨⟩
 exact AG _ _ (Ab 300 (o6++[pn hb12,pk,pb hb13,pk,pb hb14])) (by kernel_rfl) (.GS k) .sc
 refine Ae (fun hb15=>?_) fun hb15=>?_
 rintro ⟨⟩
 exact AG _ _ (Ab 300 (o6++[pn hb12,pk,pb hb13,pk,pb hb14,pb hb15])) (by kernel_rfl) (.GS k) .sc
 refine Ae (fun hb16=>?_) fun hb16=>?_
 rintro ⟨⟩
 exact AG _ _ (Ab 300 (o6++[pn hb12,pk,pb hb13,pk,pb hb14,pb hb15,pb hb16])) (by kernel_rfl) (.GS k) .sc
 rintro ⟨⟩
 exact BJ Hd.Aa [fq (CS.B9 f.ps)] [bp (O7.pl f)] (Ab 300 (o6++[pn hb12,pk,pb hb13,pk,pb hb14,pb hb15,pb hb16,pi mi0])) (by kernel_rfl) (k (js 31 j0 [(12,.bool true),(13,.bool false),(14,.bool false),(15,.bool false),(16,.bool false),(17,undef),(18,.bool false),(19,.bool false),(20,.bool false),(21,.bool false),(22,.bool false),(23,.bool false),(24,.bool false),(25,.bool false),(26,.bool false),(27,.bool false),(28,.bool false),(29,.bool false),(30,.bool false)]))
 rintro ⟨⟩
 exact AG _ _ (Ab 300 (o6++[pn hb12])) (by kernel_rfl) (.GS k) .sc
 rintro ⟨⟩ jx_6
 intro h
 have hE:=Option.some.inj h
 subst hE
 exact AG _ _ (Cc 300 []) (by kernel_rfl) .body .sc
 rintro ⟨⟩
 exact rS (Ab 300 (o1++[pb hb1,pb hb2,Ct (T3 .lost hx2),pn hb3])) (by kernel_rfl)
 subst hv
 rintro ⟨⟩
 exact rS (Ab 300 o1) (by kernel_rfl)
theorem AP {c:Ck} {n:Nd} {depth:Int} {yR:Bool} {qc_nodesR:Int} (hS:Sound P G (.call 49 [.ptr 0 0,.agg (Bl n),.sc (.int .i64 depth)] ⟨[(0,.cells (Fj c))],1,[],0⟩ (.ret (.sc (.bool yR))) ⟨[(0,.cells [.sc (.int .i64 qc_nodesR)])],1,[],0⟩)) (u0:Nat) (hnb:[u0].Nodup:=by decide) (hnt:([]:List Nat).Nodup:=by decide):Cd.ok P G (.callU 49 [.ptr u0 0,.agg (Bl n),.sc (.int .i64 depth)] (.ret (.sc (.bool yR))) [(u0,.cells (Fj c))] [] [(u0,.cells [.sc (.int .i64 qc_nodesR)])] []) :=
 DE (M:=[.cells (Fj c)]) (M2:=[.cells [.sc (.int .i64 qc_nodesR)]]) (T:=[]) (T2:=[]) (k:=1) (j:=0) Hd.Aa _ _ _ _ hS rfl rfl rfl rfl rfl hnb hnt rfl rfl (.cons (.cells (.pl (KD.pl c))) .nil) (.cons (.cells (.pl (A2 rfl rfl))) .nil) (.cons (.ptr (by decide)) (.cons (.pl (Al.GB n)) (.cons (.pl rfl) .nil))) (.pl rfl) (fun e he=>by simp only [List.mem_singleton] at he;subst he;exact (.arg (.here .ptr)))
theorem JN {c:Ck} {n:Nd} {depth:Int} {yR:Bool} {qc_nodesR:Int} (hS:Sound P G (.call 80 [.ptr 0 0,.agg (Bl n),.sc (.int .i64 depth)] ⟨[(0,.cells (Fj c))],1,[],0⟩ (.ret (.sc (.bool yR))) ⟨[(0,.cells [.sc (.int .i64 qc_nodesR)])],1,[],0⟩)) (u0:Nat) (hnb:[u0].Nodup:=by decide) (hnt:([]:List Nat).Nodup:=by decide):Cd.ok P G (.callU 80 [.ptr u0 0,.agg (Bl n),.sc (.int .i64 depth)] (.ret (.sc (.bool yR))) [(u0,.cells (Fj c))] [] [(u0,.cells [.sc (.int .i64 qc_nodesR)])] []) :=
 DE (M:=[.cells (Fj c)]) (M2:=[.cells [.sc (.int .i64 qc_nodesR)]]) (T:=[]) (T2:=[]) (k:=1) (j:=0) Hd.Aa _ _ _ _ hS rfl rfl rfl rfl rfl hnb hnt rfl rfl (.cons (.cells (.pl (KD.pl c))) .nil) (.cons (.cells (.pl (A2 rfl rfl))) .nil) (.cons (.ptr (by decide)) (.cons (.pl (Al.GB n)) (.cons (.pl rfl) .nil))) (.pl rfl) (fun e he=>by simp only [List.mem_singleton] at he;subst he;exact (.arg (.here .ptr)))
theorem GC {c:Ck} {n:Nd} {depth:Int} {yR:Bool} {qc_nodesR:Int} (hS:Sound P G (.call 115 [.ptr 0 0,.agg (Bl n),.sc (.int .i64 depth)] ⟨[(0,.cells (Fj c))],1,[],0⟩ (.ret (.sc (.bool yR))) ⟨[(0,.cells [.sc (.int .i64 qc_nodesR)])],1,[],0⟩)) (u0:Nat) (hnb:[u0].Nodup:=by decide) (hnt:([]:List Nat).Nodup:=by decide):Cd.ok P G (.callU 115 [.ptr u0 0,.agg (Bl n),.sc (.int .i64 depth)] (.ret (.sc (.bool yR))) [(u0,.cells (Fj c))] [] [(u0,.cells [.sc (.int .i64 qc_nodesR)])] []) :=
 DE (M:=[.cells (Fj c)]) (M2:=[.cells [.sc (.int .i64 qc_nodesR)]]) (T:=[]) (T2:=[]) (k:=1) (j:=0) Hd.Aa _ _ _ _ hS rfl rfl rfl rfl rfl hnb hnt rfl rfl (.cons (.cells (.pl (KD.pl c))) .nil) (.cons (.cells (.pl (A2 rfl rfl))) .nil) (.cons (.ptr (by decide)) (.cons (.pl (Al.GB n)) (.cons (.pl rfl) .nil))) (.pl rfl) (fun e he=>by simp only [List.mem_singleton] at he;subst he;exact (.arg (.here .ptr)))
theorem F3 {c:Ck} {list:(List Nd)} {depth:Int} {yR:Bool} {qc_nodesR:Int} (hS:Sound P G (.call 52 [.ptr 0 0,.sl .lost list.length (Ba list),.sc (.int .i64 depth),.fn (.func 49) [.ptr 0 0] []] ⟨[(0,.cells (Fj c))],1,[],0⟩ (.ret (.sc (.bool yR))) ⟨[(0,.cells [.sc (.int .i64 qc_nodesR)])],1,[],0⟩)) (u0:Nat) (hnb:[u0].Nodup:=by decide) (hnt:([]:List Nat).Nodup:=by decide):Cd.ok P G (.callU 52 [.ptr u0 0,.sl .lost list.length (Ba list),.sc (.int .i64 depth),.fn (.func 49) [.ptr u0 0] []] (.ret (.sc (.bool yR))) [(u0,.cells (Fj c))] [] [(u0,.cells [.sc (.int .i64 qc_nodesR)])] []) :=
 DE (M:=[.cells (Fj c)]) (M2:=[.cells [.sc (.int .i64 qc_nodesR)]]) (T:=[]) (T2:=[]) (k:=1) (j:=0) Hd.Aa _ _ _ _ hS rfl rfl rfl rfl rfl hnb hnt rfl rfl (.cons (.cells (.pl (KD.pl c))) .nil) (.cons (.cells (.pl (A2 rfl rfl))) .nil) (.cons (.ptr (by decide)) (.cons (.pl (Al.B9 list)) (.cons (.pl rfl) (.cons (.fn (.cons (.ptr (by decide)) .nil) (.pl rfl)) .nil)))) (.pl rfl) (fun e he=>by simp only [List.mem_singleton] at he;subst he;exact (.arg (.here .ptr)))
noncomputable def B49:Code:=A3 Tryz.f49
theorem b49:Tryz.f49.body=some B49:=by kernel_rfl
noncomputable def Cz (Aj:Ck→Nd→Int→Option (Bool×Int)) (Az:Ck→Nd→Int→Option (Bool×Int)) (AA:Ck→Nd→Int→Option (Bool×Int)) (Aq:Ck→(List Nd)→Int→Option (Bool×Int)) (c:Ck) (n:Nd) (depth:Int):Option (Bool×Int):=(Br c n depth).bind fun (y1a,y1b)=>cond y1a (cond (Bq n.kind 11) ((CW n.unit).bind fun y2=>cond y2 (cond (F4 n.n 0) (some (false,y1b)) (cond (F4 999999999999 n.n) (some (false,y1b)) (cond (BA n.unit.data.toList AO.data.toList) (cond (F4 1 n.n) (some (false,y1b)) (cond (Bq ((n.kids.length:Nat):Int) 0) ((Bf n (⟨0,ByteArray.empty,n.unit,n.n,0,0,0,(⟨0,[]⟩:Fn),[],0⟩:Nd)).bind fun y3=>some (y3,y1b)) (some (false,y1b)))) (cond (Bq ((n.kids.length:Nat):Int) 0) ((Bf n (⟨0,ByteArray.empty,n.unit,n.n,0,0,0,(⟨0,[]⟩:Fn),[],0⟩:Nd)).bind fun y4=>some (y4,y1b)) (some (false,y1b)))))) (some (false,y1b))) (cond (Bq n.kind 12) ((Cu n.name).bind fun y5=>cond y5 (cond (Bq ((n.kids.length:Nat):Int) 0) ((Bf n (⟨0,n.name,ByteArray.empty,0,0,0,0,(⟨0,[]⟩:Fn),[],0⟩:Nd)).bind fun y6=>some (y6,y1b)) (some (false,y1b))) (some (false,y1b))) (cond (Bq n.kind 13) ((Ci n.n).bind fun y7=>cond y7 (cond (Bq ((n.kids.length:Nat):Int) 0) ((Bf n (⟨0,ByteArray.empty,ByteArray.empty,n.n,0,0,0,(⟨0,[]⟩:Fn),[],0⟩:Nd)).bind fun y8=>some (y8,y1b)) (some (false,y1b))) (some (false,y1b))) (cond (Bq n.kind 14) ((DD n.name).bind fun y9=>cond y9 (cond (Bq ((n.kids.length:Nat):Int) 0) ((Bf n (⟨0,n.name,ByteArray.empty,0,0,0,0,(⟨0,[]⟩:Fn),[],0⟩:Nd)).bind fun y10=>some (y10,y1b)) (some (false,y1b))) (some (false,y1b))) (cond (Bq n.kind 15) (cond (Bq ((n.kids.length:Nat):Int) 1) ((Bf n (⟨0,ByteArray.empty,ByteArray.empty,0,0,0,0,(⟨0,[]⟩:Fn),[],0⟩:Nd)).bind fun y11=>cond y11 ((n.kids[0]?).bind fun x12=>(Aj (⟨y1b⟩:Ck) x12 (BH depth 1)).bind fun (y13a,y13b)=>some (y13a,y13b)) (some (false,y1b))) (some (false,y1b))) (cond (Bq n.kind 16) ((Bf n (⟨0,n.name,ByteArray.empty,0,0,0,0,(⟨0,[]⟩:Fn),[],0⟩:Nd)).bind fun y14=>cond y14 ((Az (⟨y1b⟩:Ck) n depth).bind fun (y15a,y15b)=>some (y15a,y15b)) (some (false,y1b))) (cond (Bq n.kind 17) (cond (BA n.name.data.toList Hm.data.toList) ((Bf n (⟨0,n.name,ByteArray.empty,0,0,0,0,(⟨0,[]⟩:Fn),[],0⟩:Nd)).bind fun y16=>cond y16 (cond (KL 2 ((n.kids.length:Nat):Int)) ((Aq (⟨y1b⟩:Ck) n.kids (BH depth 1)).bind fun (y17a,y17b)=>some (y17a,y17b)) (some (false,y1b))) (some (false,y1b))) (cond (BA n.name.data.toList Er.data.toList) ((Bf n (⟨0,n.name,ByteArray.empty,0,0,0,0,(⟨0,[]⟩:Fn),[],0⟩:Nd)).bind fun y18=>cond y18 (cond (KL 2 ((n.kids.length:Nat):Int)) ((Aq (⟨y1b⟩:Ck) n.kids (BH depth 1)).bind fun (y19a,y19b)=>some (y19a,y19b)) (some (false,y1b))) (some (false,y1b))) (some (false,y1b)))) (cond (Bq n.kind 18) ((Bf n (⟨0,ByteArray.empty,ByteArray.empty,0,0,0,0,n.tab,[],0⟩:Nd)).bind fun y20=>cond y20 ((DT n.tab).bind fun y21=>cond y21 (cond (Bq ((n.kids.length:Nat):Int) 1) ((n.kids[0]?).bind fun x22=>(Aj (⟨y1b⟩:Ck) x22 (BH depth 1)).bind fun (y23a,y23b)=>some (y23a,y23b)) (some (false,y1b))) (some (false,y1b))) (some (false,y1b))) (some (false,y1b)))))))))) (some (false,y1b))
theorem Jz (Aj:Ck→Nd→Int→Option (Bool×Int)) (Az:Ck→Nd→Int→Option (Bool×Int)) (AA:Ck→Nd→Int→Option (Bool×Int)) (Aq:Ck→(List Nd)→Int→Option (Bool×Int)) (AH:∀ {c:Ck} {n:Nd} {depth:Int} {yR:Bool} {qc_nodesR:Int},Aj c n depth=some (yR,qc_nodesR)→Sound P G (.call 49 [.ptr 0 0,.agg (Bl n),.sc (.int .i64 depth)] ⟨[(0,.cells (Fj c))],1,[],0⟩ (.ret (.sc (.bool yR))) ⟨[(0,.cells [.sc (.int .i64 qc_nodesR)])],1,[],0⟩)) (Df:∀ {c:Ck} {n:Nd} {depth:Int} {yR:Bool} {qc_nodesR:Int},Az c n depth=some (yR,qc_nodesR)→Sound P G (.call 80 [.ptr 0 0,.agg (Bl n),.sc (.int .i64 depth)] ⟨[(0,.cells (Fj c))],1,[],0⟩ (.ret (.sc (.bool yR))) ⟨[(0,.cells [.sc (.int .i64 qc_nodesR)])],1,[],0⟩)) (De:∀ {c:Ck} {n:Nd} {depth:Int} {yR:Bool} {qc_nodesR:Int},AA c n depth=some (yR,qc_nodesR)→Sound P G (.call 115 [.ptr 0 0,.agg (Bl n),.sc (.int .i64 depth)] ⟨[(0,.cells (Fj c))],1,[],0⟩ (.ret (.sc (.bool yR))) ⟨[(0,.cells [.sc (.int .i64 qc_nodesR)])],1,[],0⟩)) (Cf:∀ {c:Ck} {list:(List Nd)} {depth:Int} {yR:Bool} {qc_nodesR:Int},Aq c list depth=some (yR,qc_nodesR)→Sound P G (.call 52 [.ptr 0 0,.sl .lost list.length (Ba list),.sc (.int .i64 depth),.fn (.func 49) [.ptr 0 0] []] ⟨[(0,.cells (Fj c))],1,[],0⟩ (.ret (.sc (.bool yR))) ⟨[(0,.cells [.sc (.int .i64 qc_nodesR)])],1,[],0⟩)) {c:Ck} {n:Nd} {depth:Int} {yR:Bool} {qc_nodesR:Int} (h:Cz Aj Az AA Aq c n depth=some (yR,qc_nodesR)):Sound P G (.call 49 [.ptr 0 0,.agg (Bl n),.sc (.int .i64 depth)] ⟨[(0,.cells (Fj c))],1,[],0⟩ (.ret (.sc (.bool yR))) ⟨[(0,.cells [.sc (.int .i64 qc_nodesR)])],1,[],0⟩):=by
 unfold Cz at h
 refine DI Hd.mixed (AB Tryz.func49 b49 ?_)
 revert h
 refine Ah ?_
 rintro ⟨y1a,y1b⟩ hy1
 dsimp only
 let o1:List (PC P G):=[Ay (Da (CE hy1) 0)]
 refine Ae (fun hv=>?_) fun hv=>?_
 subst hv
 refine Ae (fun hb1=>?_) fun hb1=>?_
 refine Ah fun y2 hy2=>?_
 let o2:List (PC P G):=o1++[pb hb1,Ak (Dk hy2)]
 refine Ae (fun hv=>?_) fun hv=>?_
 subst hv
 refine Ae (fun hb2=>?_) fun hb2=>?_
 intro h
 have hE:=Option.some.inj h
 obtain ⟨hE0,hF0⟩:=Prod.mk.inj hE
 subst hE0 hF0
 exact An Hd.Aa _ _ [] [none] (Ab 300 (o2++[pb hb2])) (by kernel_rfl) .body
 refine Ae (fun hb3=>?_) fun hb3=>?_
 intro h
 have hE:=Option.some.inj h
 obtain ⟨hE0,hF0⟩:=Prod.mk.inj hE
 subst hE0 hF0
 exact An Hd.Aa _ _ [] [none] (Ab 300 (o2++[pb hb2,pb hb3])) (by kernel_rfl) .body
 refine Ae (fun hb4=>?_) fun hb4=>?_
 refine Ae (fun hb5=>?_) fun hb5=>?_
 intro h
 have hE:=Option.some.inj h
 obtain ⟨hE0,hF0⟩:=Prod.mk.inj hE
 subst hE0 hF0
 exact An Hd.Aa _ _ [] [none] (Ab 300 (o2++[pb hb2,pb hb3,pb hb4,pb hb5])) (by kernel_rfl) .body
 refine Ae (fun hb6=>?_) fun hb6=>?_
 refine Ah fun y3 hy3=>?_
 intro h
 have hE:=Option.some.inj h
 obtain ⟨hE0,hF0⟩:=Prod.mk.inj hE
 subst hE0 hF0
 exact An Hd.Aa _ _ [] [none] (Ab 300 (o2++[pb hb2,pb hb3,pb hb4,pb hb5,pb hb6,Eg (.r (.g (.r (.r (.r (.r (.r (.r (.r (.r (.z (.z (.r .nil))))))))))) .nil)) (Be hy3)])) (by kernel_rfl) .body
 intro h
 have hE:=Option.some.inj h
 obtain ⟨hE0,hF0⟩:=Prod.mk.inj hE
 subst hE0 hF0
 exact An Hd.Aa _ _ [] [none] (Ab 300 (o2++[pb hb2,pb hb3,pb hb4,pb hb5,pb hb6])) (by kernel_rfl) .body
 refine Ae (fun hb7=>?_) fun hb7=>?_
 refine Ah fun y4 hy4=>?_
 intro h
 have hE:=Option.some.inj h
 obtain ⟨hE0,hF0⟩:=Prod.mk.inj hE
 subst hE0 hF0
 exact An Hd.Aa _ _ [] [none] (Ab 300 (o2++[pb hb2,pb hb3,pb hb4,pb hb7,Eg (.r (.g (.r (.r (.r (.r (.r (.r (.r (.r (.z (.z (.r .nil))))))))))) .nil)) (Be hy4)])) (by kernel_rfl) .body
 intro h
 have hE:=Option.some.inj h
 obtain ⟨hE0,hF0⟩:=Prod.mk.inj hE
 subst hE0 hF0
 exact An Hd.Aa _ _ [] [none] (Ab 300 (o2++[pb hb2,pb hb3,pb hb4,pb hb7])) (by kernel_rfl) .body
 subst hv
 intro h
 have hE:=Option.some.inj h
 obtain ⟨hE0,hF0⟩:=Prod.mk.inj hE
 subst hE0 hF0
 exact An Hd.Aa _ _ [] [none] (Ab 300 o2) (by kernel_rfl) .body
 let o3:List (PC P G):=o1++[pb hb1]
 refine Ae (fun hb8=>?_) fun hb8=>?_
 refine Ah fun y5 hy5=>?_
 let o4:List (PC P G):=o3++[pb hb8,Ak (Ed hy5)]
 refine Ae (fun hv=>?_) fun hv=>?_
 subst hv
 refine Ae (fun hb9=>?_) fun hb9=>?_
 refine Ah fun y6 hy6=>?_
 intro h
 have hE:=Option.some.inj h
 obtain ⟨hE0,hF0⟩:=Prod.mk.inj hE
 subst hE0 hF0
 exact An Hd.Aa _ _ [] [none] (Ab 300 (o4++[pb hb9,Eg (.r (.g (.r (.r (.r (.r (.r (.r (.r (.r (.z (.z (.r .nil))))))))))) .nil)) (Be hy6)])) (by kernel_rfl) .body
 intro h
 have hE:=Option.some.inj h
 obtain ⟨hE0,hF0⟩:=Prod.mk.inj hE
 subst hE0 hF0
 exact An Hd.Aa _ _ [] [none] (Ab 300 (o4++[pb hb9])) (by kernel_rfl) .body
 subst hv
 intro h
 have hE:=Option.some.inj h
 obtain ⟨hE0,hF0⟩:=Prod.mk.inj hE
 subst hE0 hF0
 exact An Hd.Aa _ _ [] [none] (Ab 300 o4) (by kernel_rfl) .body
 let o5:List (PC P G):=o3++[pb hb8]
 refine Ae (fun hb10=>?_) fun hb10=>?_
 refine Ah fun y7 hy7=>?_
 let o6:List (PC P G):=o5++[pb hb10,Ak (DX hy7)]
 refine Ae (fun hv=>?_) fun hv=>?_
 subst hv
 refine Ae (fun hb11=>?_) fun hb11=>?_
 refine Ah fun y8 hy8=>?_
 intro h
 have hE:=Option.some.inj h
 obtain ⟨hE0,hF0⟩:=Prod.mk.inj hE
 subst hE0 hF0
 exact An Hd.Aa _ _ [] [none] (Ab 300 (o6++[pb hb11,Eg (.r (.g (.r (.r (.r (.r (.r (.r (.r (.r (.z (.z (.r .nil))))))))))) .nil)) (Be hy8)])) (by kernel_rfl) .body
 intro h
 have hE:=Option.some.inj h
 obtain ⟨hE0,hF0⟩:=Prod.mk.inj hE
 subst hE0 hF0
 exact An Hd.Aa _ _ [] [none] (Ab 300 (o6++[pb hb11])) (by kernel_rfl) .body
 subst hv
 intro h
 have hE:=Option.some.inj h
 obtain ⟨hE0,hF0⟩:=Prod.mk.inj hE
 subst hE0 hF0
 exact An Hd.Aa _ _ [] [none] (Ab 300 o6) (by kernel_rfl) .body
 let o7:List (PC P G):=o5++[pb hb10]
 refine Ae (fun hb12=>?_) fun hb12=>?_
 refine Ah fun y9 hy9=>?_
 let o8:List (PC P G):=o7++[pb hb12,Ak (J9 hy9)]
 refine Ae (fun hv=>?_) fun hv=>?_
 subst hv
 refine Ae (fun hb13=>?_) fun hb13=>?_
 refine Ah fun y10 hy10=>?_
 intro h
 have hE:=Option.some.inj h
 obtain ⟨hE0,hF0⟩:=Prod.mk.inj hE
 subst hE0 hF0
 exact An Hd.Aa _ _ [] [none] (Ab 300 (o8++[pb hb13,Eg (.r (.g (.r (.r (.r (.r (.r (.r (.r (.r (.z (.z (.r .nil))))))))))) .nil)) (Be hy10)])) (by kernel_rfl) .body
 intro h
 have hE:=Option.some.inj h
 obtain ⟨hE0,hF0⟩:=Prod.mk.inj hE
 subst hE0 hF0
 exact An Hd.Aa _ _ [] [none] (Ab 300 (o8++[pb hb13])) (by kernel_rfl) .body
 subst hv
 intro h
 have hE:=Option.some.inj h
 obtain ⟨hE0,hF0⟩:=Prod.mk.inj hE
 subst hE0 hF0
 exact An Hd.Aa _ _ [] [none] (Ab 300 o8) (by kernel_rfl) .body
 let o9:List (PC P G):=o7++[pb hb12]
 refine Ae (fun hb14=>?_) fun hb14=>?_
 refine Ae (fun hb15=>?_) fun hb15=>?_
 refine Ah fun y11 hy11=>?_
 let o10:List (PC P G):=o9++[pb hb14,pb hb15,Eg (.r (.g (.r (.r (.r (.r (.r (.r (.r (.r (.z (.z (.r .nil))))))))))) .nil)) (Be hy11)]
 refine Ae (fun hv=>?_) fun hv=>?_
 subst hv
 refine Ah fun x12 hx12=>?_
 refine Ah ?_
 rintro ⟨y13a,y13b⟩ hy13
 dsimp only
 intro h
 have hE:=Option.some.inj h
 obtain ⟨hE0,hF0⟩:=Prod.mk.inj hE
 subst hE0 hF0
 exact An Hd.Aa _ _ [] [none] (Ab 300 (o10++[Ct (BD .lost hx12),pk,Ay (AP (AH hy13) 0)])) (by kernel_rfl) .body
 subst hv
 intro h
 have hE:=Option.some.inj h
 obtain ⟨hE0,hF0⟩:=Prod.mk.inj hE
 subst hE0 hF0
 exact An Hd.Aa _ _ [] [none] (Ab 300 o10) (by kernel_rfl) .body
 intro h
 have hE:=Option.some.inj h
 obtain ⟨hE0,hF0⟩:=Prod.mk.inj hE
 subst hE0 hF0
 exact An Hd.Aa _ _ [] [none] (Ab 300 (o9++[pb hb14,pb hb15])) (by kernel_rfl) .body
 let o11:List (PC P G):=o9++[pb hb14]
 refine Ae (fun hb16=>?_) fun hb16=>?_
 refine Ah fun y14 hy14=>?_
 let o12:List (PC P G):=o11++[pb hb16,Eg (.r (.g (.r (.r (.r (.r (.r (.r (.r (.r (.z (.z (.r .nil))))))))))) .nil)) (Be hy14)]
 refine Ae (fun hv=>?_) fun hv=>?_
 subst hv
 refine Ah ?_
 rintro ⟨y15a,y15b⟩ hy15
 dsimp only
 intro h
 have hE:=Option.some.inj h
 obtain ⟨hE0,hF0⟩:=Prod.mk.inj hE
 subst hE0 hF0
 exact An Hd.Aa _ _ [] [none] (Ab 300 (o12++[Ay (JN (Df hy15) 0)])) (by kernel_rfl) .body
 subst hv
 intro h
 have hE:=Option.some.inj h
 obtain ⟨hE0,hF0⟩:=Prod.mk.inj hE
 subst hE0 hF0
 exact An Hd.Aa _ _ [] [none] (Ab 300 o12) (by kernel_rfl) .body
 let o13:List (PC P G):=o11++[pb hb16]
 refine Ae (fun hb17=>?_) fun hb17=>?_
 refine Ae (fun hb18=>?_) fun hb18=>?_
 refine Ah fun y16 hy16=>?_
 let o14:List (PC P G):=o13++[pb hb17,pb hb18,Eg (.r (.g (.r (.r (.r (.r (.r (.r (.r (.r (.z (.z (.r .nil))))))))))) .nil)) (Be hy16)]
 refine Ae (fun hv=>?_) fun hv=>?_
 subst hv
 refine Ae (fun hb19=>?_) fun hb19=>?_
 refine Ah ?_
 rintro ⟨y17a,y17b⟩ hy17
 dsimp only
 intro h
 have hE:=Option.some.inj h
 obtain ⟨hE0,hF0⟩:=Prod.mk.inj hE
 subst hE0 hF0
 exact An Hd.Aa _ _ [] [none] (Ab 300 (o14++[pb hb19,pk,Ay (F3 (Cf hy17) 0)])) (by kernel_rfl) .body
 intro h
 have hE:=Option.some.inj h
 obtain ⟨hE0,hF0⟩:=Prod.mk.inj hE
 subst hE0 hF0
 exact An Hd.Aa _ _ [] [none] (Ab 300 (o14++[pb hb19])) (by kernel_rfl) .body
 subst hv
 intro h
 have hE:=Option.some.inj h
 obtain ⟨hE0,hF0⟩:=Prod.mk.inj hE
 subst hE0 hF0
 exact An Hd.Aa _ _ [] [none] (Ab 300 o14) (by kernel_rfl) .body
 refine Ae (fun hb20=>?_) fun hb20=>?_
 refine Ah fun y18 hy18=>?_
 let o15:List (PC P G):=o13++[pb hb17,pb hb18,pb hb20,Eg (.r (.g (.r (.r (.r (.r (.r (.r (.r (.r (.z (.z (.r .nil))))))))))) .nil)) (Be hy18)]
 refine Ae (fun hv=>?_) fun hv=>?_
 subst hv
 refine Ae (fun hb21=>?_) fun hb21=>?_
 refine Ah ?_
 rintro ⟨y19a,y19b⟩ hy19
 dsimp only
 intro h
 have hE:=Option.some.inj h
 obtain ⟨hE0,hF0⟩:=Prod.mk.inj hE
 subst hE0 hF0
 exact An Hd.Aa _ _ [] [none] (Ab 300 (o15++[pb hb21,pk,Ay (F3 (Cf hy19) 0)])) (by kernel_rfl) .body
 intro h
 have hE:=Option.some.inj h
 obtain ⟨hE0,hF0⟩:=Prod.mk.inj hE
 subst hE0 hF0
 exact An Hd.Aa _ _ [] [none] (Ab 300 (o15++[pb hb21])) (by kernel_rfl) .body
 subst hv
 intro h
 have hE:=Option.some.inj h
 obtain ⟨hE0,hF0⟩:=Prod.mk.inj hE
 subst hE0 hF0
 exact An Hd.Aa _ _ [] [none] (Ab 300 o15) (by kernel_rfl) .body
 intro h
 have hE:=Option.some.inj h
 obtain ⟨hE0,hF0⟩:=Prod.mk.inj hE
 subst hE0 hF0
 exact An Hd.Aa _ _ [] [none] (Ab 300 (o13++[pb hb17,pb hb18,pb hb20])) (by kernel_rfl) .body
 refine Ae (fun hb22=>?_) fun hb22=>?_
 refine Ah fun y20 hy20=>?_
 let o16:List (PC P G):=o13++[pb hb17,pb hb22,Eg (.r (.g (.r (.r (.r (.r (.r (.r (.r (.r (.r (.z (.r .nil))))))))))) .nil)) (Be hy20)]
 refine Ae (fun hv=>?_) fun hv=>?_
 subst hv
 refine Ah fun y21 hy21=>?_
 refine Ae (fun hv=>?_) fun hv=>?_
 subst hv
 refine Ae (fun hb23=>?_) fun hb23=>?_
 refine Ah fun x22 hx22=>?_
 refine Ah ?_
 rintro ⟨y23a,y23b⟩ hy23
 dsimp only
 intro h
 have hE:=Option.some.inj h
 obtain ⟨hE0,hF0⟩:=Prod.mk.inj hE
 subst hE0 hF0
 exact An Hd.Aa _ _ [] [none] (Ab 300 (o16++[Ak (E9 hy21),pb hb23,Ct (BD .lost hx22),pk,Ay (AP (AH hy23) 0)])) (by kernel_rfl) .body
 intro h
 have hE:=Option.some.inj h
 obtain ⟨hE0,hF0⟩:=Prod.mk.inj hE
 subst hE0 hF0
 exact An Hd.Aa _ _ [] [none] (Ab 300 (o16++[Ak (E9 hy21),pb hb23])) (by kernel_rfl) .body
 subst hv
 intro h
 have hE:=Option.some.inj h
 obtain ⟨hE0,hF0⟩:=Prod.mk.inj hE
 subst hE0 hF0
 exact An Hd.Aa _ _ [] [none] (Ab 300 (o16++[Ak (E9 hy21)])) (by kernel_rfl) .body
 subst hv
 intro h
 have hE:=Option.some.inj h
 obtain ⟨hE0,hF0⟩:=Prod.mk.inj hE
 subst hE0 hF0
 exact An Hd.Aa _ _ [] [none] (Ab 300 o16) (by kernel_rfl) .body
 intro h
 have hE:=Option.some.inj h
 obtain ⟨hE0,hF0⟩:=Prod.mk.inj hE
 subst hE0 hF0
 exact An Hd.Aa _ _ [] [none] (Ab 300 (o13++[pb hb17,pb hb22])) (by kernel_rfl) .body
 subst hv
 intro h
 have hE:=Option.some.inj h
 obtain ⟨hE0,hF0⟩:=Prod.mk.inj hE
 subst hE0 hF0
 exact An Hd.Aa _ _ [] [none] (Ab 300 o1) (by kernel_rfl) .body
noncomputable def B80:Code:=A3 Tryz.f80
theorem b80:Tryz.f80.body=some B80:=by kernel_rfl
noncomputable def BM (Aj:Ck→Nd→Int→Option (Bool×Int)) (Az:Ck→Nd→Int→Option (Bool×Int)) (AA:Ck→Nd→Int→Option (Bool×Int)) (Aq:Ck→(List Nd)→Int→Option (Bool×Int)) (c:Ck) (n:Nd) (depth:Int):Option (Bool×Int):=cond (Bq ((n.kids.length:Nat):Int) 2) ((n.kids[0]?).bind fun x1=>(Aj c x1 (BH depth 1)).bind fun (y2a,y2b)=>cond y2a (cond (BA n.name.data.toList JD.data.toList) ((n.kids[1]?).bind fun x3=>(AA (⟨y2b⟩:Ck) x3 (BH depth 1)).bind fun (y4a,y4b)=>some (y4a,y4b)) (cond (BA n.name.data.toList SO.data.toList) ((n.kids[1]?).bind fun x5=>(Aj (⟨y2b⟩:Ck) x5 (BH depth 1)).bind fun (y6a,y6b)=>some (y6a,y6b)) (cond (BA n.name.data.toList Iq.data.toList) ((n.kids[1]?).bind fun x7=>(Aj (⟨y2b⟩:Ck) x7 (BH depth 1)).bind fun (y8a,y8b)=>some (y8a,y8b)) (cond (BA n.name.data.toList Ij.data.toList) ((n.kids[1]?).bind fun x9=>(Aj (⟨y2b⟩:Ck) x9 (BH depth 1)).bind fun (y10a,y10b)=>some (y10a,y10b)) (cond (BA n.name.data.toList Hh.data.toList) ((n.kids[1]?).bind fun x11=>(Aj (⟨y2b⟩:Ck) x11 (BH depth 1)).bind fun (y12a,y12b)=>some (y12a,y12b)) (cond (BA n.name.data.toList On.data.toList) ((n.kids[1]?).bind fun x13=>(Aj (⟨y2b⟩:Ck) x13 (BH depth 1)).bind fun (y14a,y14b)=>some (y14a,y14b)) (cond (BA n.name.data.toList Hp.data.toList) ((n.kids[1]?).bind fun x15=>(Aj (⟨y2b⟩:Ck) x15 (BH depth 1)).bind fun (y16a,y16b)=>some (y16a,y16b)) (cond (BA n.name.data.toList KK.data.toList) ((n.kids[1]?).bind fun x17=>(Aj (⟨y2b⟩:Ck) x17 (BH depth 1)).bind fun (y18a,y18b)=>some (y18a,y18b)) (cond (BA n.name.data.toList NW.data.toList) ((n.kids[1]?).bind fun x19=>(Aj (⟨y2b⟩:Ck) x19 (BH depth 1)).bind fun (y20a,y20b)=>some (y20a,y20b)) (cond (BA n.name.data.toList Om.data.toList) ((n.kids[1]?).bind fun x21=>(Aj (⟨y2b⟩:Ck) x21 (BH depth 1)).bind fun (y22a,y22b)=>some (y22a,y22b)) (cond (BA n.name.data.toList Tu.data.toList) ((n.kids[1]?).bind fun x23=>(Aj (⟨y2b⟩:Ck) x23 (BH depth 1)).bind fun (y24a,y24b)=>some (y24a,y24b)) (some (false,y2b))))))))))))) (some (false,y2b))) (some (false,c.nodes))
theorem I1 (Aj:Ck→Nd→Int→Option (Bool×Int)) (Az:Ck→Nd→Int→Option (Bool×Int)) (AA:Ck→Nd→Int→Option (Bool×Int)) (Aq:Ck→(List Nd)→Int→Option (Bool×Int)) (AH:∀ {c:Ck} {n:Nd} {depth:Int} {yR:Bool} {qc_nodesR:Int},Aj c n depth=some (yR,qc_nodesR)→Sound P G (.call 49 [.ptr 0 0,.agg (Bl n),.sc (.int .i64 depth)] ⟨[(0,.cells (Fj c))],1,[],0⟩ (.ret (.sc (.bool yR))) ⟨[(0,.cells [.sc (.int .i64 qc_nodesR)])],1,[],0⟩)) (Df:∀ {c:Ck} {n:Nd} {depth:Int} {yR:Bool} {qc_nodesR:Int},Az c n depth=some (yR,qc_nodesR)→Sound P G (.call 80 [.ptr 0 0,.agg (Bl n),.sc (.int .i64 depth)] ⟨[(0,.cells (Fj c))],1,[],0⟩ (.ret (.sc (.bool yR))) ⟨[(0,.cells [.sc (.int .i64 qc_nodesR)])],1,[],0⟩)) (De:∀ {c:Ck} {n:Nd} {depth:Int} {yR:Bool} {qc_nodesR:Int},AA c n depth=some (yR,qc_nodesR)→Sound P G (.call 115 [.ptr 0 0,.agg (Bl n),.sc (.int .i64 depth)] ⟨[(0,.cells (Fj c))],1,[],0⟩ (.ret (.sc (.bool yR))) ⟨[(0,.cells [.sc (.int .i64 qc_nodesR)])],1,[],0⟩)) (Cf:∀ {c:Ck} {list:(List Nd)} {depth:Int} {yR:Bool} {qc_nodesR:Int},Aq c list depth=some (yR,qc_nodesR)→Sound P G (.call 52 [.ptr 0 0,.sl .lost list.length (Ba list),.sc (.int .i64 depth),.fn (.func 49) [.ptr 0 0] []] ⟨[(0,.cells (Fj c))],1,[],0⟩ (.ret (.sc (.bool yR))) ⟨[(0,.cells [.sc (.int .i64 qc_nodesR)])],1,[],0⟩)) {c:Ck} {n:Nd} {depth:Int} {yR:Bool} {qc_nodesR:Int} (h:BM Aj Az AA Aq c n depth=some (yR,qc_nodesR)):Sound P G (.call 80 [.ptr 0 0,.agg (Bl n),.sc (.int .i64 depth)] ⟨[(0,.cells (Fj c))],1,[],0⟩ (.ret (.sc (.bool yR))) ⟨[(0,.cells [.sc (.int .i64 qc_nodesR)])],1,[],0⟩):=by
 unfold BM at h
 refine DI Hd.mixed (AB Tryz.func80 b80 ?_)
 revert h
 refine Ae (fun hb1=>?_) fun hb1=>?_
 refine Ah fun x1 hx1=>?_
 refine Ah ?_
 rintro ⟨y2a,y2b⟩ hy2
 dsimp only
 let o1:List (PC P G):=[pn hb1,Ct (BD .lost hx1),pk,Ay (AP (AH hy2) 0)]
 refine Ae (fun hv=>?_) fun hv=>?_
 subst hv
 refine Ae (fun hb2=>?_) fun hb2=>?_
 refine Ah fun x3 hx3=>?_
 refine Ah ?_
 rintro ⟨y4a,y4b⟩ hy4
 dsimp only
 intro h
 have hE:=Option.some.inj h
 obtain ⟨hE0,hF0⟩:=Prod.mk.inj hE
 subst hE0 hF0
 exact An Hd.Aa _ _ [] [none] (Ab 300 (o1++[pb hb2,Ct (BD .lost hx3),pk,Ay (GC (De hy4) 0)])) (by kernel_rfl) .body
 let o2:List (PC P G):=o1++[pb hb2]
 refine Ae (fun hb3=>?_) fun hb3=>?_
 refine Ah fun x5 hx5=>?_
 refine Ah ?_
 rintro ⟨y6a,y6b⟩ hy6
 dsimp only
 intro h
 have hE:=Option.some.inj h
 obtain ⟨hE0,hF0⟩:=Prod.mk.inj hE
 subst hE0 hF0
 exact An Hd.Aa _ _ [] [none] (Ab 300 (o2++[pb hb3,Ct (BD .lost hx5),pk,Ay (AP (AH hy6) 0)])) (by kernel_rfl) .body
 refine Ae (fun hb4=>?_) fun hb4=>?_
 refine Ah fun x7 hx7=>?_
 refine Ah ?_
 rintro ⟨y8a,y8b⟩ hy8
 dsimp only
 intro h
 have hE:=Option.some.inj h
 obtain ⟨hE0,hF0⟩:=Prod.mk.inj hE
 subst hE0 hF0
 exact An Hd.Aa _ _ [] [none] (Ab 300 (o2++[pb hb3,pb hb4,Ct (BD .lost hx7),pk,Ay (AP (AH hy8) 0)])) (by kernel_rfl) .body
 let o3:List (PC P G):=o2++[pb hb3,pb hb4]
 refine Ae (fun hb5=>?_) fun hb5=>?_
 refine Ah fun x9 hx9=>?_
 refine Ah ?_
 rintro ⟨y10a,y10b⟩ hy10
 dsimp only
 intro h
 have hE:=Option.some.inj h
 obtain ⟨hE0,hF0⟩:=Prod.mk.inj hE
 subst hE0 hF0
 exact An Hd.Aa _ _ [] [none] (Ab 300 (o3++[pb hb5,Ct (BD .lost hx9),pk,Ay (AP (AH hy10) 0)])) (by kernel_rfl) .body
 refine Ae (fun hb6=>?_) fun hb6=>?_
 refine Ah fun x11 hx11=>?_
 refine Ah ?_
 rintro ⟨y12a,y12b⟩ hy12
 dsimp only
 intro h
 have hE:=Option.some.inj h
 obtain ⟨hE0,hF0⟩:=Prod.mk.inj hE
 subst hE0 hF0
 exact An Hd.Aa _ _ [] [none] (Ab 300 (o3++[pb hb5,pb hb6,Ct (BD .lost hx11),pk,Ay (AP (AH hy12) 0)])) (by kernel_rfl) .body
 let o4:List (PC P G):=o3++[pb hb5,pb hb6]
 refine Ae (fun hb7=>?_) fun hb7=>?_
 refine Ah fun x13 hx13=>?_
 refine Ah ?_
 rintro ⟨y14a,y14b⟩ hy14
 dsimp only
 intro h
 have hE:=Option.some.inj h
 obtain ⟨hE0,hF0⟩:=Prod.mk.inj hE
 subst hE0 hF0
 exact An Hd.Aa _ _ [] [none] (Ab 300 (o4++[pb hb7,Ct (BD .lost hx13),pk,Ay (AP (AH hy14) 0)])) (by kernel_rfl) .body
 refine Ae (fun hb8=>?_) fun hb8=>?_
 refine Ah fun x15 hx15=>?_
 refine Ah ?_
 rintro ⟨y16a,y16b⟩ hy16
 dsimp only
 intro h
 have hE:=Option.some.inj h
 obtain ⟨hE0,hF0⟩:=Prod.mk.inj hE
 subst hE0 hF0
 exact An Hd.Aa _ _ [] [none] (Ab 300 (o4++[pb hb7,pb hb8,Ct (BD .lost hx15),pk,Ay (AP (AH hy16) 0)])) (by kernel_rfl) .body
 refine Ae (fun hb9=>?_) fun hb9=>?_
 refine Ah fun x17 hx17=>?_
 refine Ah ?_
 rintro ⟨y18a,y18b⟩ hy18
 dsimp only
 intro h
 have hE:=Option.some.inj h
 obtain ⟨hE0,hF0⟩:=Prod.mk.inj hE
 subst hE0 hF0
 exact An Hd.Aa _ _ [] [none] (Ab 300 (o4++[pb hb7,pb hb8,pb hb9,Ct (BD .lost hx17),pk,Ay (AP (AH hy18) 0)])) (by kernel_rfl) .body
 refine Ae (fun hb10=>?_) fun hb10=>?_
 refine Ah fun x19 hx19=>?_
 refine Ah ?_
 rintro ⟨y20a,y20b⟩ hy20
 dsimp only
 intro h
 have hE:=Option.some.inj h
 obtain ⟨hE0,hF0⟩:=Prod.mk.inj hE
 subst hE0 hF0
 exact An Hd.Aa _ _ [] [none] (Ab 300 (o4++[pb hb7,pb hb8,pb hb9,pb hb10,Ct (BD .lost hx19),pk,Ay (AP (AH hy20) 0)])) (by kernel_rfl) .body
 refine Ae (fun hb11=>?_) fun hb11=>?_
 refine Ah fun x21 hx21=>?_
 refine Ah ?_
 rintro ⟨y22a,y22b⟩ hy22
 dsimp only
 intro h
 have hE:=Option.some.inj h
 obtain ⟨hE0,hF0⟩:=Prod.mk.inj hE
 subst hE0 hF0
 exact An Hd.Aa _ _ [] [none] (Ab 300 (o4++[pb hb7,pb hb8,pb hb9,pb hb10,pb hb11,Ct (BD .lost hx21),pk,Ay (AP (AH hy22) 0)])) (by kernel_rfl) .body
 refine Ae (fun hb12=>?_) fun hb12=>?_
 refine Ah fun x23 hx23=>?_
 refine Ah ?_
 rintro ⟨y24a,y24b⟩ hy24
 dsimp only
 intro h
 have hE:=Option.some.inj h
 obtain ⟨hE0,hF0⟩:=Prod.mk.inj hE
 subst hE0 hF0
 exact An Hd.Aa _ _ [] [none] (Ab 300 (o4++[pb hb7,pb hb8,pb hb9,pb hb10,pb hb11,pb hb12,Ct (BD .lost hx23),pk,Ay (AP (AH hy24) 0)])) (by kernel_rfl) .body
 intro h
 have hE:=Option.some.inj h
 obtain ⟨hE0,hF0⟩:=Prod.mk.inj hE
 subst hE0 hF0
 exact An Hd.Aa _ _ [] [none] (Ab 300 (o4++[pb hb7,pb hb8,pb hb9,pb hb10,pb hb11,pb hb12])) (by kernel_rfl) .body
 subst hv
 intro h
 have hE:=Option.some.inj h
 obtain ⟨hE0,hF0⟩:=Prod.mk.inj hE
 subst hE0 hF0
 exact An Hd.Aa _ _ [] [none] (Ab 300 o1) (by kernel_rfl) .body
 intro h
 have hE:=Option.some.inj h
 obtain ⟨hE0,hF0⟩:=Prod.mk.inj hE
 subst hE0 hF0
 exact An Hd.Aa _ _ [] [bp (KD.pl c)] (Ab 300 [pn hb1]) (by kernel_rfl) .body
noncomputable def xH:Code:=A3 Tryz.f115
theorem xI:Tryz.f115.body=some xH:=by kernel_rfl
noncomputable def BK (Aj:Ck→Nd→Int→Option (Bool×Int)) (Az:Ck→Nd→Int→Option (Bool×Int)) (AA:Ck→Nd→Int→Option (Bool×Int)) (Aq:Ck→(List Nd)→Int→Option (Bool×Int)) (c:Ck) (n:Nd) (depth:Int):Option (Bool×Int):=(Aj c n depth).bind fun (y1a,y1b)=>cond y1a (cond (Bq n.kind 11) (cond (BA n.unit.data.toList Bj.data.toList) ((Ci n.n).bind fun y2=>some (y2,y1b)) (some (false,y1b))) (some (false,y1b))) (some (false,y1b))
theorem IY (Aj:Ck→Nd→Int→Option (Bool×Int)) (Az:Ck→Nd→Int→Option (Bool×Int)) (AA:Ck→Nd→Int→Option (Bool×Int)) (Aq:Ck→(List Nd)→Int→Option (Bool×Int)) (AH:∀ {c:Ck} {n:Nd} {depth:Int} {yR:Bool} {qc_nodesR:Int},Aj c n depth=some (yR,qc_nodesR)→Sound P G (.call 49 [.ptr 0 0,.agg (Bl n),.sc (.int .i64 depth)] ⟨[(0,.cells (Fj c))],1,[],0⟩ (.ret (.sc (.bool yR))) ⟨[(0,.cells [.sc (.int .i64 qc_nodesR)])],1,[],0⟩)) (Df:∀ {c:Ck} {n:Nd} {depth:Int} {yR:Bool} {qc_nodesR:Int},Az c n depth=some (yR,qc_nodesR)→Sound P G (.call 80 [.ptr 0 0,.agg (Bl n),.sc (.int .i64 depth)] ⟨[(0,.cells (Fj c))],1,[],0⟩ (.ret (.sc (.bool yR))) ⟨[(0,.cells [.sc (.int .i64 qc_nodesR)])],1,[],0⟩)) (De:∀ {c:Ck} {n:Nd} {depth:Int} {yR:Bool} {qc_nodesR:Int},AA c n depth=some (yR,qc_nodesR)→Sound P G (.call 115 [.ptr 0 0,.agg (Bl n),.sc (.int .i64 depth)] ⟨[(0,.cells (Fj c))],1,[],0⟩ (.ret (.sc (.bool yR))) ⟨[(0,.cells [.sc (.int .i64 qc_nodesR)])],1,[],0⟩)) (Cf:∀ {c:Ck} {list:(List Nd)} {depth:Int} {yR:Bool} {qc_nodesR:Int},Aq c list depth=some (yR,qc_nodesR)→Sound P G (.call 52 [.ptr 0 0,.sl .lost list.length (Ba list),.sc (.int .i64 depth),.fn (.func 49) [.ptr 0 0] []] ⟨[(0,.cells (Fj c))],1,[],0⟩ (.ret (.sc (.bool yR))) ⟨[(0,.cells [.sc (.int .i64 qc_nodesR)])],1,[],0⟩)) {c:Ck} {n:Nd} {depth:Int} {yR:Bool} {qc_nodesR:Int} (h:BK Aj Az AA Aq c n depth=some (yR,qc_nodesR)):Sound P G (.call 115 [.ptr 0 0,.agg (Bl n),.sc (.int .i64 depth)] ⟨[(0,.cells (Fj c))],1,[],0⟩ (.ret (.sc (.bool yR))) ⟨[(0,.cells [.sc (.int .i64 qc_nodesR)])],1,[],0⟩):=by
 unfold BK at h
 refine DI Hd.mixed (AB Tryz.func115 xI ?_)
 revert h
 refine Ah ?_
 rintro ⟨y1a,y1b⟩ hy1
 dsimp only
 let o1:List (PC P G):=[Ay (AP (AH hy1) 0)]
 refine Ae (fun hv=>?_) fun hv=>?_
 subst hv
 refine Ae (fun hb1=>?_) fun hb1=>?_
 refine Ae (fun hb2=>?_) fun hb2=>?_
 refine Ah fun y2 hy2=>?_
 intro h
 have hE:=Option.some.inj h
 obtain ⟨hE0,hF0⟩:=Prod.mk.inj hE
 subst hE0 hF0
 exact An Hd.Aa _ _ [] [none] (Ab 300 (o1++[pb hb1,pb hb2,Ak (DX hy2)])) (by kernel_rfl) .body
 intro h
 have hE:=Option.some.inj h
 obtain ⟨hE0,hF0⟩:=Prod.mk.inj hE
 subst hE0 hF0
 exact An Hd.Aa _ _ [] [none] (Ab 300 (o1++[pb hb1,pb hb2])) (by kernel_rfl) .body
 intro h
 have hE:=Option.some.inj h
 obtain ⟨hE0,hF0⟩:=Prod.mk.inj hE
 subst hE0 hF0
 exact An Hd.Aa _ _ [] [none] (Ab 300 (o1++[pb hb1])) (by kernel_rfl) .body
 subst hv
 intro h
 have hE:=Option.some.inj h
 obtain ⟨hE0,hF0⟩:=Prod.mk.inj hE
 subst hE0 hF0
 exact An Hd.Aa _ _ [] [none] (Ab 300 o1) (by kernel_rfl) .body
noncomputable def eF:Code:=A3 Tryz.f52
theorem uD:Tryz.f52.body=some eF:=by kernel_rfl
noncomputable def Ce (Aj:Ck→Nd→Int→Option (Bool×Int)) (Az:Ck→Nd→Int→Option (Bool×Int)) (AA:Ck→Nd→Int→Option (Bool×Int)) (Aq:Ck→(List Nd)→Int→Option (Bool×Int)) (depth:Int) (i0:Nat) (e0:Nd) (w0_0:Int):Option (Lp Int Int (Bool×Int)):=(Aj (⟨w0_0⟩:Ck) e0 depth).bind fun (y1a,y1b)=>cond y1a (some (.nx y1b)) (some (.rt (false,y1b)))
noncomputable def BT (Aj:Ck→Nd→Int→Option (Bool×Int)) (Az:Ck→Nd→Int→Option (Bool×Int)) (AA:Ck→Nd→Int→Option (Bool×Int)) (Aq:Ck→(List Nd)→Int→Option (Bool×Int)) (c:Ck) (list:(List Nd)) (depth:Int):Option (Bool×Int):=(It list.length (AL (fun i y x=>Ce Aj Az AA Aq depth i y x) (fun x=>x) (list.drop 0) 0 c.nodes)).bind (Ii (fun (w0_0_2:Int)=>some (true,w0_0_2)) (fun v=>some v))
theorem Is (Aj:Ck→Nd→Int→Option (Bool×Int)) (Az:Ck→Nd→Int→Option (Bool×Int)) (AA:Ck→Nd→Int→Option (Bool×Int)) (Aq:Ck→(List Nd)→Int→Option (Bool×Int)) (AH:∀ {c:Ck} {n:Nd} {depth:Int} {yR:Bool} {qc_nodesR:Int},Aj c n depth=some (yR,qc_nodesR)→Sound P G (.call 49 [.ptr 0 0,.agg (Bl n),.sc (.int .i64 depth)] ⟨[(0,.cells (Fj c))],1,[],0⟩ (.ret (.sc (.bool yR))) ⟨[(0,.cells [.sc (.int .i64 qc_nodesR)])],1,[],0⟩)) (Df:∀ {c:Ck} {n:Nd} {depth:Int} {yR:Bool} {qc_nodesR:Int},Az c n depth=some (yR,qc_nodesR)→Sound P G (.call 80 [.ptr 0 0,.agg (Bl n),.sc (.int .i64 depth)] ⟨[(0,.cells (Fj c))],1,[],0⟩ (.ret (.sc (.bool yR))) ⟨[(0,.cells [.sc (.int .i64 qc_nodesR)])],1,[],0⟩)) (De:∀ {c:Ck} {n:Nd} {depth:Int} {yR:Bool} {qc_nodesR:Int},AA c n depth=some (yR,qc_nodesR)→Sound P G (.call 115 [.ptr 0 0,.agg (Bl n),.sc (.int .i64 depth)] ⟨[(0,.cells (Fj c))],1,[],0⟩ (.ret (.sc (.bool yR))) ⟨[(0,.cells [.sc (.int .i64 qc_nodesR)])],1,[],0⟩)) (Cf:∀ {c:Ck} {list:(List Nd)} {depth:Int} {yR:Bool} {qc_nodesR:Int},Aq c list depth=some (yR,qc_nodesR)→Sound P G (.call 52 [.ptr 0 0,.sl .lost list.length (Ba list),.sc (.int .i64 depth),.fn (.func 49) [.ptr 0 0] []] ⟨[(0,.cells (Fj c))],1,[],0⟩ (.ret (.sc (.bool yR))) ⟨[(0,.cells [.sc (.int .i64 qc_nodesR)])],1,[],0⟩)) {c:Ck} {list:(List Nd)} {depth:Int} {yR:Bool} {qc_nodesR:Int} (h:BT Aj Az AA Aq c list depth=some (yR,qc_nodesR)):Sound P G (.call 52 [.ptr 0 0,.sl .lost list.length (Ba list),.sc (.int .i64 depth),.fn (.func 49) [.ptr 0 0] []] ⟨[(0,.cells (Fj c))],1,[],0⟩ (.ret (.sc (.bool yR))) ⟨[(0,.cells [.sc (.int .i64 qc_nodesR)])],1,[],0⟩):=by
 unfold BT at h
 refine DI Hd.mixed (AB Tryz.func52 uD ?_)
 revert h
 refine Fb (fun Q v=>Je P G Tryz.f52 1 ⟨[(0,.cells (Fj c))],1,[],0⟩ Q (.sc (.bool v.1)) ⟨[(0,.cells [.sc (.int .i64 v.2)])],1,[],0⟩) (fun i0 (w0_0:Int) (j0:List Value)=>fr 23 [(2,.sc (.int .i64 depth)),(3,.fn (.func 49) [.ptr 0 0] []),(11,.sl .lost list.length (Ba list)),(12,.sc (.int .i64 ((list.length:Nat):Int))),(13,.sc (.int .i64 ((i0:Nat):Int)))] [8,14,20,21] j0) (fun (w0_0:Int)=>⟨[(0,.cells [.sc (.int .i64 w0_0)])],1,[],0⟩) (fun (w0_0:Int) (jx:List Value)=>fr 23 [] [8,14,20,21] jx) (fun (w0_0:Int)=>⟨[(0,.cells [.sc (.int .i64 w0_0)])],1,[],0⟩) [.bool false] (EO [] 0 (sb eF 52) [.code (sb eF 7)] (Ab 300 []) (by kernel_rfl)) ?_ ?_ ?_ (fun v h=>by cases h;exact .outer .body)
 rintro i0 w0_0 j0 hge hq
 exact CT (Ab 300 [pb (Kz hge)]) (by kernel_rfl) (hq (js 4 j0 [(1,.bool false)]))
 rintro i0 e0 w0_0 j0 r he0 hi0 mi0 k
 show Ce Aj Az AA Aq depth i0 e0 w0_0=some r→_
 unfold Ce
 refine Ah ?_
 rintro ⟨y1a,y1b⟩ hy1
 dsimp only
 let o1:List (PC P G):=[pb (GD hi0),Ct (BD .lost he0),Ay (AP (AH hy1) 0)]
 refine Ae (fun hv=>?_) fun hv=>?_
 subst hv
 rintro ⟨⟩
 exact BJ Hd.Aa [fq (Al.B9 list)] [none] (Ab 300 (o1++[pi mi0])) (by kernel_rfl) (k [(jv j0 0),.bool true,.bool true,.bool false])
 subst hv
 rintro ⟨⟩
 exact An Hd.Aa _ _ [] [none] (Ab 300 o1) (by kernel_rfl) (.GS k)
 rintro w0_0_2 jx_2
 intro h
 have hE:=Option.some.inj h
 obtain ⟨hE0,hF0⟩:=Prod.mk.inj hE
 subst hE0 hF0
 exact An Hd.Aa _ _ [] [none] (Cc 300 []) (by kernel_rfl) .body
mutual
noncomputable def At:Nat→Ck→Nd→Int→Option (Bool×Int)
 | 0,_,_,_=>none
 | qn+1,c,n,depth=>Cz (At qn) (AE qn) (Aw qn) (As qn) c n depth
noncomputable def AE:Nat→Ck→Nd→Int→Option (Bool×Int)
 | 0,_,_,_=>none
 | qn+1,c,n,depth=>BM (At qn) (AE qn) (Aw qn) (As qn) c n depth
noncomputable def Aw:Nat→Ck→Nd→Int→Option (Bool×Int)
 | 0,_,_,_=>none
 | qn+1,c,n,depth=>BK (At qn) (AE qn) (Aw qn) (As qn) c n depth
noncomputable def As:Nat→Ck→(List Nd)→Int→Option (Bool×Int)
 | 0,_,_,_=>none
 | qn+1,c,list,depth=>BT (At qn) (AE qn) (Aw qn) (As qn) c list depth
end
theorem GA:∀ qn:Nat,(∀ {c:Ck} {n:Nd} {depth:Int} {yR:Bool} {qc_nodesR:Int},At qn c n depth=some (yR,qc_nodesR)→Sound P G (.call 49 [.ptr 0 0,.agg (Bl n),.sc (.int .i64 depth)] ⟨[(0,.cells (Fj c))],1,[],0⟩ (.ret (.sc (.bool yR))) ⟨[(0,.cells [.sc (.int .i64 qc_nodesR)])],1,[],0⟩))∧(∀ {c:Ck} {n:Nd} {depth:Int} {yR:Bool} {qc_nodesR:Int},AE qn c n depth=some (yR,qc_nodesR)→Sound P G (.call 80 [.ptr 0 0,.agg (Bl n),.sc (.int .i64 depth)] ⟨[(0,.cells (Fj c))],1,[],0⟩ (.ret (.sc (.bool yR))) ⟨[(0,.cells [.sc (.int .i64 qc_nodesR)])],1,[],0⟩))∧(∀ {c:Ck} {n:Nd} {depth:Int} {yR:Bool} {qc_nodesR:Int},Aw qn c n depth=some (yR,qc_nodesR)→Sound P G (.call 115 [.ptr 0 0,.agg (Bl n),.sc (.int .i64 depth)] ⟨[(0,.cells (Fj c))],1,[],0⟩ (.ret (.sc (.bool yR))) ⟨[(0,.cells [.sc (.int .i64 qc_nodesR)])],1,[],0⟩))∧(∀ {c:Ck} {list:(List Nd)} {depth:Int} {yR:Bool} {qc_nodesR:Int},As qn c list depth=some (yR,qc_nodesR)→Sound P G (.call 52 [.ptr 0 0,.sl .lost list.length (Ba list),.sc (.int .i64 depth),.fn (.func 49) [.ptr 0 0] []] ⟨[(0,.cells (Fj c))],1,[],0⟩ (.ret (.sc (.bool yR))) ⟨[(0,.cells [.sc (.int .i64 qc_nodesR)])],1,[],0⟩)):=by
 intro qn
 induction qn with
 | zero=>exact ⟨(fun h=>by simp only [At] at h;cases h),(fun h=>by simp only [AE] at h;cases h),(fun h=>by simp only [Aw] at h;cases h),(fun h=>by simp only [As] at h;cases h)⟩
 | succ qn ih=>exact ⟨(fun h=>Jz (At qn) (AE qn) (Aw qn) (As qn) ih.1 ih.2.1 ih.2.2.1 ih.2.2.2 (by rw [At] at h;exact h)),(fun h=>I1 (At qn) (AE qn) (Aw qn) (As qn) ih.1 ih.2.1 ih.2.2.1 ih.2.2.2 (by rw [AE] at h;exact h)),(fun h=>IY (At qn) (AE qn) (Aw qn) (As qn) ih.1 ih.2.1 ih.2.2.1 ih.2.2.2 (by rw [Aw] at h;exact h)),(fun h=>Is (At qn) (AE qn) (Aw qn) (As qn) ih.1 ih.2.1 ih.2.2.1 ih.2.2.2 (by rw [As] at h;exact h))⟩
noncomputable def D0 (c:Ck) (n:Nd) (depth:Int):Option (Bool×Int):=Xv (fun qn=>At qn c n depth)
theorem GJ {c:Ck} {n:Nd} {depth:Int} {yR:Bool} {qc_nodesR:Int} (h:D0 c n depth=some (yR,qc_nodesR)):Sound P G (.call 49 [.ptr 0 0,.agg (Bl n),.sc (.int .i64 depth)] ⟨[(0,.cells (Fj c))],1,[],0⟩ (.ret (.sc (.bool yR))) ⟨[(0,.cells [.sc (.int .i64 qc_nodesR)])],1,[],0⟩):=by
 obtain ⟨qn,h⟩:=UE h
 exact (GA qn).1 h
noncomputable def Dw (c:Ck) (n:Nd) (depth:Int):Option (Bool×Int):=Xv (fun qn=>Aw qn c n depth)
theorem Jw {c:Ck} {n:Nd} {depth:Int} {yR:Bool} {qc_nodesR:Int} (h:Dw c n depth=some (yR,qc_nodesR)):Sound P G (.call 115 [.ptr 0 0,.agg (Bl n),.sc (.int .i64 depth)] ⟨[(0,.cells (Fj c))],1,[],0⟩ (.ret (.sc (.bool yR))) ⟨[(0,.cells [.sc (.int .i64 qc_nodesR)])],1,[],0⟩):=by
 obtain ⟨qn,h⟩:=UE h
 exact (GA qn).2.2.1 h
noncomputable def wC:Code:=A3 Tryz.f116
theorem wK:Tryz.f116.body=some wC:=by kernel_rfl
noncomputable def DN  (day:Int):Option Bool:=cond (KL 0 day) (cond (KL day 36524) (some true) (some false)) (some false)
theorem F7   {day:Int} {yR:Bool} (h:DN  day=some yR):Pure P G 116 [.sc (.int .i64 day)] (.sc (.bool yR)):=by
 unfold DN at h
 refine BB Hd.mixed Hd.Aa (AB Tryz.func116 wK ?_) (A2 rfl rfl) rfl
 revert h
 refine Ae (fun hb1=>?_) fun hb1=>?_
 refine Ae (fun hb2=>?_) fun hb2=>?_
 rintro ⟨⟩
 exact rS (Ab 300 [pb hb1,pb hb2]) (by kernel_rfl)
 rintro ⟨⟩
 exact rS (Ab 300 [pb hb1,pb hb2]) (by kernel_rfl)
 rintro ⟨⟩
 exact rS (Ab 300 [pb hb1]) (by kernel_rfl)
noncomputable def B83:Code:=A3 Tryz.f83
theorem b83:Tryz.f83.body=some B83:=by kernel_rfl
noncomputable def C8  (c:Ck) (n:Nd) (depth:Int):Option (Bool×Int):=(Br c n depth).bind fun (y1a,y1b)=>cond y1a (cond (Bq n.kind 5) (cond (F4 n.n 0) (some (false,y1b)) (cond (F4 1000000 n.n) (some (false,y1b)) (cond (F4 0 ((n.kids.length:Nat):Int)) (some (false,y1b)) ((DN n.fr).bind fun y2=>cond y2 (cond (KL n.to n.fr) (some (false,y1b)) (cond (F4 36525 n.to) (some (false,y1b)) ((DN n.known).bind fun y3=>cond y3 ((Bf n (⟨0,ByteArray.empty,ByteArray.empty,n.n,n.fr,n.to,n.known,(⟨0,[]⟩:Fn),[],0⟩:Nd)).bind fun y4=>some (y4,y1b)) (some (false,y1b))))) (some (false,y1b)))))) (some (false,y1b))) (some (false,y1b))
theorem KJ {c:Ck} {n:Nd} {depth:Int} {yR:Bool} {qc_nodesR:Int} (hS:Sound P G (.call 83 [.ptr 0 0,.agg (Bl n),.sc (.int .i64 depth)] ⟨[(0,.cells (Fj c))],1,[],0⟩ (.ret (.sc (.bool yR))) ⟨[(0,.cells [.sc (.int .i64 qc_nodesR)])],1,[],0⟩)) (u0:Nat) (hnb:[u0].Nodup:=by decide) (hnt:([]:List Nat).Nodup:=by decide):Cd.ok P G (.callU 83 [.ptr u0 0,.agg (Bl n),.sc (.int .i64 depth)] (.ret (.sc (.bool yR))) [(u0,.cells (Fj c))] [] [(u0,.cells [.sc (.int .i64 qc_nodesR)])] []) :=
 DE (M:=[.cells (Fj c)]) (M2:=[.cells [.sc (.int .i64 qc_nodesR)]]) (T:=[]) (T2:=[]) (k:=1) (j:=0) Hd.Aa _ _ _ _ hS rfl rfl rfl rfl rfl hnb hnt rfl rfl (.cons (.cells (.pl (KD.pl c))) .nil) (.cons (.cells (.pl (A2 rfl rfl))) .nil) (.cons (.ptr (by decide)) (.cons (.pl (Al.GB n)) (.cons (.pl rfl) .nil))) (.pl rfl) (fun e he=>by simp only [List.mem_singleton] at he;subst he;exact (.arg (.here .ptr)))
theorem Jt   {c:Ck} {n:Nd} {depth:Int} {yR:Bool} {qc_nodesR:Int} (h:C8  c n depth=some (yR,qc_nodesR)):Sound P G (.call 83 [.ptr 0 0,.agg (Bl n),.sc (.int .i64 depth)] ⟨[(0,.cells (Fj c))],1,[],0⟩ (.ret (.sc (.bool yR))) ⟨[(0,.cells [.sc (.int .i64 qc_nodesR)])],1,[],0⟩):=by
 unfold C8 at h
 refine DI Hd.mixed (AB Tryz.func83 b83 ?_)
 revert h
 refine Ah ?_
 rintro ⟨y1a,y1b⟩ hy1
 dsimp only
 let o1:List (PC P G):=[Ay (Da (CE hy1) 0)]
 refine Ae (fun hv=>?_) fun hv=>?_
 subst hv
 refine Ae (fun hb1=>?_) fun hb1=>?_
 refine Ae (fun hb2=>?_) fun hb2=>?_
 intro h
 have hE:=Option.some.inj h
 obtain ⟨hE0,hF0⟩:=Prod.mk.inj hE
 subst hE0 hF0
 exact An Hd.Aa _ _ [] [none] (Ab 300 (o1++[pn hb1,pb hb2])) (by kernel_rfl) .body
 let o2:List (PC P G):=o1++[pn hb1,pb hb2]
 refine Ae (fun hb3=>?_) fun hb3=>?_
 intro h
 have hE:=Option.some.inj h
 obtain ⟨hE0,hF0⟩:=Prod.mk.inj hE
 subst hE0 hF0
 exact An Hd.Aa _ _ [] [none] (Ab 300 (o2++[pb hb3])) (by kernel_rfl) .body
 refine Ae (fun hb4=>?_) fun hb4=>?_
 intro h
 have hE:=Option.some.inj h
 obtain ⟨hE0,hF0⟩:=Prod.mk.inj hE
 subst hE0 hF0
 exact An Hd.Aa _ _ [] [none] (Ab 300 (o2++[pb hb3,pb hb4])) (by kernel_rfl) .body
 refine Ah fun y2 hy2=>?_
 let o3:List (PC P G):=o2++[pb hb3,pb hb4,Ak (F7 hy2)]
 refine Ae (fun hv=>?_) fun hv=>?_
 subst hv
 refine Ae (fun hb5=>?_) fun hb5=>?_
 intro h
 have hE:=Option.some.inj h
 obtain ⟨hE0,hF0⟩:=Prod.mk.inj hE
 subst hE0 hF0
 exact An Hd.Aa _ _ [] [none] (Ab 300 (o3++[pb hb5])) (by kernel_rfl) .body
 refine Ae (fun hb6=>?_) fun hb6=>?_
 intro h
 have hE:=Option.some.inj h
 obtain ⟨hE0,hF0⟩:=Prod.mk.inj hE
 subst hE0 hF0
 exact An Hd.Aa _ _ [] [none] (Ab 300 (o3++[pb hb5,pb hb6])) (by kernel_rfl) .body
 refine Ah fun y3 hy3=>?_
 refine Ae (fun hv=>?_) fun hv=>?_
 subst hv
 refine Ah fun y4 hy4=>?_
 intro h
 have hE:=Option.some.inj h
 obtain ⟨hE0,hF0⟩:=Prod.mk.inj hE
 subst hE0 hF0
 exact An Hd.Aa _ _ [] [none] (Ab 300 (o3++[pb hb5,pb hb6,Ak (F7 hy3),Eg (.r (.g (.r (.r (.r (.r (.r (.r (.r (.r (.z (.z (.r .nil))))))))))) .nil)) (Be hy4)])) (by kernel_rfl) .body
 subst hv
 intro h
 have hE:=Option.some.inj h
 obtain ⟨hE0,hF0⟩:=Prod.mk.inj hE
 subst hE0 hF0
 exact An Hd.Aa _ _ [] [none] (Ab 300 (o3++[pb hb5,pb hb6,Ak (F7 hy3)])) (by kernel_rfl) .body
 subst hv
 intro h
 have hE:=Option.some.inj h
 obtain ⟨hE0,hF0⟩:=Prod.mk.inj hE
 subst hE0 hF0
 exact An Hd.Aa _ _ [] [none] (Ab 300 o3) (by kernel_rfl) .body
 intro h
 have hE:=Option.some.inj h
 obtain ⟨hE0,hF0⟩:=Prod.mk.inj hE
 subst hE0 hF0
 exact An Hd.Aa _ _ [] [none] (Ab 300 (o1++[pn hb1])) (by kernel_rfl) .body
 subst hv
 intro h
 have hE:=Option.some.inj h
 obtain ⟨hE0,hF0⟩:=Prod.mk.inj hE
 subst hE0 hF0
 exact An Hd.Aa _ _ [] [none] (Ab 300 o1) (by kernel_rfl) .body
noncomputable def Dy  (depth:Int) (i0:Nat) (e0:Nd) (w0_0:Int):Option (Lp Int Int (Bool×Int)):=(Dw (⟨w0_0⟩:Ck) e0 depth).bind fun (y1a,y1b)=>cond y1a (some (.nx y1b)) (some (.rt (false,y1b)))
noncomputable def CP  (c:Ck) (list:(List Nd)) (depth:Int):Option (Bool×Int):=(It list.length (AL (fun i y x=>Dy  depth i y x) (fun x=>x) (list.drop 0) 0 c.nodes)).bind (Ii (fun (w0_0_2:Int)=>some (true,w0_0_2)) (fun v=>some v))
theorem IN {c:Ck} {list:(List Nd)} {depth:Int} {yR:Bool} {qc_nodesR:Int} (hS:Sound P G (.call 52 [.ptr 0 0,.sl .lost list.length (Ba list),.sc (.int .i64 depth),.fn (.func 115) [.ptr 0 0] []] ⟨[(0,.cells (Fj c))],1,[],0⟩ (.ret (.sc (.bool yR))) ⟨[(0,.cells [.sc (.int .i64 qc_nodesR)])],1,[],0⟩)) (u0:Nat) (hnb:[u0].Nodup:=by decide) (hnt:([]:List Nat).Nodup:=by decide):Cd.ok P G (.callU 52 [.ptr u0 0,.sl .lost list.length (Ba list),.sc (.int .i64 depth),.fn (.func 115) [.ptr u0 0] []] (.ret (.sc (.bool yR))) [(u0,.cells (Fj c))] [] [(u0,.cells [.sc (.int .i64 qc_nodesR)])] []) :=
 DE (M:=[.cells (Fj c)]) (M2:=[.cells [.sc (.int .i64 qc_nodesR)]]) (T:=[]) (T2:=[]) (k:=1) (j:=0) Hd.Aa _ _ _ _ hS rfl rfl rfl rfl rfl hnb hnt rfl rfl (.cons (.cells (.pl (KD.pl c))) .nil) (.cons (.cells (.pl (A2 rfl rfl))) .nil) (.cons (.ptr (by decide)) (.cons (.pl (Al.B9 list)) (.cons (.pl rfl) (.cons (.fn (.cons (.ptr (by decide)) .nil) (.pl rfl)) .nil)))) (.pl rfl) (fun e he=>by simp only [List.mem_singleton] at he;subst he;exact (.arg (.here .ptr)))
theorem Hs   {c:Ck} {list:(List Nd)} {depth:Int} {yR:Bool} {qc_nodesR:Int} (h:CP  c list depth=some (yR,qc_nodesR)):Sound P G (.call 52 [.ptr 0 0,.sl .lost list.length (Ba list),.sc (.int .i64 depth),.fn (.func 115) [.ptr 0 0] []] ⟨[(0,.cells (Fj c))],1,[],0⟩ (.ret (.sc (.bool yR))) ⟨[(0,.cells [.sc (.int .i64 qc_nodesR)])],1,[],0⟩):=by
 unfold CP at h
 refine DI Hd.mixed (AB Tryz.func52 uD ?_)
 revert h
 refine Fb (fun Q v=>Je P G Tryz.f52 1 ⟨[(0,.cells (Fj c))],1,[],0⟩ Q (.sc (.bool v.1)) ⟨[(0,.cells [.sc (.int .i64 v.2)])],1,[],0⟩) (fun i0 (w0_0:Int) (j0:List Value)=>fr 23 [(2,.sc (.int .i64 depth)),(3,.fn (.func 115) [.ptr 0 0] []),(11,.sl .lost list.length (Ba list)),(12,.sc (.int .i64 ((list.length:Nat):Int))),(13,.sc (.int .i64 ((i0:Nat):Int)))] [8,14,20,21] j0) (fun (w0_0:Int)=>⟨[(0,.cells [.sc (.int .i64 w0_0)])],1,[],0⟩) (fun (w0_0:Int) (jx:List Value)=>fr 23 [] [8,14,20,21] jx) (fun (w0_0:Int)=>⟨[(0,.cells [.sc (.int .i64 w0_0)])],1,[],0⟩) [.bool false] (EO [] 0 (sb eF 52) [.code (sb eF 7)] (Ab 300 []) (by kernel_rfl)) ?_ ?_ ?_ (fun v h=>by cases h;exact .outer .body)
 rintro i0 w0_0 j0 hge hq
 exact CT (Ab 300 [pb (Kz hge)]) (by kernel_rfl) (hq (js 4 j0 [(1,.bool false)]))
 rintro i0 e0 w0_0 j0 r he0 hi0 mi0 k
 show Dy  depth i0 e0 w0_0=some r→_
 unfold Dy
 refine Ah ?_
 rintro ⟨y1a,y1b⟩ hy1
 dsimp only
 let o1:List (PC P G):=[pb (GD hi0),Ct (BD .lost he0),Ay (GC (Jw hy1) 0)]
 refine Ae (fun hv=>?_) fun hv=>?_
 subst hv
 rintro ⟨⟩
 exact BJ Hd.Aa [fq (Al.B9 list)] [none] (Ab 300 (o1++[pi mi0])) (by kernel_rfl) (k [(jv j0 0),.bool true,.bool true,.bool false])
 subst hv
 rintro ⟨⟩
 exact An Hd.Aa _ _ [] [none] (Ab 300 o1) (by kernel_rfl) (.GS k)
 rintro w0_0_2 jx_2
 intro h
 have hE:=Option.some.inj h
 obtain ⟨hE0,hF0⟩:=Prod.mk.inj hE
 subst hE0 hF0
 exact An Hd.Aa _ _ [] [none] (Cc 300 []) (by kernel_rfl) .body
noncomputable def B84:Code:=A3 Tryz.f84
theorem b84:Tryz.f84.body=some B84:=by kernel_rfl
noncomputable def Ca  (c:Ck) (n:Nd) (depth:Int):Option (Bool×Int):=(Br c n depth).bind fun (y1a,y1b)=>cond y1a ((Bf n (⟨0,ByteArray.empty,ByteArray.empty,0,0,0,0,(⟨0,[]⟩:Fn),[],0⟩:Nd)).bind fun y2=>cond y2 (cond (Bq n.kind 7) (cond (F4 0 ((n.kids.length:Nat):Int)) ((CP (⟨y1b⟩:Ck) n.kids (BH depth 1)).bind fun (y3a,y3b)=>some (y3a,y3b)) (some (false,y1b))) (cond (Bq ((n.kids.length:Nat):Int) 1) ((n.kids[0]?).bind fun x4=>(D0 (⟨y1b⟩:Ck) x4 (BH depth 1)).bind fun (y5a,y5b)=>some (y5a,y5b)) (some (false,y1b)))) (some (false,y1b))) (some (false,y1b))
theorem JP {c:Ck} {n:Nd} {depth:Int} {yR:Bool} {qc_nodesR:Int} (hS:Sound P G (.call 84 [.ptr 0 0,.agg (Bl n),.sc (.int .i64 depth)] ⟨[(0,.cells (Fj c))],1,[],0⟩ (.ret (.sc (.bool yR))) ⟨[(0,.cells [.sc (.int .i64 qc_nodesR)])],1,[],0⟩)) (u0:Nat) (hnb:[u0].Nodup:=by decide) (hnt:([]:List Nat).Nodup:=by decide):Cd.ok P G (.callU 84 [.ptr u0 0,.agg (Bl n),.sc (.int .i64 depth)] (.ret (.sc (.bool yR))) [(u0,.cells (Fj c))] [] [(u0,.cells [.sc (.int .i64 qc_nodesR)])] []) :=
 DE (M:=[.cells (Fj c)]) (M2:=[.cells [.sc (.int .i64 qc_nodesR)]]) (T:=[]) (T2:=[]) (k:=1) (j:=0) Hd.Aa _ _ _ _ hS rfl rfl rfl rfl rfl hnb hnt rfl rfl (.cons (.cells (.pl (KD.pl c))) .nil) (.cons (.cells (.pl (A2 rfl rfl))) .nil) (.cons (.ptr (by decide)) (.cons (.pl (Al.GB n)) (.cons (.pl rfl) .nil))) (.pl rfl) (fun e he=>by simp only [List.mem_singleton] at he;subst he;exact (.arg (.here .ptr)))
theorem IS   {c:Ck} {n:Nd} {depth:Int} {yR:Bool} {qc_nodesR:Int} (h:Ca  c n depth=some (yR,qc_nodesR)):Sound P G (.call 84 [.ptr 0 0,.agg (Bl n),.sc (.int .i64 depth)] ⟨[(0,.cells (Fj c))],1,[],0⟩ (.ret (.sc (.bool yR))) ⟨[(0,.cells [.sc (.int .i64 qc_nodesR)])],1,[],0⟩):=by
 unfold Ca at h
 refine DI Hd.mixed (AB Tryz.func84 b84 ?_)
 revert h
 refine Ah ?_
 rintro ⟨y1a,y1b⟩ hy1
 dsimp only
 let o1:List (PC P G):=[Ay (Da (CE hy1) 0)]
 refine Ae (fun hv=>?_) fun hv=>?_
 subst hv
 refine Ah fun y2 hy2=>?_
 let o2:List (PC P G):=o1++[Eg (.r (.g (.r (.r (.r (.r (.r (.r (.r (.r (.z (.z (.r .nil))))))))))) .nil)) (Be hy2)]
 refine Ae (fun hv=>?_) fun hv=>?_
 subst hv
 refine Ae (fun hb1=>?_) fun hb1=>?_
 refine Ae (fun hb2=>?_) fun hb2=>?_
 refine Ah ?_
 rintro ⟨y3a,y3b⟩ hy3
 dsimp only
 intro h
 have hE:=Option.some.inj h
 obtain ⟨hE0,hF0⟩:=Prod.mk.inj hE
 subst hE0 hF0
 exact An Hd.Aa _ _ [] [none] (Ab 300 (o2++[pb hb1,pb hb2,pk,Ay (IN (Hs hy3) 0)])) (by kernel_rfl) .body
 intro h
 have hE:=Option.some.inj h
 obtain ⟨hE0,hF0⟩:=Prod.mk.inj hE
 subst hE0 hF0
 exact An Hd.Aa _ _ [] [none] (Ab 300 (o2++[pb hb1,pb hb2])) (by kernel_rfl) .body
 refine Ae (fun hb3=>?_) fun hb3=>?_
 refine Ah fun x4 hx4=>?_
 refine Ah ?_
 rintro ⟨y5a,y5b⟩ hy5
 dsimp only
 intro h
 have hE:=Option.some.inj h
 obtain ⟨hE0,hF0⟩:=Prod.mk.inj hE
 subst hE0 hF0
 exact An Hd.Aa _ _ [] [none] (Ab 300 (o2++[pb hb1,pb hb3,Ct (BD .lost hx4),pk,Ay (AP (GJ hy5) 0)])) (by kernel_rfl) .body
 intro h
 have hE:=Option.some.inj h
 obtain ⟨hE0,hF0⟩:=Prod.mk.inj hE
 subst hE0 hF0
 exact An Hd.Aa _ _ [] [none] (Ab 300 (o2++[pb hb1,pb hb3])) (by kernel_rfl) .body
 subst hv
 intro h
 have hE:=Option.some.inj h
 obtain ⟨hE0,hF0⟩:=Prod.mk.inj hE
 subst hE0 hF0
 exact An Hd.Aa _ _ [] [none] (Ab 300 o2) (by kernel_rfl) .body
 subst hv
 intro h
 have hE:=Option.some.inj h
 obtain ⟨hE0,hF0⟩:=Prod.mk.inj hE
 subst hE0 hF0
 exact An Hd.Aa _ _ [] [none] (Ab 300 o1) (by kernel_rfl) .body
noncomputable def Dx  (depth:Int) (i0:Nat) (e0:Nd) (w0_0:Int):Option (Lp Int Int (Bool×Int)):=(Ca (⟨w0_0⟩:Ck) e0 depth).bind fun (y1a,y1b)=>cond y1a (some (.nx y1b)) (some (.rt (false,y1b)))
noncomputable def CO  (c:Ck) (list:(List Nd)) (depth:Int):Option (Bool×Int):=(It list.length (AL (fun i y x=>Dx  depth i y x) (fun x=>x) (list.drop 0) 0 c.nodes)).bind (Ii (fun (w0_0_2:Int)=>some (true,w0_0_2)) (fun v=>some v))
theorem IF {c:Ck} {list:(List Nd)} {depth:Int} {yR:Bool} {qc_nodesR:Int} (hS:Sound P G (.call 52 [.ptr 0 0,.sl .lost list.length (Ba list),.sc (.int .i64 depth),.fn (.func 84) [.ptr 0 0] []] ⟨[(0,.cells (Fj c))],1,[],0⟩ (.ret (.sc (.bool yR))) ⟨[(0,.cells [.sc (.int .i64 qc_nodesR)])],1,[],0⟩)) (u0:Nat) (hnb:[u0].Nodup:=by decide) (hnt:([]:List Nat).Nodup:=by decide):Cd.ok P G (.callU 52 [.ptr u0 0,.sl .lost list.length (Ba list),.sc (.int .i64 depth),.fn (.func 84) [.ptr u0 0] []] (.ret (.sc (.bool yR))) [(u0,.cells (Fj c))] [] [(u0,.cells [.sc (.int .i64 qc_nodesR)])] []) :=
 DE (M:=[.cells (Fj c)]) (M2:=[.cells [.sc (.int .i64 qc_nodesR)]]) (T:=[]) (T2:=[]) (k:=1) (j:=0) Hd.Aa _ _ _ _ hS rfl rfl rfl rfl rfl hnb hnt rfl rfl (.cons (.cells (.pl (KD.pl c))) .nil) (.cons (.cells (.pl (A2 rfl rfl))) .nil) (.cons (.ptr (by decide)) (.cons (.pl (Al.B9 list)) (.cons (.pl rfl) (.cons (.fn (.cons (.ptr (by decide)) .nil) (.pl rfl)) .nil)))) (.pl rfl) (fun e he=>by simp only [List.mem_singleton] at he;subst he;exact (.arg (.here .ptr)))
theorem Hr   {c:Ck} {list:(List Nd)} {depth:Int} {yR:Bool} {qc_nodesR:Int} (h:CO  c list depth=some (yR,qc_nodesR)):Sound P G (.call 52 [.ptr 0 0,.sl .lost list.length (Ba list),.sc (.int .i64 depth),.fn (.func 84) [.ptr 0 0] []] ⟨[(0,.cells (Fj c))],1,[],0⟩ (.ret (.sc (.bool yR))) ⟨[(0,.cells [.sc (.int .i64 qc_nodesR)])],1,[],0⟩):=by
 unfold CO at h
 refine DI Hd.mixed (AB Tryz.func52 uD ?_)
 revert h
 refine Fb (fun Q v=>Je P G Tryz.f52 1 ⟨[(0,.cells (Fj c))],1,[],0⟩ Q (.sc (.bool v.1)) ⟨[(0,.cells [.sc (.int .i64 v.2)])],1,[],0⟩) (fun i0 (w0_0:Int) (j0:List Value)=>fr 23 [(2,.sc (.int .i64 depth)),(3,.fn (.func 84) [.ptr 0 0] []),(11,.sl .lost list.length (Ba list)),(12,.sc (.int .i64 ((list.length:Nat):Int))),(13,.sc (.int .i64 ((i0:Nat):Int)))] [8,14,20,21] j0) (fun (w0_0:Int)=>⟨[(0,.cells [.sc (.int .i64 w0_0)])],1,[],0⟩) (fun (w0_0:Int) (jx:List Value)=>fr 23 [] [8,14,20,21] jx) (fun (w0_0:Int)=>⟨[(0,.cells [.sc (.int .i64 w0_0)])],1,[],0⟩) [.bool false] (EO [] 0 (sb eF 52) [.code (sb eF 7)] (Ab 300 []) (by kernel_rfl)) ?_ ?_ ?_ (fun v h=>by cases h;exact .outer .body)
 rintro i0 w0_0 j0 hge hq
 exact CT (Ab 300 [pb (Kz hge)]) (by kernel_rfl) (hq (js 4 j0 [(1,.bool false)]))
 rintro i0 e0 w0_0 j0 r he0 hi0 mi0 k
 show Dx  depth i0 e0 w0_0=some r→_
 unfold Dx
 refine Ah ?_
 rintro ⟨y1a,y1b⟩ hy1
 dsimp only
 let o1:List (PC P G):=[pb (GD hi0),Ct (BD .lost he0),Ay (JP (IS hy1) 0)]
 refine Ae (fun hv=>?_) fun hv=>?_
 subst hv
 rintro ⟨⟩
 exact BJ Hd.Aa [fq (Al.B9 list)] [none] (Ab 300 (o1++[pi mi0])) (by kernel_rfl) (k [(jv j0 0),.bool true,.bool true,.bool false])
 subst hv
 rintro ⟨⟩
 exact An Hd.Aa _ _ [] [none] (Ab 300 o1) (by kernel_rfl) (.GS k)
 rintro w0_0_2 jx_2
 intro h
 have hE:=Option.some.inj h
 obtain ⟨hE0,hF0⟩:=Prod.mk.inj hE
 subst hE0 hF0
 exact An Hd.Aa _ _ [] [none] (Cc 300 []) (by kernel_rfl) .body
noncomputable def uQ:Code:=A3 Tryz.f53
theorem b53:Tryz.f53.body=some uQ:=by kernel_rfl
noncomputable def Cp  (y1b:Int) (i0:Nat) (e0:Nd) (w2_6:Int) (w2_7:Int) (w2_8:Int):Option (Lp (Int×Int×Int) (Int×Int×Int) (Bool×Int)):=cond (F4 e0.kind 6) (some (.rt (false,y1b))) (cond (F4 8 e0.kind) (some (.rt (false,y1b))) (cond (Bq e0.kind 6) (some (.nx ((BH w2_6 1),w2_7,w2_8))) (cond (Bq e0.kind 7) (some (.nx (w2_6,(BH w2_7 1),w2_8))) (cond (Bq e0.kind 8) (some (.nx (w2_6,w2_7,(BH w2_8 1)))) (none)))))
noncomputable def Cw  (c:Ck) (n:Nd) (depth:Int):Option (Bool×Int):=(Br c n depth).bind fun (y1a,y1b)=>cond y1a (cond (Bq n.kind 2) ((Cu n.name).bind fun y2=>cond y2 ((CW n.unit).bind fun y3=>cond y3 (cond (Bq ((n.kids.length:Nat):Int) 0) ((Bf n (⟨0,n.name,n.unit,0,0,0,0,(⟨0,[]⟩:Fn),[],0⟩:Nd)).bind fun y4=>some (y4,y1b)) (some (false,y1b))) (some (false,y1b))) (some (false,y1b))) (cond (Bq n.kind 3) ((Cu n.name).bind fun y5=>cond y5 ((CW n.unit).bind fun y6=>cond y6 (cond (KL 1 n.n) (cond (KL n.n 4) (cond (Bq ((n.kids.length:Nat):Int) 0) ((Bf n (⟨0,n.name,n.unit,n.n,0,0,0,(⟨0,[]⟩:Fn),[],0⟩:Nd)).bind fun y7=>some (y7,y1b)) (some (false,y1b))) (some (false,y1b))) (some (false,y1b))) (some (false,y1b))) (some (false,y1b))) (cond (Bq n.kind 4) ((Ci n.n).bind fun y8=>cond y8 ((Cu n.name).bind fun y9=>cond y9 ((Bf n (⟨0,n.name,ByteArray.empty,n.n,0,0,0,(⟨0,[]⟩:Fn),[],0⟩:Nd)).bind fun y10=>cond y10 (cond (Bq ((n.kids.length:Nat):Int) 0) (some (false,y1b)) ((Ku n.kids 1 ((n.kids.length:Nat):Int)).bind fun l11=>(It l11.length (AL (fun i y x=>Cp  y1b i y x.1 x.2.1 x.2.2) (fun x=>(x.1,x.2.1,x.2.2)) (l11.drop 0) 0 (0,0,0))).bind (Ii (fun ((w2_6_12,w2_7_12,w2_8_12):(Int×Int×Int))=>cond (Bq w2_8_12 1) (cond (F4 1 w2_7_12) (some (false,y1b)) ((n.kids[0]?).bind fun x13=>(C8 (⟨y1b⟩:Ck) x13 (BH depth 1)).bind fun (y14a,y14b)=>cond y14a ((CO (⟨y14b⟩:Ck) l11 (BH depth 1)).bind fun (y15a,y15b)=>some (y15a,y15b)) (some (false,y14b)))) (some (false,y1b))) (fun v=>some v)))) (some (false,y1b))) (some (false,y1b))) (some (false,y1b))) (some (false,y1b))))) (some (false,y1b))
theorem KG {c:Ck} {n:Nd} {depth:Int} {yR:Bool} {qc_nodesR:Int} (hS:Sound P G (.call 53 [.ptr 0 0,.agg (Bl n),.sc (.int .i64 depth)] ⟨[(0,.cells (Fj c))],1,[],0⟩ (.ret (.sc (.bool yR))) ⟨[(0,.cells [.sc (.int .i64 qc_nodesR)])],1,[],0⟩)) (u0:Nat) (hnb:[u0].Nodup:=by decide) (hnt:([]:List Nat).Nodup:=by decide):Cd.ok P G (.callU 53 [.ptr u0 0,.agg (Bl n),.sc (.int .i64 depth)] (.ret (.sc (.bool yR))) [(u0,.cells (Fj c))] [] [(u0,.cells [.sc (.int .i64 qc_nodesR)])] []) :=
 DE (M:=[.cells (Fj c)]) (M2:=[.cells [.sc (.int .i64 qc_nodesR)]]) (T:=[]) (T2:=[]) (k:=1) (j:=0) Hd.Aa _ _ _ _ hS rfl rfl rfl rfl rfl hnb hnt rfl rfl (.cons (.cells (.pl (KD.pl c))) .nil) (.cons (.cells (.pl (A2 rfl rfl))) .nil) (.cons (.ptr (by decide)) (.cons (.pl (Al.GB n)) (.cons (.pl rfl) .nil))) (.pl rfl) (fun e he=>by simp only [List.mem_singleton] at he;subst he;exact (.arg (.here .ptr)))
theorem JA   {c:Ck} {n:Nd} {depth:Int} {yR:Bool} {qc_nodesR:Int} (h:Cw  c n depth=some (yR,qc_nodesR)):Sound P G (.call 53 [.ptr 0 0,.agg (Bl n),.sc (.int .i64 depth)] ⟨[(0,.cells (Fj c))],1,[],0⟩ (.ret (.sc (.bool yR))) ⟨[(0,.cells [.sc (.int .i64 qc_nodesR)])],1,[],0⟩):=by
 unfold Cw at h
 refine DI Hd.mixed (AB Tryz.func53 b53 ?_)
 revert h
 refine Ah ?_
 rintro ⟨y1a,y1b⟩ hy1
 dsimp only
 let o1:List (PC P G):=[Ay (Da (CE hy1) 0)]
 refine Ae (fun hv=>?_) fun hv=>?_
 subst hv
 refine Ae (fun hb1=>?_) fun hb1=>?_
 refine Ah fun y2 hy2=>?_
 let o2:List (PC P G):=o1++[pb hb1,Ak (Ed hy2)]
 refine Ae (fun hv=>?_) fun hv=>?_
 subst hv
 refine Ah fun y3 hy3=>?_
 refine Ae (fun hv=>?_) fun hv=>?_
 subst hv
 refine Ae (fun hb2=>?_) fun hb2=>?_
 refine Ah fun y4 hy4=>?_
 intro h
 have hE:=Option.some.inj h
 obtain ⟨hE0,hF0⟩:=Prod.mk.inj hE
 subst hE0 hF0
 exact An Hd.Aa _ _ [] [none] (Ab 300 (o2++[Ak (Dk hy3),pb hb2,Eg (.r (.g (.r (.r (.r (.r (.r (.r (.r (.r (.z (.z (.r .nil))))))))))) .nil)) (Be hy4)])) (by kernel_rfl) .body
 intro h
 have hE:=Option.some.inj h
 obtain ⟨hE0,hF0⟩:=Prod.mk.inj hE
 subst hE0 hF0
 exact An Hd.Aa _ _ [] [none] (Ab 300 (o2++[Ak (Dk hy3),pb hb2])) (by kernel_rfl) .body
 subst hv
 intro h
 have hE:=Option.some.inj h
 obtain ⟨hE0,hF0⟩:=Prod.mk.inj hE
 subst hE0 hF0
 exact An Hd.Aa _ _ [] [none] (Ab 300 (o2++[Ak (Dk hy3)])) (by kernel_rfl) .body
 subst hv
 intro h
 have hE:=Option.some.inj h
 obtain ⟨hE0,hF0⟩:=Prod.mk.inj hE
 subst hE0 hF0
 exact An Hd.Aa _ _ [] [none] (Ab 300 o2) (by kernel_rfl) .body
 let o3:List (PC P G):=o1++[pb hb1]
 refine Ae (fun hb3=>?_) fun hb3=>?_
 refine Ah fun y5 hy5=>?_
 let o4:List (PC P G):=o3++[pb hb3,Ak (Ed hy5)]
 refine Ae (fun hv=>?_) fun hv=>?_
 subst hv
 refine Ah fun y6 hy6=>?_
 let o5:List (PC P G):=o4++[Ak (Dk hy6)]
 refine Ae (fun hv=>?_) fun hv=>?_
 subst hv
 refine Ae (fun hb4=>?_) fun hb4=>?_
 refine Ae (fun hb5=>?_) fun hb5=>?_
 refine Ae (fun hb6=>?_) fun hb6=>?_
 refine Ah fun y7 hy7=>?_
 intro h
 have hE:=Option.some.inj h
 obtain ⟨hE0,hF0⟩:=Prod.mk.inj hE
 subst hE0 hF0
 exact An Hd.Aa _ _ [] [none] (Ab 300 (o5++[pb hb4,pb hb5,pb hb6,Eg (.r (.g (.r (.r (.r (.r (.r (.r (.r (.r (.z (.z (.r .nil))))))))))) .nil)) (Be hy7)])) (by kernel_rfl) .body
 intro h
 have hE:=Option.some.inj h
 obtain ⟨hE0,hF0⟩:=Prod.mk.inj hE
 subst hE0 hF0
 exact An Hd.Aa _ _ [] [none] (Ab 300 (o5++[pb hb4,pb hb5,pb hb6])) (by kernel_rfl) .body
 intro h
 have hE:=Option.some.inj h
 obtain ⟨hE0,hF0⟩:=Prod.mk.inj hE
 subst hE0 hF0
 exact An Hd.Aa _ _ [] [none] (Ab 300 (o5++[pb hb4,pb hb5])) (by kernel_rfl) .body
 intro h
 have hE:=Option.some.inj h
 obtain ⟨hE0,hF0⟩:=Prod.mk.inj hE
 subst hE0 hF0
 exact An Hd.Aa _ _ [] [none] (Ab 300 (o5++[pb hb4])) (by kernel_rfl) .body
 subst hv
 intro h
 have hE:=Option.some.inj h
 obtain ⟨hE0,hF0⟩:=Prod.mk.inj hE
 subst hE0 hF0
 exact An Hd.Aa _ _ [] [none] (Ab 300 o5) (by kernel_rfl) .body
 subst hv
 intro h
 have hE:=Option.some.inj h
 obtain ⟨hE0,hF0⟩:=Prod.mk.inj hE
 subst hE0 hF0
 exact An Hd.Aa _ _ [] [none] (Ab 300 o4) (by kernel_rfl) .body
 refine Ae (fun hb7=>?_) fun hb7=>?_
 refine Ah fun y8 hy8=>?_
 let o6:List (PC P G):=o3++[pb hb3,pb hb7,Ak (DX hy8)]
 refine Ae (fun hv=>?_) fun hv=>?_
 subst hv
 refine Ah fun y9 hy9=>?_
 let o7:List (PC P G):=o6++[Ak (Ed hy9)]
 refine Ae (fun hv=>?_) fun hv=>?_
 subst hv
 refine Ah fun y10 hy10=>?_
 let o8:List (PC P G):=o7++[Eg (.r (.g (.r (.r (.r (.r (.r (.r (.r (.r (.z (.z (.r .nil))))))))))) .nil)) (Be hy10)]
 refine Ae (fun hv=>?_) fun hv=>?_
 subst hv
 refine Ae (fun hb8=>?_) fun hb8=>?_
 intro h
 have hE:=Option.some.inj h
 obtain ⟨hE0,hF0⟩:=Prod.mk.inj hE
 subst hE0 hF0
 exact An Hd.Aa _ _ [] [none] (Ab 300 (o8++[pb hb8])) (by kernel_rfl) .body
 refine Ah fun l11 hl11=>?_
 refine Fb (fun Q v=>Je P G Tryz.f53 1 ⟨[(0,.cells (Fj c))],1,[],0⟩ Q (.sc (.bool v.1)) ⟨[(0,.cells [.sc (.int .i64 v.2)])],1,[],0⟩) (fun i0 ((w2_6,w2_7,w2_8):(Int×Int×Int)) (j0:List Value)=>fr 158 [(0,.ptr 0 0),(2,.sc (.int .i64 depth)),(4,.ptr 1 0),(7,.ptr 2 0),(110,.sl .lost l11.length (Ba l11)),(111,.sc (.int .i64 ((l11.length:Nat):Int))),(112,.sc (.int .i64 ((i0:Nat):Int)))] [6,13,14,17,18,21,22,25,26,27,31,32,33,40,41,42,43,46,47,50,51,52,55,56,57,60,61,62,66,67,68,77,78,79,80,83,84,85,88,89,90,91,98,99,100,101,105,106,113,118,119,122,123,133,134,137,138,146,147,156,157] j0) (fun ((w2_6,w2_7,w2_8):(Int×Int×Int))=>⟨[(2,.cells [.sc (.int .i64 0),.sc (.int .i64 0),.sc (.int .i64 0),.sc (.int .i64 0),.sc (.int .i64 0),.sc (.int .i64 0),.sc (.int .i64 w2_6),.sc (.int .i64 w2_7),.sc (.int .i64 w2_8)]),(1,.cells (Bl n)),(0,.cells [.sc (.int .i64 y1b)])],3,[],0⟩) (fun ((w2_6,w2_7,w2_8):(Int×Int×Int)) (jx:List Value)=>fr 158 [(0,.ptr 0 0),(2,.sc (.int .i64 depth)),(4,.ptr 1 0),(7,.ptr 2 0)] [6,13,14,17,18,21,22,25,26,27,31,32,33,40,41,42,43,46,47,50,51,52,55,56,57,60,61,62,66,67,68,77,78,79,80,83,84,85,88,89,90,91,98,99,100,101,105,106,113,118,119,122,123,133,134,137,138,146,147,156,157] jx) (fun ((w2_6,w2_7,w2_8):(Int×Int×Int))=>⟨[(2,.cells [.sc (.int .i64 0),.sc (.int .i64 0),.sc (.int .i64 0),.sc (.int .i64 0),.sc (.int .i64 0),.sc (.int .i64 0),.sc (.int .i64 w2_6),.sc (.int .i64 w2_7),.sc (.int .i64 w2_8)]),(1,.cells (Bl n)),(0,.cells [.sc (.int .i64 y1b)])],3,[],0⟩) [.bool false,.bool true,.bool false,.bool false,.bool false,undef,undef,undef,undef,undef,undef,undef,undef,undef,undef,.bool false,.bool false,undef,undef,undef,undef,undef,undef,undef,undef,undef,undef,undef,undef,undef,undef,undef,undef,.bool true,.bool true,.bool true,.bool false,.bool false,.bool true,.bool false,.bool false,.bool false,.bool true,.bool false,.bool false,.bool false,.bool false,.bool false] (EO [] 1 (sb uQ 241588) [.code (sb uQ 30199),.endb 0,.code (sb uQ 15)] (Ab 300 (o8++[pb hb8,PN (GI hl11)])) (by kernel_rfl)) ?_ ?_ ?_ (fun v h=>by cases h;exact .outer .body)
 rintro i0 ⟨w2_6,w2_7,w2_8⟩ j0 hge hq
 exact CT (Ab 300 [pb (Kz hge)]) (by kernel_rfl) (hq (js 61 j0 [(48,.bool false)]))
 rintro i0 e0 ⟨w2_6,w2_7,w2_8⟩ j0 r he0 hi0 mi0 k
 show Cp  y1b i0 e0 w2_6 w2_7 w2_8=some r→_
 unfold Cp
 let o9:List (PC P G):=[pb (GD hi0),Ct (BD .lost he0)]
 refine Ae (fun hb9=>?_) fun hb9=>?_
 rintro ⟨⟩
 exact An Hd.Aa _ _ [] [none] (Ab 300 (o9++[pb hb9])) (by kernel_rfl) (.GS k)
 refine Ae (fun hb10=>?_) fun hb10=>?_
 rintro ⟨⟩
 exact An Hd.Aa _ _ [] [none] (Ab 300 (o9++[pb hb9,pb hb10])) (by kernel_rfl) (.GS k)
 refine Ae (fun hb11=>?_) fun hb11=>?_
 rintro ⟨⟩
 exact BJ Hd.Aa [fq (Al.B9 l11)] [none,bp (Al.pl n),none] (Ab 300 (o9++[pb hb9,pb hb10,Ct (t:=119) (a:=.ptr 2 0) (b:=.sc (.int .i64 e0.kind)) (v:=.ptr 2 6) (by rw [GV hb11];kernel_rfl),pk,Ct (t:=119) (a:=.ptr 2 0) (b:=.sc (.int .i64 e0.kind)) (v:=.ptr 2 6) (by rw [GV hb11];kernel_rfl),pi mi0])) (by kernel_rfl) (k (js 61 j0 [(48,.bool true),(49,.bool false),(50,.bool false),(51,.bool false),(52,.bool false)]))
 refine Ae (fun hb12=>?_) fun hb12=>?_
 rintro ⟨⟩
 exact BJ Hd.Aa [fq (Al.B9 l11)] [none,bp (Al.pl n),none] (Ab 300 (o9++[pb hb9,pb hb10,Ct (t:=119) (a:=.ptr 2 0) (b:=.sc (.int .i64 e0.kind)) (v:=.ptr 2 7) (by rw [GV hb12];kernel_rfl),pk,Ct (t:=119) (a:=.ptr 2 0) (b:=.sc (.int .i64 e0.kind)) (v:=.ptr 2 7) (by rw [GV hb12];kernel_rfl),pi mi0])) (by kernel_rfl) (k (js 61 j0 [(48,.bool true),(49,.bool false),(50,.bool false),(51,.bool false),(52,.bool false)]))
 refine Ae (fun hb13=>?_) fun hb13=>?_
 rintro ⟨⟩
 exact BJ Hd.Aa [fq (Al.B9 l11)] [none,bp (Al.pl n),none] (Ab 300 (o9++[pb hb9,pb hb10,Ct (t:=119) (a:=.ptr 2 0) (b:=.sc (.int .i64 e0.kind)) (v:=.ptr 2 8) (by rw [GV hb13];kernel_rfl),pk,Ct (t:=119) (a:=.ptr 2 0) (b:=.sc (.int .i64 e0.kind)) (v:=.ptr 2 8) (by rw [GV hb13];kernel_rfl),pi mi0])) (by kernel_rfl) (k (js 61 j0 [(48,.bool true),(49,.bool false),(50,.bool false),(51,.bool false),(52,.bool false)]))
 exact pY
 rintro ⟨w2_6_12,w2_7_12,w2_8_12⟩ jx_12
 dsimp only
 refine Ae (fun hb14=>?_) fun hb14=>?_
 refine Ae (fun hb15=>?_) fun hb15=>?_
 intro h
 have hE:=Option.some.inj h
 obtain ⟨hE0,hF0⟩:=Prod.mk.inj hE
 subst hE0 hF0
 exact An Hd.Aa _ _ [] [none] (Cc 300 [pk,pn hb14,pk,pb hb15]) (by kernel_rfl) .body
 refine Ah fun x13 hx13=>?_
 refine Ah ?_
 rintro ⟨y14a,y14b⟩ hy14
 dsimp only
 let o10:List (PC P G):=[pk,pn hb14,pk,pb hb15,Ct (BD .lost hx13),pk,Ay (KJ (Jt hy14) 0)]
 refine Ae (fun hv=>?_) fun hv=>?_
 subst hv
 refine Ah ?_
 rintro ⟨y15a,y15b⟩ hy15
 dsimp only
 intro h
 have hE:=Option.some.inj h
 obtain ⟨hE0,hF0⟩:=Prod.mk.inj hE
 subst hE0 hF0
 exact An Hd.Aa _ _ [] [none] (Cc 300 (o10++[PN (GI hl11),pk,Ay (IF (Hr hy15) 0)])) (by kernel_rfl) .body
 subst hv
 intro h
 have hE:=Option.some.inj h
 obtain ⟨hE0,hF0⟩:=Prod.mk.inj hE
 subst hE0 hF0
 exact An Hd.Aa _ _ [] [none] (Cc 300 o10) (by kernel_rfl) .body
 intro h
 have hE:=Option.some.inj h
 obtain ⟨hE0,hF0⟩:=Prod.mk.inj hE
 subst hE0 hF0
 exact An Hd.Aa _ _ [] [none] (Cc 300 [pk,pn hb14]) (by kernel_rfl) .body
 subst hv
 intro h
 have hE:=Option.some.inj h
 obtain ⟨hE0,hF0⟩:=Prod.mk.inj hE
 subst hE0 hF0
 exact An Hd.Aa _ _ [] [none] (Ab 300 o8) (by kernel_rfl) .body
 subst hv
 intro h
 have hE:=Option.some.inj h
 obtain ⟨hE0,hF0⟩:=Prod.mk.inj hE
 subst hE0 hF0
 exact An Hd.Aa _ _ [] [none] (Ab 300 o7) (by kernel_rfl) .body
 subst hv
 intro h
 have hE:=Option.some.inj h
 obtain ⟨hE0,hF0⟩:=Prod.mk.inj hE
 subst hE0 hF0
 exact An Hd.Aa _ _ [] [none] (Ab 300 o6) (by kernel_rfl) .body
 intro h
 have hE:=Option.some.inj h
 obtain ⟨hE0,hF0⟩:=Prod.mk.inj hE
 subst hE0 hF0
 exact An Hd.Aa _ _ [] [none] (Ab 300 (o3++[pb hb3,pb hb7])) (by kernel_rfl) .body
 subst hv
 intro h
 have hE:=Option.some.inj h
 obtain ⟨hE0,hF0⟩:=Prod.mk.inj hE
 subst hE0 hF0
 exact An Hd.Aa _ _ [] [none] (Ab 300 o1) (by kernel_rfl) .body
end Mo
end Go.Proofs.YtkfplcngmiljaaaGreatDoor
