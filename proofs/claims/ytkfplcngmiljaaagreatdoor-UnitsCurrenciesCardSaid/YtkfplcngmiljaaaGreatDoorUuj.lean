/- Part of a proof: see the last text. -/
import Derived.Test.YtkfplcngmiljaaaGreatDoorUui
import Derived.Test.YtkfplcngmiljaaaGreatDoorProg
import Derived.KernelRfl
import Derived.WalkKit
import Derived.WalkLawsBesides
import Derived.WalkSpells
import Derived.Lib.Hide
import Derived.Laws.Rows
import Derived.Recover
set_option linter.unusedVariables false
set_option linter.unusedSimpArgs false
namespace Go.Proofs.YtkfplcngmiljaaaGreatDoor
open AI Go Go.RowKit
theorem T4 (x y z:Value) (w:World) :
   CallsD Tryz.prog 68 #[x,y,z] .returning w fun e u' w'=>e=.returned (.tuple #[])∧u'=.returning∧w'=w:=by
 refine callsD_of_wpS Tryz.func68 rfl fun c₀ cs hu=>?_
 apply wpS_seq
 apply wpS_region
 simp [wpOpsS,go_sem,recoverD,hu,Tryz.ntmps68,Exit.thenS]
 apply wpS_seq
 apply wpS_region
 simp [wpOpsS,go_sem,Exit.thenS]
 refine wpS_cond (t:=false) (by simp [Act.eval,Array.replicate]) ?_
 simp only [Bool.false_eq_true,if_false]
 refine wpS_of_wp (wp_skip ?_)
 cases c₀
 simp_all [bodyPostS,results,Tryz.results68]
noncomputable def Ig (w:World):World:=((w.alloc (.cells #[.int .i64 0,.string ⟨#[]⟩,.string ⟨#[]⟩,.int .i64 0,.int .i64 0,.int .i64 0,.int .i64 0,.int .i64 0,.slice none 0 0,.slice none 0 0,.int .i64 0] 27)).alloc (.cells #[.int .i64 0,.int .i64 0] 53)).alloc (.cells #[.bool false] 4)
theorem jL (w:World):(Ig w).heap[w.heap.size]?=some (.cells #[.int .i64 0,.string ⟨#[]⟩,.string ⟨#[]⟩,.int .i64 0,.int .i64 0,.int .i64 0,.int .i64 0,.int .i64 0,.slice none 0 0,.slice none 0 0,.int .i64 0] 27 (0,0)):=by
 unfold Ig
 rw [heap_alloc_old _ _ (by simp;omega),heap_alloc_old _ _ (by simp),heap_alloc_new]
theorem kW (w:World):(Ig w).heap[w.heap.size+1]?=some (.cells #[.int .i64 0,.int .i64 0] 53 (0,0)):=by
 unfold Ig
 rw [heap_alloc_old _ _ (by simp),heap_alloc2_new]
theorem mX (w:World):(Ig w).heap[w.heap.size+1+1]?=some (.cells #[.bool false] 4 (0,0)):=by
 unfold Ig
 have:=heap_alloc_new ((w.alloc (.cells #[.int .i64 0,.string ⟨#[]⟩,.string ⟨#[]⟩,.int .i64 0,.int .i64 0,.int .i64 0,.int .i64 0,.int .i64 0,.slice none 0 0,.slice none 0 0,.int .i64 0] 27)).alloc (.cells #[.int .i64 0,.int .i64 0] 53)) (.cells #[.bool false] 4)
 rwa [World.size_alloc,World.size_alloc] at this
set_option maxRecDepth 20000 in
set_option maxHeartbeats 4000000 in
theorem X9 (g:Nat) (hg:Ie Tryz.prog g=true) (fs cs:Array Value) (w:World) (R:Array Value→World→Prop)
   (hR:∀ xs w',R xs w'→(xs.size=11∧xs.all (·.oneCell')=true)∧w'.heap[w.heap.size]?=(Ig w).heap[w.heap.size]?∧w'.heap[w.heap.size+1]?=(Ig w).heap[w.heap.size+1]?∧w'.heap[w.heap.size+1+1]?=(Ig w).heap[w.heap.size+1+1]?)
   (hC:Calls Tryz.prog g (fs++cs) (Ig w) fun e w'=>∃ xs,e=.returned (.agg xs)∧R xs w') :
   Calls Tryz.prog 44 #[.func (.func g) fs cs] w fun e w2=>∃ xs w',R xs w'∧e=.returned (.tuple #[.agg xs,.agg #[.int .i64 0,.int .i64 0],.bool true])∧MG w' w2 (QY w (Ig w)):=by
 have hmf:∀ (fn:Fn) (first cap:Array Value) (w:World),(Instr.makeFunc fn first cap).run Tryz.prog w=.ok (.func fn first cap) w:=fun _ _ _ _=>rfl
 have hen:=fun args w=>Nk (w:=w) hg args
 have HC:=Lib.hid hC
 have HR:=Lib.hid hR
 clear hC hR
 go_enter_defers Tryz.func44,Tryz.ntmps44
 go_wp2_with fail
 refine HC.out.mono ?_
 clear HC
 rintro e w1 ⟨xs,rfl,hr⟩
 obtain ⟨⟨hx,hone⟩,k0,k1,k2⟩:=HR.out xs w1 hr
 clear HR
 have HB:=Lib.hid hr
 clear hr
 have e0:w1.heap[w.heap.size]?=some (.cells #[.int .i64 0,.string ⟨#[]⟩,.string ⟨#[]⟩,.int .i64 0,.int .i64 0,.int .i64 0,.int .i64 0,.int .i64 0,.slice none 0 0,.slice none 0 0,.int .i64 0] 27 (0,0)):=by
   rw [k0];exact jL w
 have e1:w1.heap[w.heap.size+1]?=some (.cells #[.int .i64 0,.int .i64 0] 53 (0,0)):=by
   rw [k1];exact kW w
 have e2:w1.heap[w.heap.size+1+1]?=some (.cells #[.bool false] 4 (0,0)):=by
   rw [k2];exact mX w
 have hl2:w.heap.size+1+1 < w1.heap.size:=(Array.getElem?_eq_some_iff.1 e2).1
 obtain ⟨wa,hwa⟩:∃ wa,wa=w1.setRow w.heap.size xs:=⟨_,rfl⟩
 have ca:=GD w1 w.heap.size xs
 rw [← hwa] at ca
 have f1:wa.heap[w.heap.size+1]?=some (.cells #[.int .i64 0,.int .i64 0] 53 (0,0)):=by
   rw [ca.block _ (by omega) (by omega)];exact e1
 have f2:wa.heap[w.heap.size+1+1]?=some (.cells #[.bool false] 4 (0,0)):=by
   rw [ca.block _ (by omega) (by omega)];exact e2
 have f0:wa.heap[w.heap.size]?=some (.cells xs 27 (0,0)):=by
   rw [hwa];exact setRow_heap w1 _ _ _ _ _ e0
 have s0:wa.setCell ⟨w.heap.size+1,0,none⟩ (.int .i64 0)=wa.setRow (w.heap.size+1) #[.int .i64 0,.int .i64 0]:=setCell_eq_setRow wa _ 0 _ _ _ _ f1
 obtain ⟨wd,hwd⟩:∃ wd,wd=wa.setCell ⟨w.heap.size+1,0,none⟩ (.int .i64 0):=⟨_,rfl⟩
 have cd:=GD wa (w.heap.size+1) #[.int .i64 0,.int .i64 0]
 have fd1:wd.heap[w.heap.size+1]?=some (.cells #[.int .i64 0,.int .i64 0] 53 (0,0)):=by
   rw [hwd,s0];exact setRow_heap wa _ _ _ _ _ f1
 have s1:wd.setCell ⟨w.heap.size+1,1,none⟩ (.int .i64 0)=wd.setRow (w.heap.size+1) #[.int .i64 0,.int .i64 0]:=setCell_eq_setRow wd _ 1 _ _ _ _ fd1
 rw [← s0,← hwd] at cd
 obtain ⟨wb,hwb⟩:∃ wb,wb=wd.setCell ⟨w.heap.size+1,1,none⟩ (.int .i64 0):=⟨_,rfl⟩
 have cb:=GD wd (w.heap.size+1) #[.int .i64 0,.int .i64 0]
 rw [← s1,← hwb] at cb
 have hld:w.heap.size+1 < wd.heap.size:=(Array.getElem?_eq_some_iff.1 fd1).1
 have d0:wa.cell? ⟨w.heap.size+1,0,none⟩=some (.int .i64 0):=by simp [World.cell?,f1]
 have d1:(wa.setCell ⟨w.heap.size+1,0,none⟩ (.int .i64 0)).cell? ⟨w.heap.size+1,1,none⟩=some (.int .i64 0):=by rw [← hwd];simp [World.cell?,fd1]
 have z0:wa.frozen? ⟨w.heap.size+1,0,none⟩=false:=by simp [World.frozen?,f1]
 have z1:(wa.setCell ⟨w.heap.size+1,0,none⟩ (.int .i64 0)).frozen? ⟨w.heap.size+1,1,none⟩=false:=by rw [← hwd];simp [World.frozen?,fd1]
 have hla:w.heap.size+1+1 < wa.heap.size:=(Array.getElem?_eq_some_iff.1 f2).1
 have g0:wb.heap[w.heap.size]?=some (.cells xs 27 (0,0)):=by
   rw [cb.block _ (by omega) (by omega),cd.block _ (by omega) (by omega)];exact f0
 have g1:wb.heap[w.heap.size+1]?=some (.cells #[.int .i64 0,.int .i64 0] 53 (0,0)):=by
   rw [hwb,s1];exact setRow_heap wd _ _ _ _ _ fd1
 have g2:wb.heap[w.heap.size+1+1]?=some (.cells #[.bool false] 4 (0,0)):=by
   rw [cb.block _ (by have:=cd.size;omega) (by omega),cd.block _ (by omega) (by omega)];exact f2
 have c2:((wa.setCell ⟨w.heap.size+1,0,none⟩ (.int .i64 0)).setCell ⟨w.heap.size+1,1,none⟩ (.int .i64 0)).cell? ⟨w.heap.size+1+1,0,none⟩=some (.bool false):=by rw [← hwd,← hwb];simp [World.cell?,g2]
 have z2:((wa.setCell ⟨w.heap.size+1,0,none⟩ (.int .i64 0)).setCell ⟨w.heap.size+1,1,none⟩ (.int .i64 0)).frozen? ⟨w.heap.size+1+1,0,none⟩=false:=by rw [← hwd,← hwb];simp [World.frozen?,g2]
 have hsz:(Tryz.prog.info? 27).map (·.size)=some xs.size:=by rw [hx];kernel_rfl
 have E0:=Lib.hid e0
 have HS:=Lib.hid hsz
 have HX:=Lib.hid hx
 have HO:=Lib.hid hone
 have HWA:=Lib.hid hwa
 have HWB:=Lib.hid hwb
 have HWD:=Lib.hid hwd
 have CD:=Lib.hid cd
 have G0:=Lib.hid g0
 have G1:=Lib.hid g1
 have G2:=Lib.hid g2
 have CA:=Lib.hid ca
 have CB:=Lib.hid cb
 have HL:=Lib.hid (And.intro hl2 hla)
 clear e0 e1 e2 f0 f1 f2 g0 g1 g2 hsz hx hone hwa hwb hwd s0 s1 fd1 hld ca cb cd k0 k1 k2 hl2 hla
 go_wp2_with (refine wpList_store_row rfl 27 _ _ rfl w.heap.size xs rfl rfl 27 _ E0.out HS.out (by rw [HX.out];rfl) HO.out ?_;rw [← HWA.out])
 rw [← HWD.out,← HWB.out]
 have s2:wb.setCell ⟨w.heap.size+1+1,0,none⟩ (.bool true)=wb.setRow (w.heap.size+1+1) #[.bool true]:=setCell_eq_setRow wb _ 0 _ _ _ _ G2.out
 have cc:=GD wb (w.heap.size+1+1) #[.bool true]
 have h2:=setRow_heap wb (w.heap.size+1+1) _ #[.bool true] _ _ G2.out
 rw [s2]
 generalize wb.setRow (w.heap.size+1+1) #[.bool true]=wc at cc h2
 have hl:=HL.out
 have hlb:=CB.out.size
 have hld:=CD.out.size
 have h0:wc.heap[w.heap.size]?=some (.cells xs 27 (0,0)):=by rw [cc.block _ (by omega) (by omega)];exact G0.out
 have h1:wc.heap[w.heap.size+1]?=some (.cells #[.int .i64 0,.int .i64 0] 53 (0,0)):=by rw [cc.block _ (by omega) (by omega)];exact G1.out
 refine leaves_cons (f:=68) (args:=#[.pointer (some ⟨w.heap.size,0,none⟩),.pointer (some ⟨w.heap.size+1,0,none⟩),.pointer (some ⟨w.heap.size+1+1,0,none⟩)]) (by simp) (by simp [go_sem]) ?_
 refine (T4 _ _ _ _).mono ?_
 rintro e u' w2 ⟨rfl,rfl,rfl⟩
 show Leaves _ _ _ _ [] .returning _
 have l0:=run_loadVar_row (P:=Tryz.prog) w2 w.heap.size _ 27 xs _ _ h0 Tryz.underlying27 rfl HS.out
 have l1:=run_loadVar_row (P:=Tryz.prog) w2 (w.heap.size+1) _ 53 #[.int .i64 0,.int .i64 0] _ _ h1 Tryz.underlying53 rfl (by kernel_rfl)
 have l2:w2.cell? ⟨w.heap.size+1+1,0,none⟩=some (.bool true):=by simp [World.cell?,h2]
 refine ⟨.tuple #[.agg xs,.agg #[.int .i64 0,.int .i64 0],.bool true],?_,xs,w1,HB.out,rfl,?_⟩
 · have l3:(loadVar 4 ⟨w.heap.size+1+1,0,none⟩).run Tryz.prog w2=.ok (.bool true) w2:=by simp [go_sem,l2]
   rw [Pu,Tryz.results44]
   simp [Yf,asAddr,Sem.run_bind,l0,l1,l3]
 · have hk:∀ k,w1.heap.size > k→¬ QY w (Ig w) k→k≠w.heap.size∧k≠w.heap.size+1∧k≠w.heap.size+1+1:=by
     intro k _ hn
     have hs:(Ig w).heap.size=w.heap.size+1+1+1:=by unfold Ig;simp
     refine ⟨fun e=>hn ?_,fun e=>hn ?_,fun e=>hn ?_⟩<;>subst e<;>refine ⟨?_,?_⟩<;>omega
   have ca:=CA.out
   have cd:=CD.out
   have cb:=CB.out
   refine ⟨cc.os.trans (cb.os.trans (cd.os.trans ca.os)),cc.tape.trans (cb.tape.trans (cd.tape.trans ca.tape)),cc.output.trans (cb.output.trans (cd.output.trans ca.output)),Nat.le_trans ca.size (Nat.le_trans hld (Nat.le_trans hlb cc.size)),fun k hk1 hk2=>?_⟩
   obtain ⟨n0,n1,n2⟩:=hk k hk1 hk2
   rw [cc.block k (by have:=ca.size;omega) n2,cb.block k (by have:=ca.size;omega) n1,cd.block k (by have:=ca.size;omega) n1,ca.block k hk1 n0]
def eV:CR→Option CR
 | .ret (.agg cs)=>(match Nat.beq cs.length 11 with
   | true=>(match cs.all one with
     | true=>some (.ret (.Br [.agg cs,.agg [.sc (.int .i64 0),.sc (.int .i64 0)],.sc (.bool true)]))
     | false=>none)
   | false=>none)
 | _=>none
theorem QT {G:AG} {g:FuncId} (hg:Ie Tryz.prog g=true) {first caps:List AV} {s s':AS} {r r':CR} (h:Sound Tryz.prog G (.call g (first++[]++caps) s r s')) (hk:eV r=some r'):Sound Tryz.prog G (.call 44 [.fn (.func g) first caps] s r' s'):=by
 unfold eV at hk
 split at hk
 · rename_i cs
   split at hk
   · rename_i hn
     split at hk
     · rename_i ho
       cases hk
       intro cx w vs hs ha
       cases ha with
       | cons h1 t =>
       cases t
       cases h1 with
       | fn hf hc =>
       rename_i us vs
       have k:MG w (Ig w) (fun _=>False):=by
         have k1:=Kn w (.cells #[.int .i64 0,.string ⟨#[]⟩,.string ⟨#[]⟩,.int .i64 0,.int .i64 0,.int .i64 0,.int .i64 0,.int .i64 0,.slice none 0 0,.slice none 0 0,.int .i64 0] 27)
         exact ⟨rfl,rfl,rfl,by unfold Ig;simp;omega,fun q hq _=>by unfold Ig;rw [heap_alloc_old _ _ (by simp;omega),heap_alloc_old _ _ (by simp;omega),heap_alloc_old _ _ hq]⟩
       have hsv:=fT hs k
       have hm:=OD (cx:=cx) k
       have hC:=h (cx.R3 w (Ig w)) (Ig w) (us++vs) hsv (by simpa using (hf.CI hm).append (hc.CI hm))
       have e1:(us++vs).toArray=us.toArray++vs.toArray:=by simp
       rw [e1] at hC
       refine (X9 g hg us.toArray vs.toArray w (fun xs w'=>∃ c',Ext (cx.R3 w (Ig w)) (Ig w) c' w'∧St G c' w' s'∧BD c' w' cs xs.toList) ?_ (hC.mono ?_)).mono ?_
       · rintro xs w' ⟨c',hx,_,hr⟩
         have hl:=hr.len
         have hsz:(Ig w).heap.size=w.heap.size+1+1+1:=by unfold Ig;simp
         refine ⟨⟨by have:=Nat.eq_of_beq_eq_true hn;rw [← Array.length_toList];omega,?_⟩,MS hs hx ⟨by omega,by omega⟩,MS hs hx ⟨by omega,by omega⟩,MS hs hx ⟨by omega,by omega⟩⟩
         rw [Array.all_eq_true_iff_forall_mem]
         intro v hv
         exact RX hr ho v (by simpa using hv)
       · rintro e w' ⟨c',hx,hs',u,rfl,hu⟩
         cases hu with
         | agg hr=>exact ⟨_,rfl,c',hx,hs',by simpa using hr⟩
       · rintro e w2 ⟨xs,w',⟨c',hx,hs',hr⟩,rfl,k2⟩
         have m2:=Lf hx k2
         refine ⟨c'.Ol cx,TF hs k hx k2,WE hs hx hs' k2,_,rfl,?_⟩
         have hr2:=hr.CI m2
         have ha:Rp (c'.Ol cx) w2 (.agg cs) (.agg xs):=by
           have:=Rp.agg hr2
           simpa using this
         exact .Br (vs:=[.agg xs,.agg #[.int .i64 0,.int .i64 0],.bool true]) (.cons ha (.cons (.agg (vs:=[.int .i64 0,.int .i64 0]) (.cons (.sc rfl) (.cons (.sc rfl) .nil))) (.cons (.sc rfl) .nil)))
     · cases hk
   · cases hk
 · cases hk
end Go.Proofs.YtkfplcngmiljaaaGreatDoor
namespace AI
open Go
section
variable {α γ δ ρ:Type}
def allI (p:Nat→α→Bool):List α→Nat→Bool
 | [],_=>true
 | y::l,i=>p i y&&allI p l (i+1)
theorem S3 {body:Nat→α→Unit→Option (Lp Unit δ ρ)} {done:Unit→δ} {p:Nat→α→Bool} {v:ρ}:∀ {l:List α} {i:Nat},(∀ k y,l[k]?=some y→body (i+k) y ()=some (if p (i+k) y then .nx () else .rt v))→AT body done l i ()=some (if allI p l i then .inl (done ()) else .inr v)
 | [],i,_=>rfl
 | y::l,i,h=>by
   have h0:=h 0 y rfl
   rw [Nat.add_zero] at h0
   rw [AT,h0,allI]
   cases p i y with
   | false=>simp [GB]
   | true =>
     have:=S3 (body:=body) (done:=done) (p:=p) (v:=v) (l:=l) (i:=i+1) fun k z hz=>by
       have:=h (k+1) z (by simpa using hz)
       rwa [show i+(k+1)=i+1+k by omega] at this
     simpa [GB] using this
theorem E3 {β:Type} {n:Nat} {x:Option β} (h:n≤9223372036854775807):Gy n x=x:=by unfold Gy;rw [if_pos h]
theorem UU {β:Type} {n:Nat} {x:Option β} (h:n≤100000000):LZ n x=x:=by unfold LZ;rw [if_pos h]
end
end AI
namespace AI
open Go
noncomputable def mb (p:Prop):Bool:=@decide p (Classical.propDecidable _)
theorem Bj {p:Prop}:mb p=true↔p:=by unfold mb;exact @decide_eq_true_iff p (_)
theorem FM {p q:Prop} (h:p↔q):mb p=mb q:=by rw [propext h]
noncomputable def AN {β:Type} (p:Prop) (x y:β):β:=@ite β p (Classical.propDecidable _) x y
theorem Ag {β:Type} {p:Prop} {x y:β} (h:p):AN p x y=x:=@if_pos p (_) h _ _ _
theorem Af {β:Type} {p:Prop} {x y:β} (h:¬ p):AN p x y=y:=@if_neg p (_) h _ _ _
section
variable {β:Type} {x y:β}
theorem wA (a b:Int):cond (Bs a b) x y=AN (a=b) x y:=by
 by_cases h:a=b
 · have:Bs a b=true:=by rw [JL];simpa using h
   rw [Ag h,this];rfl
 · have:Bs a b=false:=by rw [JL];simpa using h
   rw [Af h,this];rfl
theorem oZ (a b:ByteArray):cond (BJ a.data.toList b.data.toList) x y=AN (a=b) x y:=by
 by_cases h:a=b
 · have:BJ a.data.toList b.data.toList=true:=by rw [O9,h];simp
   rw [Ag h,this];rfl
 · have:BJ a.data.toList b.data.toList=false:=by
     rw [O9]
     apply beq_false_of_ne
     exact fun e=>h (ByteArray.ext (Array.ext' e))
   rw [Af h,this];rfl
theorem Bv (p:Prop):cond (mb p) x y=AN p x y:=by
 by_cases h:p
 · rw [Ag h,Bj.2 h];rfl
 · rw [Af h]
   have:mb p=false:=by
     cases hm:mb p
     · rfl
     · exact absurd (Bj.1 hm) h
   rw [this];rfl
theorem sB (b:Bool):cond b x y=AN (b=true) x y:=by cases b<;>simp [AN]
end
section
variable {p q r:Prop}
theorem F5:AN p (some true) (some false)=some (mb p):=by
 by_cases h:p
 · rw [Ag h,Bj.2 h]
 · rw [Af h];congr 1;cases hm:mb p;rfl;exact absurd (Bj.1 hm) h
theorem gY:true=mb True:=(Bj.2 trivial).symm
theorem wP:false=mb False:=by cases h:mb False;rfl;exact (Bj.1 h).elim
theorem sJ:AN p (some false) (some true)=some (mb ¬ p):=by
 by_cases h:p
 · rw [Ag h];congr 1;rw [Bool.eq_iff_iff,Bj];simp [h]
 · rw [Af h];congr 1;rw [Bool.eq_iff_iff,Bj];simp [h]
theorem Ee:AN p (some (mb q)) (some false)=some (mb (p∧q)):=by
 by_cases h:p
 · rw [Ag h];congr 1;rw [Bool.eq_iff_iff,Bj,Bj];simp [h]
 · rw [Af h];congr 1;rw [Bool.eq_iff_iff,Bj];simp [h]
theorem cS:AN p (some false) (some (mb q))=some (mb (¬ p∧q)):=by
 by_cases h:p
 · rw [Ag h];congr 1;rw [Bool.eq_iff_iff,Bj];simp [h]
 · rw [Af h];congr 1;rw [Bool.eq_iff_iff,Bj,Bj];simp [h]
theorem bZ:AN p (some true) (some (mb q))=some (mb (p∨q)):=by
 by_cases h:p
 · rw [Ag h];congr 1;rw [Bool.eq_iff_iff,Bj];simp [h]
 · rw [Af h];congr 1;rw [Bool.eq_iff_iff,Bj,Bj];simp [h]
theorem aD:AN p (some (mb q)) (some (mb r))=some (mb ((p→q)∧(¬ p→r))):=by
 by_cases h:p
 · rw [Ag h];congr 1;rw [Bool.eq_iff_iff,Bj,Bj];simp [h]
 · rw [Af h];congr 1;rw [Bool.eq_iff_iff,Bj,Bj];simp [h]
theorem JG {β:Type} {x:β}:AN p x x=x:=by
 by_cases h:p
 · exact Ag h
 · exact Af h
noncomputable def ck {δ ρ:Type} (v:ρ) (p:Prop):Lp Unit δ ρ:=AN p (.nx ()) (.rt v)
variable {δ ρ:Type} {v:ρ}
theorem RT:AN p (some (.nx ())) (some (.rt v))=some (ck (δ:=δ) v p):=by
 unfold ck;by_cases h:p
 · rw [Ag h,Ag h]
 · rw [Af h,Af h]
theorem V2:AN p (some (.rt v)) (some (.nx ()))=some (ck (δ:=δ) v ¬ p):=by
 unfold ck;by_cases h:p
 · rw [Ag h,Af (by simp [h])]
 · rw [Af h,Ag h]
theorem Xb:AN p (some (ck (δ:=δ) v q)) (some (.rt v))=some (ck v (p∧q)):=by
 unfold ck;by_cases h:p
 · rw [Ag h];simp [h]
 · rw [Af h,Af (by simp [h])]
theorem VY:AN p (some (.rt v)) (some (ck (δ:=δ) v q))=some (ck v (¬ p∧q)):=by
 unfold ck;by_cases h:p
 · rw [Ag h,Af (by simp [h])]
 · rw [Af h];simp [h]
theorem iX:AN p (some (ck (δ:=δ) v q)) (some (.nx ()))=some (ck v (p→q)):=by
 unfold ck;by_cases h:p
 · rw [Ag h];simp [h]
 · rw [Af h,Ag (by simp [h])]
theorem pF:AN p (some (.nx ())) (some (ck (δ:=δ) v q))=some (ck v (p∨q)):=by
 unfold ck;by_cases h:p
 · rw [Ag h,Ag (by simp [h])]
 · rw [Af h];simp [h]
theorem wG:AN p (some (ck (δ:=δ) v q)) (some (ck v r))=some (ck v ((p→q)∧(¬ p→r))):=by
 unfold ck;by_cases h:p
 · rw [Ag h];simp [h]
 · rw [Af h];simp [h]
theorem Hf {α β:Type} {l:List α} {body:Nat→α→Unit→Option (Lp Unit Unit ρ)} {P:Nat→α→Prop} {k:Unit→Option β} {kr:ρ→Option β} (hl:l.length≤9223372036854775807) (hb:∀ i y,l[i]?=some y→body i y ()=some (ck v (P i y))):(Gy l.length (AT body (fun _=>()) (l.drop 0) 0 ())).bind (GA k kr)=AN (∀ i y,l[i]?=some y→P i y) (k ()) (kr v):=by
 rw [E3 hl,List.drop_zero]
 have h1:∀ k y,l[k]?=some y→body (0+k) y ()=some (if mb (P (0+k) y) then .nx () else .rt v):=fun k y hy=>by
   rw [Nat.zero_add,hb k y hy]
   unfold ck
   by_cases h:P k y
   · rw [Ag h,if_pos (Bj.2 h)]
   · rw [Af h,if_neg (fun e=>h (Bj.1 e))]
 rw [S3 (p:=fun i y=>mb (P i y)) (v:=v) h1]
 have h2:∀ (l:List α) (i:Nat),allI (fun i y=>mb (P i y)) l i=true↔∀ k y,l[k]?=some y→P (i+k) y:=by
   intro l
   induction l with
   | nil=>intro i;simp [allI]
   | cons a l ih =>
     intro i
     rw [allI,Bool.and_eq_true,Bj,ih]
     constructor
     · rintro ⟨h1,h2⟩ k y hk
       cases k with
       | zero=>simp at hk;subst hk;exact h1
       | succ k=>rw [show i+(k+1)=i+1+k by omega];exact h2 k y (by simpa using hk)
     · intro h
       refine ⟨h 0 a rfl,fun k y hk=>?_⟩
       rw [show i+1+k=i+(k+1) by omega]
       exact h (k+1) y (by simpa using hk)
 have h3:=h2 l 0
 simp only [Nat.zero_add] at h3
 by_cases h:∀ i y,l[i]?=some y→P i y
 · rw [Ag h,h3.2 h];rfl
 · rw [Af h]
   have:allI (fun i y=>mb (P i y)) l 0=false:=by
     cases ha:allI (fun i y=>mb (P i y)) l 0
     · rfl
     · exact absurd (h3.1 ha) h
   rw [this];rfl
end
end AI
namespace AI
open Go
def Sp {β:Type} (o:Option β) (Q:β→Prop):Prop:=∃ r,o=some r∧Q r
section
variable {α β γ δ ρ κ:Type} {Q:β→Prop}
theorem Ma {r:β}:Sp (some r) Q=Q r:=propext ⟨fun ⟨_,h,k⟩=>by cases h;exact k,fun h=>⟨_,rfl,h⟩⟩
theorem VA {o:Option κ} {k:κ→Option β}:Sp (o.bind k) Q=Sp o (fun y=>Sp (k y) Q):=propext ⟨fun ⟨r,h,hq⟩=>by
 obtain ⟨y,h1,h2⟩:=VW h
 exact ⟨y,h1,r,h2,hq⟩,fun ⟨y,h1,r,h2,hq⟩=>⟨r,by rw [h1];exact h2,hq⟩⟩
theorem Sp.mono {Q':β→Prop} {o:Option β} (h:Sp o Q) (k:∀ r,Q r→Q' r):Sp o Q':=h.elim fun r h=>⟨r,h.1,k r h.2⟩
theorem Xw {o:Option β} {r:β}:(o=some r)=Sp o (fun x=>x=r):=propext ⟨fun h=>⟨r,h,rfl⟩,fun ⟨_,h,k⟩=>by rw [h,k]⟩
theorem UA {p:Prop} {x y:Option β}:Sp (AN p x y) Q=((p→Sp x Q)∧(¬ p→Sp y Q)):=propext (by
 by_cases h:p
 · rw [Ag h];exact ⟨fun a=>⟨fun _=>a,fun n=>absurd h n⟩,fun a=>a.1 h⟩
 · rw [Af h];exact ⟨fun a=>⟨fun n=>absurd n h,fun _=>a⟩,fun a=>a.2 h⟩)
theorem Fy (a b:Int):KT a b=mb (a≤b):=by rw [YK,Bool.eq_iff_iff,Bj,decide_eq_true_iff]
theorem Ej (a b:Int):FQ a b=mb (a < b):=by rw [Kz,Bool.eq_iff_iff,Bj,decide_eq_true_iff]
theorem Bk (a b:Int):Bs a b=mb (a=b):=by rw [JL,Bool.eq_iff_iff,Bj,beq_iff_eq]
theorem Cw (a b:ByteArray):BJ a.data.toList b.data.toList=mb (a=b):=by
 rw [O9,Bool.eq_iff_iff,Bj,beq_iff_eq]
 exact ⟨fun h=>ByteArray.ext (Array.ext' h),fun h=>by rw [h]⟩
theorem FT {p:Prop}:(mb p=true)=p:=propext Bj
theorem NE {p:Prop}:(mb p=false)=¬ p:=by rw [← Bool.not_eq_true,FT]
theorem Ty {p:Prop}:(true=mb p)=p:=by rw [@eq_comm _ true,FT]
theorem Nq {p:Prop}:(false=mb p)=¬ p:=by rw [@eq_comm _ false,NE]
theorem JN {p q:Prop} (h:p↔q):some (mb p)=some (mb q):=by rw [FM h]
theorem G5 {p:Prop} (h:¬ p):some false=some (mb p):=congrArg some (by rw [Nq];exact h)
theorem aK {l:List α} {body:Nat→α→γ→Option (Lp γ δ ρ)} {done:γ→δ} {k:δ→Option β} {kr:ρ→Option β} {x0:γ} (I:Nat→γ→Prop) (hl:l.length≤9223372036854775807) (h0:I 0 x0)
   (hb:∀ i y x,l[i]?=some y→I i x→Sp (body i y x) (RQ (I (i+1)) (fun d=>Sp (k d) Q) (fun v=>Sp (kr v) Q)))
   (hz:∀ x,I l.length x→Sp (k (done x)) Q):Sp ((Gy l.length (AT body done (l.drop 0) 0 x0)).bind (GA k kr)) Q:=by
 rw [E3 hl,List.drop_zero]
 have key:∀ (m:List α) (i:Nat) (x:γ),l.drop i=m→i≤l.length→I i x→Sp ((AT body done m i x).bind (GA k kr)) Q:=by
   intro m
   induction m with
   | nil =>
     intro i x hd hle hi
     have h1:=List.drop_eq_nil_iff.1 hd
     have:i=l.length:=by omega
     subst this
     exact hz x hi
   | cons y m ih =>
     intro i x hd hle hi
     have hlt:i < l.length:=by
       rcases Nat.lt_or_ge i l.length with h1 | h1
       · exact h1
       · rw [List.drop_eq_nil_of_le h1] at hd;cases hd
     have hy:l[i]?=some y:=by rw [← List.head?_drop,hd];rfl
     have hd2:l.drop (i+1)=m:=by rw [← List.tail_drop,hd];rfl
     obtain ⟨r,hr,hq⟩:=hb i y x hy hi
     rw [AT,hr]
     cases r with
     | nx x'=>exact ih (i+1) x' hd2 hlt hq
     | ex d=>exact hq
     | rt v=>exact hq
 exact key l 0 x0 rfl (Nat.zero_le _) h0
theorem qS {Qn:γ→Prop} {Qx:δ→Prop} {Qr:ρ→Prop} {x:γ}:RQ Qn Qx Qr (.nx x)=Qn x:=rfl
theorem rY {Qn:γ→Prop} {Qx:δ→Prop} {Qr:ρ→Prop} {x:δ}:RQ Qn Qx Qr (.ex x)=Qx x:=rfl
theorem lT {n:Nat} {body:Nat→γ→Option (Lp γ δ ρ)} {done:γ→δ} {k:δ→Option β} {kr:ρ→Option β} {x0:γ} (I:Nat→γ→Prop) (hl:n≤9223372036854775807) (h0:I 0 x0)
   (hb:∀ i x,i < n→I i x→Sp (body i x) (RQ (I (i+1)) (fun d=>Sp (k d) Q) (fun v=>Sp (kr v) Q)))
   (hz:∀ x,I n x→Sp (k (done x)) Q):Sp ((Gy n (RF body done n 0 x0)).bind (GA k kr)) Q:=by
 rw [E3 hl]
 have key:∀ (d i:Nat) (x:γ),i+d=n→I i x→Sp ((RF body done d i x).bind (GA k kr)) Q:=by
   intro d
   induction d with
   | zero =>
     intro i x hd hi
     have:i=n:=by omega
     subst this
     exact hz x hi
   | succ d ih =>
     intro i x hd hi
     obtain ⟨r,hr,hq⟩:=hb i x (by omega) hi
     rw [RF,hr]
     cases r with
     | nx x'=>exact ih (i+1) x' (by omega) hq
     | ex d=>exact hq
     | rt v=>exact hq
 exact key n 0 x0 (by omega) h0
end
theorem MB {n:Int} (h:-9223372036854775808≤n∧n≤9223372036854775807):Ks .i64 n=n:=by
 rw [L1]
 exact IntWalk.i64_in n (by omega)
theorem C4 {a b:Int} (h:-9223372036854775808≤a+b∧a+b≤9223372036854775807):BM a b=a+b:=by
 unfold BM
 rw [Rl,MB h]
theorem Mk {a b:Int} (h:-9223372036854775808≤a - b∧a - b≤9223372036854775807):Rh a b=a - b:=by
 unfold Rh
 rw [Vb,MB h]
theorem Vf {a b:Int} (h:-9223372036854775808≤a*b∧a*b≤9223372036854775807):PO a b=a*b:=by
 unfold PO
 rw [MB h]
end AI
namespace Go.Proofs.YtkfplcngmiljaaaGreatDoor
open AI Go
namespace Mo
set_option maxRecDepth 100000
set_option maxHeartbeats 4000000
noncomputable def vI:Code:=A4 Tryz.f40
theorem b40:Tryz.f40.body=some vI:=by kernel_rfl
noncomputable def C9 (DY:Nd→Int→Option Int) (limit:Int) (i0:Nat) (e0:Nd) (out5:Int):Option (Lp Int Int Int):=cond (FQ out5 limit) ((DY e0 (Rh limit out5)).bind fun y1=>some (.nx (BM out5 y1))) (some (.ex out5))
noncomputable def DV (DY:Nd→Int→Option Int) (n:Nd) (limit:Int):Option Int:=cond (KT limit 0) (some 0) ((Gy n.kids.length (AT (fun i y x=>C9 DY limit i y x) (fun x=>x) (n.kids.drop 0) 0 1)).bind (GA (fun (out5_2:Int)=>some out5_2) (fun v=>some v)))
theorem Ng (DY:Nd→Int→Option Int) (Pa:∀ {n:Nd} {limit:Int} {yR:Int},DY n limit=some yR→Pure P G 40 [.agg (Ba n),.sc (.int .i64 limit)] (.sc (.int .i64 yR))) {n:Nd} {limit:Int} {yR:Int} (h:DV DY n limit=some yR):Pure P G 40 [.agg (Ba n),.sc (.int .i64 limit)] (.sc (.int .i64 yR)):=by
 unfold DV at h
 refine BK Hd.mixed Hd.Ac (AJ Tryz.func40 b40 ?_) (Bo (Am.F0 n) (Bo rfl rfl)) rfl
 revert h
 refine Ae (fun hb1=>?_) fun hb1=>?_
 rintro ⟨⟩
 exact rS (Aa 300 [pb hb1]) (by kernel_rfl)
 refine DQ (fun Q v=>DS P Tryz.f40 0 Q (.sc (.int .i64 v))) (fun i0 (out5:Int) (j0:List Value)=>fr 33 [(1,.sc (.int .i64 limit)),(2,.ptr 0 0),(5,.sc (.int .i64 out5)),(6,.sc (.int .i64 ((i0:Nat):Int)))] [8,13,14,17,18] j0) (fun (out5:Int)=>⟨[(0,.cells (Ba n))],1,[],0⟩) (fun (out5:Int) (jx:List Value)=>fr 33 [(5,.sc (.int .i64 out5))] [8,13,14,17,18] jx) (fun (out5:Int)=>⟨[(0,.cells (Ba n))],1,[],0⟩) [.bool false] (DI [] 0 (sb vI 244) [.code (sb vI 31)] (Aa 300 [pb hb1]) (by kernel_rfl)) ?_ ?_ ?_ (fun v h=>by cases h;exact .outer .body)
 rintro i0 out5 j0 hge hq
 exact B8 (Aa 300 [pb (IG hge)]) (by kernel_rfl) (hq [(jv j0 0),.bool false,.bool false,undef,.bool false])
 rintro i0 e0 out5 j0 r he0 hi0 mi0 k
 show C9 DY limit i0 e0 out5=some r→_
 unfold C9
 refine Ae (fun hb2=>?_) fun hb2=>?_
 refine Aj fun y1 hy1=>?_
 rintro ⟨⟩
 exact De (Aa 300 [pb (F6 hi0),pb hb2,CP (Bz .lost he0),pk,Ak (Pa hy1),pk,pi mi0]) (by kernel_rfl) (k [(jv j0 0),.bool true,.bool true,.bool true,.bool true])
 rintro ⟨⟩
 exact B8 (Aa 300 [pb (F6 hi0),pb hb2]) (by kernel_rfl) (k [(jv j0 0),.bool true,.bool true,.bool false,.bool false])
 rintro out5_2 jx_2
 intro h
 have hE:=Option.some.inj h
 subst hE
 exact AB _ _ (BX 300 []) (by kernel_rfl) .body .sc
noncomputable def Bt:Nat→Nd→Int→Option Int
 | 0,_,_=>none
 | qn+1,n,limit=>DV (Bt qn) n limit
theorem NP:∀ qn:Nat,∀ {n:Nd} {limit:Int} {yR:Int},Bt qn n limit=some yR→Pure P G 40 [.agg (Ba n),.sc (.int .i64 limit)] (.sc (.int .i64 yR)):=by
 intro qn
 induction qn with
 | zero=>exact (fun h=>by simp only [Bt] at h;cases h)
 | succ qn ih=>exact (fun h=>Ng (Bt qn) ih (by rw [Bt] at h;exact h))
noncomputable def G3 (n:Nd) (limit:Int):Option Int:=W4 (fun qn=>Bt qn n limit)
theorem Kc {n:Nd} {limit:Int} {yR:Int} (h:G3 n limit=some yR):Pure P G 40 [.agg (Ba n),.sc (.int .i64 limit)] (.sc (.int .i64 yR)):=by
 obtain ⟨qn,h⟩:=Uf h
 exact (NP qn) h
noncomputable def B23:Code:=A4 Tryz.f23
theorem b23:Tryz.f23.body=some B23:=by kernel_rfl
noncomputable def DR  (n:Nd) (limit:Int):Option Bool:=(G3 n (BM limit 1)).bind fun y1=>cond (KT y1 limit) (some true) (some false)
theorem EX   {n:Nd} {limit:Int} {yR:Bool} (h:DR  n limit=some yR):Pure P G 23 [.agg (Ba n),.sc (.int .i64 limit)] (.sc (.bool yR)):=by
 unfold DR at h
 refine BK Hd.mixed Hd.Ac (AJ Tryz.func23 b23 ?_) (Bo (Am.F0 n) (Bo rfl rfl)) rfl
 revert h
 refine Aj fun y1 hy1=>?_
 refine Ae (fun hb1=>?_) fun hb1=>?_
 rintro ⟨⟩
 exact rS (Aa 300 [pk,Ak (Kc hy1),pb hb1]) (by kernel_rfl)
 rintro ⟨⟩
 exact rS (Aa 300 [pk,Ak (Kc hy1),pb hb1]) (by kernel_rfl)
noncomputable def B12:Code:=A4 Tryz.f12
theorem z7:Tryz.f12.body=some B12:=by kernel_rfl
noncomputable def G4  (a:Nd) (b:Nd):Option Bool:=(DR a 400).bind fun y1=>cond y1 ((DR b 400).bind fun y2=>some y2) (some false)
theorem Pr   {a:Nd} {b:Nd} {yR:Bool} (h:G4  a b=some yR):Pure P G 12 [.agg (Ba a),.agg (Ba b)] (.sc (.bool yR)):=by
 unfold G4 at h
 refine BK Hd.mixed Hd.Ac (AJ Tryz.func12 z7 ?_) (Bo (Am.F0 a) (Bo (Am.F0 b) rfl)) rfl
 revert h
 refine Aj fun y1 hy1=>?_
 refine Ae (fun hv=>?_) fun hv=>?_
 subst hv
 refine Aj fun y2 hy2=>?_
 intro h
 have hE:=Option.some.inj h
 subst hE
 exact rS (Aa 300 [Ak (EX hy1),Ak (EX hy2)]) (by kernel_rfl)
 subst hv
 rintro ⟨⟩
 exact rS (Aa 300 [Ak (EX hy1)]) (by kernel_rfl)
noncomputable def B50:Code:=A4 Tryz.f50
theorem zX:Tryz.f50.body=some B50:=by kernel_rfl
noncomputable def Bg  (c:Ck) (n:Nd) (depth:Int):Option (Bool×Int):=cond (KT (BM c.nodes 1) 2000) ((some (KT depth 40)).bind fun q1=>some (q1,(BM c.nodes 1))) (some (false,(BM c.nodes 1)))
theorem CY {c:Ck} {n:Nd} {depth:Int} {yR:Bool} {qc_nodesR:Int} (hS:Sound P G (.call 50 [.ptr 0 0,.agg (Ba n),.sc (.int .i64 depth)] ⟨[(0,.cells (EP c))],1,[],0⟩ (.ret (.sc (.bool yR))) ⟨[(0,.cells [.sc (.int .i64 qc_nodesR)])],1,[],0⟩)) (u0:Nat) (hnb:[u0].Nodup:=by decide) (hnt:([]:List Nat).Nodup:=by decide):Cd.ok P G (.callU 50 [.ptr u0 0,.agg (Ba n),.sc (.int .i64 depth)] (.ret (.sc (.bool yR))) [(u0,.cells (EP c))] [] [(u0,.cells [.sc (.int .i64 qc_nodesR)])] []) :=
 ER (M:=[.cells (EP c)]) (M2:=[.cells [.sc (.int .i64 qc_nodesR)]]) (T:=[]) (T2:=[]) (k:=1) (j:=0) Hd.Ac _ _ _ _ hS rfl rfl rfl rfl rfl hnb hnt rfl rfl (.cons (.cells (.pl (J2.pl c))) .nil) (.cons (.cells (.pl (Bo rfl rfl))) .nil) (.cons (.ptr (by decide)) (.cons (.pl (Am.F0 n)) (.cons (.pl rfl) .nil))) (.pl rfl) (fun e he=>by simp only [List.mem_singleton] at he;subst he;exact (.arg (.here .ptr)))
theorem Cn   {c:Ck} {n:Nd} {depth:Int} {yR:Bool} {qc_nodesR:Int} (h:Bg  c n depth=some (yR,qc_nodesR)):Sound P G (.call 50 [.ptr 0 0,.agg (Ba n),.sc (.int .i64 depth)] ⟨[(0,.cells (EP c))],1,[],0⟩ (.ret (.sc (.bool yR))) ⟨[(0,.cells [.sc (.int .i64 qc_nodesR)])],1,[],0⟩):=by
 unfold Bg at h
 refine EY Hd.mixed (AJ Tryz.func50 zX ?_)
 revert h
 refine Ae (fun hb1=>?_) fun hb1=>?_
 refine Aj fun q1 hq1=>?_
 intro h
 have hE:=Option.some.inj h
 obtain ⟨hE0,hF0⟩:=Prod.mk.inj hE
 subst hE0 hF0
 exact Aq Hd.Ac _ _ [] [none] (Aa 300 [pk,pb hb1,KZ (sX hq1 (.tmp 20) (.const (.int .i64 40)))]) (by kernel_rfl) .body
 intro h
 have hE:=Option.some.inj h
 obtain ⟨hE0,hF0⟩:=Prod.mk.inj hE
 subst hE0 hF0
 exact Aq Hd.Ac _ _ [] [none] (Aa 300 [pk,pb hb1]) (by kernel_rfl) .body
noncomputable def vB:Code:=A4 Tryz.f82
theorem b82:Tryz.f82.body=some vB:=by kernel_rfl
noncomputable def GS  (s2:(List Pc)) (i0:Nat) (e0:Pc) :Option (Lp Unit Unit Bool):=(s2[i0]?).bind fun x1=>cond (MX e0 x1) (some (.nx ())) (some (.rt false))
noncomputable def F7  (s1:(List Pc)) (s2:(List Pc)):Option Bool:=cond (Bs ((s1.length:Nat):Int) ((s2.length:Nat):Int)) ((Gy s1.length (AT (fun i y x=>GS  s2 i y ) (fun x=>()) (s1.drop 0) 0 ())).bind (GA (fun (_:Unit)=>some true) (fun v=>some v))) (some false)
theorem NL   {s1:(List Pc)} {s2:(List Pc)} {yR:Bool} (h:F7  s1 s2=some yR):Pure P G 82 [.sl .lost s1.length (rows FC s1),.sl .lost s2.length (rows FC s2)] (.sc (.bool yR)):=by
 unfold F7 at h
 refine BK Hd.mixed Hd.Ac (AJ Tryz.func82 b82 ?_) (Bo (LJ.EH s1) (Bo (LJ.EH s2) rfl)) rfl
 revert h
 refine Ae (fun hb1=>?_) fun hb1=>?_
 refine DQ (fun Q v=>DS P Tryz.f82 0 Q (.sc (.bool v))) (fun i0 (_:Unit) (j0:List Value)=>fr 26 [(0,.sl .lost s1.length (rows FC s1)),(1,.sl .lost s2.length (rows FC s2)),(12,.sc (.int .i64 ((s1.length:Nat):Int))),(13,.sc (.int .i64 ((i0:Nat):Int)))] [4,10,14,24] j0) (fun (_:Unit)=>⟨[],0,[],0⟩) (fun (_:Unit) (jx:List Value)=>fr 26 [] [4,10,14,24] jx) (fun (_:Unit)=>⟨[],0,[],0⟩) [.bool false,.bool false] (DI [] 0 (sb vB 116) [.code (sb vB 15)] (Aa 300 [pn hb1]) (by kernel_rfl)) ?_ ?_ ?_ (fun v h=>by cases h;exact .outer .body)
 rintro i0 ⟨⟩ j0 hge hq
 exact B8 (Aa 300 [pb (IG hge)]) (by kernel_rfl) (hq (js 4 j0 [(2,.bool false)]))
 rintro i0 e0 ⟨⟩ j0 r he0 hi0 mi0 k
 show GS  s2 i0 e0 =some r→_
 unfold GS
 refine Aj fun x1 hx1=>?_
 refine Ae (fun hb2=>?_) fun hb2=>?_
 rintro ⟨⟩
 exact De (Aa 300 [pb (F6 hi0),CP (SH .lost he0),CP (SH .lost hx1),KZ (gE hb2 (.tmp 19) (.tmp 23)),pi mi0]) (by kernel_rfl) (k (js 4 j0 [(2,.bool true),(3,.bool false)]))
 rintro ⟨⟩
 exact AB _ _ (Aa 300 [pb (F6 hi0),CP (SH .lost he0),CP (SH .lost hx1),KZ (gE hb2 (.tmp 19) (.tmp 23))]) (by kernel_rfl) (.GX k) .sc
 rintro ⟨⟩ jx_2
 intro h
 have hE:=Option.some.inj h
 subst hE
 exact AB _ _ (BX 300 []) (by kernel_rfl) .body .sc
 rintro ⟨⟩
 exact rS (Aa 300 [pn hb1]) (by kernel_rfl)
noncomputable def B51:Code:=A4 Tryz.f51
theorem b51:Tryz.f51.body=some B51:=by kernel_rfl
noncomputable def A6  (n:Nd) (fields:Nd):Option Bool:=cond (BJ n.name.data.toList fields.name.data.toList) (cond (BJ n.unit.data.toList fields.unit.data.toList) (cond (Bs n.n fields.n) (cond (Bs n.fr fields.fr) (cond (Bs n.to fields.to) (cond (Bs n.known fields.known) (cond (Bs n.tab.den fields.tab.den) ((F7 n.tab.ps fields.tab.ps).bind fun y1=>some y1) (some false)) (some false)) (some false)) (some false)) (some false)) (some false)) (some false)
theorem A5   {n:Nd} {fields:Nd} {yR:Bool} (h:A6  n fields=some yR):Pure P G 51 [.agg (Ba n),.agg (Ba fields)] (.sc (.bool yR)):=by
 unfold A6 at h
 refine BK Hd.mixed Hd.Ac (AJ Tryz.func51 b51 ?_) (Bo (Am.F0 n) (Bo (Am.F0 fields) rfl)) rfl
 revert h
 refine Ae (fun hb1=>?_) fun hb1=>?_
 refine Ae (fun hb2=>?_) fun hb2=>?_
 let o1:List (PC P G):=[pn hb1,pn hb2]
 refine Ae (fun hb3=>?_) fun hb3=>?_
 refine Ae (fun hb4=>?_) fun hb4=>?_
 refine Ae (fun hb5=>?_) fun hb5=>?_
 refine Ae (fun hb6=>?_) fun hb6=>?_
 refine Ae (fun hb7=>?_) fun hb7=>?_
 refine Aj fun y1 hy1=>?_
 intro h
 have hE:=Option.some.inj h
 subst hE
 exact rS (Aa 300 (o1++[pn hb3,pn hb4,pn hb5,pn hb6,pb hb7,Ak (NL hy1)])) (by kernel_rfl)
 rintro ⟨⟩
 exact rS (Aa 300 (o1++[pn hb3,pn hb4,pn hb5,pn hb6,pb hb7])) (by kernel_rfl)
 rintro ⟨⟩
 exact rS (Aa 300 (o1++[pn hb3,pn hb4,pn hb5,pn hb6])) (by kernel_rfl)
 rintro ⟨⟩
 exact rS (Aa 300 (o1++[pn hb3,pn hb4,pn hb5])) (by kernel_rfl)
 rintro ⟨⟩
 exact rS (Aa 300 (o1++[pn hb3,pn hb4])) (by kernel_rfl)
 rintro ⟨⟩
 exact rS (Aa 300 (o1++[pn hb3])) (by kernel_rfl)
 rintro ⟨⟩
 exact rS (Aa 300 [pn hb1,pn hb2]) (by kernel_rfl)
 rintro ⟨⟩
 exact rS (Aa 300 [pn hb1]) (by kernel_rfl)
noncomputable def n6:Code:=A4 Tryz.f113
theorem vU:Tryz.f113.body=some n6:=by kernel_rfl
noncomputable def EM   (i0:Nat) (e0:UInt8) :Option (Lp Unit Unit Bool):=cond (FQ ((e0.toNat:Nat):Int) 65) (some (.rt false)) (cond (FQ 90 ((e0.toNat:Nat):Int)) (some (.rt false)) (some (.nx ())))
noncomputable def D8  (text:ByteArray):Option Bool:=cond (Bs ((text.data.toList.length:Nat):Int) 3) ((Gy text.data.toList.length (AT (fun i y x=>EM   i y ) (fun x=>()) (text.data.toList.drop 0) 0 ())).bind (GA (fun (_:Unit)=>some true) (fun v=>some v))) (some false)
theorem KY   {text:ByteArray} {yR:Bool} (h:D8  text=some yR):Pure P G 113 [.sc (.string text)] (.sc (.bool yR)):=by
 unfold D8 at h
 refine BK Hd.mixed Hd.Ac (AJ Tryz.func113 vU ?_) (Bo rfl rfl) rfl
 revert h
 refine Ae (fun hb1=>?_) fun hb1=>?_
 refine DQ (fun Q v=>DS P Tryz.f113 0 Q (.sc (.bool v))) (fun i0 (_:Unit) (j0:List Value)=>fr 23 [(0,.sc (.string text)),(8,.sc (.int .i64 ((text.data.toList.length:Nat):Int))),(9,.sc (.int .i64 ((i0:Nat):Int)))] [2,6,10,15,16,20,21] j0) (fun (_:Unit)=>⟨[],0,[],0⟩) (fun (_:Unit) (jx:List Value)=>fr 23 [] [2,6,10,15,16,20,21] jx) (fun (_:Unit)=>⟨[],0,[],0⟩) [.bool false,.bool false] (DI [] 0 (sb n6 116) [.code (sb n6 15)] (Aa 300 [pn hb1]) (by kernel_rfl)) ?_ ?_ ?_ (fun v h=>by cases h;exact .outer .body)
 rintro i0 ⟨⟩ j0 hge hq
 exact B8 (Aa 300 [pb (IG hge)]) (by kernel_rfl) (hq (js 7 j0 [(2,.bool false)]))
 rintro i0 e0 ⟨⟩ j0 r he0 hi0 mi0 k
 show EM   i0 e0 =some r→_
 unfold EM
 refine Ae (fun hb2=>?_) fun hb2=>?_
 rintro ⟨⟩
 exact AB _ _ (Aa 300 [pb (F6 hi0),Q3 (JF he0),pb hb2]) (by kernel_rfl) (.GX k) .sc
 refine Ae (fun hb3=>?_) fun hb3=>?_
 rintro ⟨⟩
 exact AB _ _ (Aa 300 [pb (F6 hi0),Q3 (JF he0),pb hb2,Q3 (JF he0),pb hb3]) (by kernel_rfl) (.GX k) .sc
 rintro ⟨⟩
 exact De (Aa 300 [pb (F6 hi0),Q3 (JF he0),pb hb2,Q3 (JF he0),pb hb3,pi mi0]) (by kernel_rfl) (k [(jv j0 0),(jv j0 1),.bool true,.bool false,.bool false,.bool false,.bool false])
 rintro ⟨⟩ jx_1
 intro h
 have hE:=Option.some.inj h
 subst hE
 exact AB _ _ (BX 300 []) (by kernel_rfl) .body .sc
 rintro ⟨⟩
 exact rS (Aa 300 [pn hb1]) (by kernel_rfl)
noncomputable def B76:Code:=A4 Tryz.f76
theorem b76:Tryz.f76.body=some B76:=by kernel_rfl
noncomputable def CJ  (text:ByteArray):Option Bool:=cond (BJ text.data.toList A3.data.toList) (some true) (cond (BJ text.data.toList By.data.toList) (some true) (cond (BJ text.data.toList Cm.data.toList) (some true) ((D8 text).bind fun y1=>some y1)))
theorem Da   {text:ByteArray} {yR:Bool} (h:CJ  text=some yR):Pure P G 76 [.sc (.string text)] (.sc (.bool yR)):=by
 unfold CJ at h
 refine BK Hd.mixed Hd.Ac (AJ Tryz.func76 b76 ?_) (Bo rfl rfl) rfl
 revert h
 refine Ae (fun hb1=>?_) fun hb1=>?_
 rintro ⟨⟩
 exact rS (Aa 300 [pb hb1]) (by kernel_rfl)
 refine Ae (fun hb2=>?_) fun hb2=>?_
 rintro ⟨⟩
 exact rS (Aa 300 [pb hb1,pb hb2]) (by kernel_rfl)
 refine Ae (fun hb3=>?_) fun hb3=>?_
 rintro ⟨⟩
 exact rS (Aa 300 [pb hb1,pb hb2,pb hb3]) (by kernel_rfl)
 refine Aj fun y1 hy1=>?_
 intro h
 have hE:=Option.some.inj h
 subst hE
 exact rS (Aa 300 [pb hb1,pb hb2,pb hb3,Ak (KY hy1)]) (by kernel_rfl)
noncomputable def uM:Code:=A4 Tryz.f114
theorem vE:Tryz.f114.body=some uM:=by kernel_rfl
noncomputable def EV  (word:ByteArray):Option Bool:=cond (BJ word.data.toList QS.data.toList) (some true) (cond (BJ word.data.toList Qy.data.toList) (some true) (cond (BJ word.data.toList I9.data.toList) (some true) (cond (BJ word.data.toList WW.data.toList) (some true) (cond (BJ word.data.toList Qh.data.toList) (some true) (cond (BJ word.data.toList P8.data.toList) (some true) (cond (BJ word.data.toList n9.data.toList) (some true) (cond (BJ word.data.toList Nc.data.toList) (some true) (cond (BJ word.data.toList Qg.data.toList) (some true) (cond (BJ word.data.toList KD.data.toList) (some true) (cond (BJ word.data.toList KK.data.toList) (some true) (cond (BJ word.data.toList A3.data.toList) (some true) (cond (BJ word.data.toList By.data.toList) (some true) (cond (BJ word.data.toList Cm.data.toList) (some true) (cond (BJ word.data.toList WT.data.toList) (some true) (cond (BJ word.data.toList Qt.data.toList) (some true) (cond (BJ word.data.toList KE.data.toList) (some true) (cond (BJ word.data.toList ML.data.toList) (some true) (cond (BJ word.data.toList Qc.data.toList) (some true) (cond (BJ word.data.toList Sy.data.toList) (some true) (cond (BJ word.data.toList IH.data.toList) (some true) (cond (BJ word.data.toList V6.data.toList) (some true) (cond (BJ word.data.toList R7.data.toList) (some true) (cond (BJ word.data.toList Qa.data.toList) (some true) (cond (BJ word.data.toList Nj.data.toList) (some true) (cond (BJ word.data.toList WM.data.toList) (some true) (cond (BJ word.data.toList EB.data.toList) (some true) (cond (BJ word.data.toList NQ.data.toList) (some true) (cond (BJ word.data.toList Hk.data.toList) (some true) (cond (BJ word.data.toList JU.data.toList) (some true) (cond (BJ word.data.toList GH.data.toList) (some true) (cond (BJ word.data.toList D5.data.toList) (some true) (cond (BJ word.data.toList MQ.data.toList) (some true) (some false)))))))))))))))))))))))))))))))))
theorem II   {word:ByteArray} {yR:Bool} (h:EV  word=some yR):Pure P G 114 [.sc (.string word)] (.sc (.bool yR)):=by
 unfold EV at h
 refine BK Hd.mixed Hd.Ac (AJ Tryz.func114 vE ?_) (Bo rfl rfl) rfl
 revert h
 refine Ae (fun hb1=>?_) fun hb1=>?_
 rintro ⟨⟩
 exact rS (Aa 300 [pb hb1]) (by kernel_rfl)
 let o1:List (PC P G):=[pb hb1]
 refine Ae (fun hb2=>?_) fun hb2=>?_
 rintro ⟨⟩
 exact rS (Aa 300 (o1++[pb hb2])) (by kernel_rfl)
 let o2:List (PC P G):=o1++[pb hb2]
 refine Ae (fun hb3=>?_) fun hb3=>?_
 rintro ⟨⟩
 exact rS (Aa 300 (o2++[pb hb3])) (by kernel_rfl)
 let o3:List (PC P G):=o2++[pb hb3]
 refine Ae (fun hb4=>?_) fun hb4=>?_
 rintro ⟨⟩
 exact rS (Aa 300 (o3++[pb hb4])) (by kernel_rfl)
 let o4:List (PC P G):=o3++[pb hb4]
 refine Ae (fun hb5=>?_) fun hb5=>?_
 rintro ⟨⟩
 exact rS (Aa 300 (o4++[pb hb5])) (by kernel_rfl)
 let o5:List (PC P G):=o4++[pb hb5]
 refine Ae (fun hb6=>?_) fun hb6=>?_
 rintro ⟨⟩
 exact rS (Aa 300 (o5++[pb hb6])) (by kernel_rfl)
 let o6:List (PC P G):=o5++[pb hb6]
 refine Ae (fun hb7=>?_) fun hb7=>?_
 rintro ⟨⟩
 exact rS (Aa 300 (o6++[pb hb7])) (by kernel_rfl)
 let o7:List (PC P G):=o6++[pb hb7]
 refine Ae (fun hb8=>?_) fun hb8=>?_
 rintro ⟨⟩
 exact rS (Aa 300 (o7++[pb hb8])) (by kernel_rfl)
 let o8:List (PC P G):=o7++[pb hb8]
 refine Ae (fun hb9=>?_) fun hb9=>?_
 rintro ⟨⟩
 exact rS (Aa 300 (o8++[pb hb9])) (by kernel_rfl)
 let o9:List (PC P G):=o8++[pb hb9]
 refine Ae (fun hb10=>?_) fun hb10=>?_
 rintro ⟨⟩
 exact rS (Aa 300 (o9++[pb hb10])) (by kernel_rfl)
 let o10:List (PC P G):=o9++[pb hb10]
 refine Ae (fun hb11=>?_) fun hb11=>?_
 rintro ⟨⟩
 exact rS (Aa 300 (o10++[pb hb11])) (by kernel_rfl)
 let o11:List (PC P G):=o10++[pb hb11]
 refine Ae (fun hb12=>?_) fun hb12=>?_
 rintro ⟨⟩
 exact rS (Aa 300 (o11++[pb hb12])) (by kernel_rfl)
 let o12:List (PC P G):=o11++[pb hb12]
 refine Ae (fun hb13=>?_) fun hb13=>?_
 rintro ⟨⟩
 exact rS (Aa 300 (o12++[pb hb13])) (by kernel_rfl)
 let o13:List (PC P G):=o12++[pb hb13]
 refine Ae (fun hb14=>?_) fun hb14=>?_
 rintro ⟨⟩
 exact rS (Aa 300 (o13++[pb hb14])) (by kernel_rfl)
 let o14:List (PC P G):=o13++[pb hb14]
 refine Ae (fun hb15=>?_) fun hb15=>?_
 rintro ⟨⟩
 exact rS (Aa 300 (o14++[pb hb15])) (by kernel_rfl)
 let o15:List (PC P G):=o14++[pb hb15]
 refine Ae (fun hb16=>?_) fun hb16=>?_
 rintro ⟨⟩
 exact rS (Aa 300 (o15++[pb hb16])) (by kernel_rfl)
 let o16:List (PC P G):=o15++[pb hb16]
 refine Ae (fun hb17=>?_) fun hb17=>?_
 rintro ⟨⟩
 exact rS (Aa 300 (o16++[pb hb17])) (by kernel_rfl)
 let o17:List (PC P G):=o16++[pb hb17]
 refine Ae (fun hb18=>?_) fun hb18=>?_
 rintro ⟨⟩
 exact rS (Aa 300 (o17++[pb hb18])) (by kernel_rfl)
 let o18:List (PC P G):=o17++[pb hb18]
 refine Ae (fun hb19=>?_) fun hb19=>?_
 rintro ⟨⟩
 exact rS (Aa 300 (o18++[pb hb19])) (by kernel_rfl)
 let o19:List (PC P G):=o18++[pb hb19]
 refine Ae (fun hb20=>?_) fun hb20=>?_
 rintro ⟨⟩
 exact rS (Aa 300 (o19++[pb hb20])) (by kernel_rfl)
 let o20:List (PC P G):=o19++[pb hb20]
 refine Ae (fun hb21=>?_) fun hb21=>?_
 rintro ⟨⟩
 exact rS (Aa 300 (o20++[pb hb21])) (by kernel_rfl)
 let o21:List (PC P G):=o20++[pb hb21]
 refine Ae (fun hb22=>?_) fun hb22=>?_
 rintro ⟨⟩
 exact rS (Aa 300 (o21++[pb hb22])) (by kernel_rfl)
 let o22:List (PC P G):=o21++[pb hb22]
 refine Ae (fun hb23=>?_) fun hb23=>?_
 rintro ⟨⟩
 exact rS (Aa 300 (o22++[pb hb23])) (by kernel_rfl)
 let o23:List (PC P G):=o22++[pb hb23]
 refine Ae (fun hb24=>?_) fun hb24=>?_
 rintro ⟨⟩
 exact rS (Aa 300 (o23++[pb hb24])) (by kernel_rfl)
 let qH:List (PC P G):=o23++[pb hb24]
 refine Ae (fun hb25=>?_) fun hb25=>?_
 rintro ⟨⟩
 exact rS (Aa 300 (qH++[pb hb25])) (by kernel_rfl)
 refine Ae (fun hb26=>?_) fun hb26=>?_
 rintro ⟨⟩
 exact rS (Aa 300 (qH++[pb hb25,pb hb26])) (by kernel_rfl)
 let o25:List (PC P G):=qH++[pb hb25,pb hb26]
 refine Ae (fun hb27=>?_) fun hb27=>?_
 rintro ⟨⟩
 exact rS (Aa 300 (o25++[pb hb27])) (by kernel_rfl)
 refine Ae (fun hb28=>?_) fun hb28=>?_
 rintro ⟨⟩
 exact rS (Aa 300 (o25++[pb hb27,pb hb28])) (by kernel_rfl)
 let o26:List (PC P G):=o25++[pb hb27,pb hb28]
 refine Ae (fun hb29=>?_) fun hb29=>?_
 rintro ⟨⟩
 exact rS (Aa 300 (o26++[pb hb29])) (by kernel_rfl)
 refine Ae (fun hb30=>?_) fun hb30=>?_
 rintro ⟨⟩
 exact rS (Aa 300 (o26++[pb hb29,pb hb30])) (by kernel_rfl)
 refine Ae (fun hb31=>?_) fun hb31=>?_
 rintro ⟨⟩
 exact rS (Aa 300 (o26++[pb hb29,pb hb30,pb hb31])) (by kernel_rfl)
 refine Ae (fun hb32=>?_) fun hb32=>?_
 rintro ⟨⟩
 exact rS (Aa 300 (o26++[pb hb29,pb hb30,pb hb31,pb hb32])) (by kernel_rfl)
 refine Ae (fun hb33=>?_) fun hb33=>?_
 rintro ⟨⟩
 exact rS (Aa 300 (o26++[pb hb29,pb hb30,pb hb31,pb hb32,pb hb33])) (by kernel_rfl)
 rintro ⟨⟩
 exact rS (Aa 300 (o26++[pb hb29,pb hb30,pb hb31,pb hb32,pb hb33])) (by kernel_rfl)
noncomputable def u4:Code:=A4 Tryz.f77
theorem b77:Tryz.f77.body=some u4:=by kernel_rfl
noncomputable def Ey   (i0:Nat) (e0:UInt8) :Option (Lp Unit Unit Bool):=cond (FQ ((e0.toNat:Nat):Int) 97) (cond (FQ ((e0.toNat:Nat):Int) 48) (some (.rt false)) (cond (FQ 57 ((e0.toNat:Nat):Int)) (cond (Bs ((e0.toNat:Nat):Int) 95) (some (.nx ())) (some (.rt false))) (some (.nx ())))) (cond (FQ 122 ((e0.toNat:Nat):Int)) (some (.rt false)) (some (.nx ())))
noncomputable def Ci  (text:ByteArray):Option Bool:=cond (BJ text.data.toList ByteArray.empty.data.toList) (some false) (cond (FQ 16 ((text.data.toList.length:Nat):Int)) (some false) ((text.data.toList[0]?).bind fun c1=>cond (FQ ((c1.toNat:Nat):Int) 97) (some false) (cond (FQ 122 ((c1.toNat:Nat):Int)) (some false) ((EV text).bind fun y2=>cond y2 (some false) ((Gy text.data.toList.length (AT (fun i y x=>Ey   i y ) (fun x=>()) (text.data.toList.drop 0) 0 ())).bind (GA (fun (_:Unit)=>some true) (fun v=>some v)))))))
theorem DO   {text:ByteArray} {yR:Bool} (h:Ci  text=some yR):Pure P G 77 [.sc (.string text)] (.sc (.bool yR)):=by
 unfold Ci at h
 refine BK Hd.mixed Hd.Ac (AJ Tryz.func77 b77 ?_) (Bo rfl rfl) rfl
 revert h
 refine Ae (fun hb1=>?_) fun hb1=>?_
 rintro ⟨⟩
 exact rS (Aa 300 [pb hb1]) (by kernel_rfl)
 refine Ae (fun hb2=>?_) fun hb2=>?_
 rintro ⟨⟩
 exact rS (Aa 300 [pb hb1,pb hb2]) (by kernel_rfl)
 refine Aj fun c1 hc1=>?_
 let o1:List (PC P G):=[pb hb1,pb hb2,Q3 (JF hc1)]
 refine Ae (fun hb3=>?_) fun hb3=>?_
 rintro ⟨⟩
 exact rS (Aa 300 (o1++[pb hb3])) (by kernel_rfl)
 refine Ae (fun hb4=>?_) fun hb4=>?_
 rintro ⟨⟩
 exact rS (Aa 300 (o1++[pb hb3,Q3 (JF hc1),pb hb4])) (by kernel_rfl)
 refine Aj fun y2 hy2=>?_
 refine Ae (fun hv=>?_) fun hv=>?_
 subst hv
 rintro ⟨⟩
 exact rS (Aa 300 (o1++[pb hb3,Q3 (JF hc1),pb hb4,Ak (II hy2)])) (by kernel_rfl)
 subst hv
 refine DQ (fun Q v=>DS P Tryz.f77 0 Q (.sc (.bool v))) (fun i0 (_:Unit) (j0:List Value)=>fr 53 [(0,.sc (.string text)),(27,.sc (.int .i64 ((text.data.toList.length:Nat):Int))),(28,.sc (.int .i64 ((i0:Nat):Int)))] [2,6,7,10,11,12,15,16,17,20,21,22,24,25,29,35,36,38,39,40,42,43,45,46,47,48,50,51] j0) (fun (_:Unit)=>⟨[],0,[],0⟩) (fun (_:Unit) (jx:List Value)=>fr 53 [] [2,6,7,10,11,12,15,16,17,20,21,22,24,25,29,35,36,38,39,40,42,43,45,46,47,48,50,51] jx) (fun (_:Unit)=>⟨[],0,[],0⟩) [.bool false,.bool false,.bool false,.bool false,.bool false,.bool false,.bool false,.bool false,.bool false,.bool false,.bool false,.bool false,.bool false,.bool false] (DI [] 0 (sb u4 116) [.code (sb u4 15)] (Aa 300 (o1++[pb hb3,Q3 (JF hc1),pb hb4,Ak (II hy2)])) (by kernel_rfl)) ?_ ?_ ?_ (fun v h=>by cases h;exact .outer .body)
 rintro i0 ⟨⟩ j0 hge hq
 exact B8 (Aa 300 [pb (IG hge)]) (by kernel_rfl) (hq (js 28 j0 [(14,.bool false)]))
 rintro i0 e0 ⟨⟩ j0 r he0 hi0 mi0 k
 show Ey   i0 e0 =some r→_
 unfold Ey
 let o2:List (PC P G):=[pb (F6 hi0),Q3 (JF he0)]
 refine Ae (fun hb5=>?_) fun hb5=>?_
 refine Ae (fun hb6=>?_) fun hb6=>?_
 rintro ⟨⟩
 exact AB _ _ (Aa 300 (o2++[pb hb5,pb hb6,pn (B:=Bs ((e0.toNat:Nat):Int) 95) (b:=false) (iM (by have:=Nu hb5;have:=Nu hb6;omega))])) (by kernel_rfl) (.GX k) .sc
 refine Ae (fun hb7=>?_) fun hb7=>?_
 refine Ae (fun hb8=>?_) fun hb8=>?_
 rintro ⟨⟩
 exact De (Aa 300 (o2++[pb hb5,pb hb6,pb hb7,pn hb8,pi mi0])) (by kernel_rfl) (k (js 28 j0 [(14,.bool true),(15,.bool true),(16,.bool true),(17,undef),(18,.bool true),(19,.bool true),(20,.bool false),(21,.bool false),(22,.bool true),(23,.bool true),(24,.bool true),(25,.bool true),(26,.bool false),(27,.bool false)]))
 rintro ⟨⟩
 exact AB _ _ (Aa 300 (o2++[pb hb5,pb hb6,pb hb7,pn hb8])) (by kernel_rfl) (.GX k) .sc
 rintro ⟨⟩
 exact De (Aa 300 (o2++[pb hb5,pb hb6,pb hb7,pi mi0])) (by kernel_rfl) (k (js 28 j0 [(14,.bool true),(15,.bool true),(16,.bool true),(17,undef),(18,.bool true),(19,.bool true),(20,.bool false),(21,.bool false),(22,.bool false),(23,.bool false),(24,.bool false),(25,.bool false),(26,undef),(27,.bool false)]))
 refine Ae (fun hb9=>?_) fun hb9=>?_
 rintro ⟨⟩
 exact AB _ _ (Aa 300 (o2++[pb hb5,pb hb9,pb (B:=FQ ((e0.toNat:Nat):Int) 48) (b:=false) (gQ (by have:=XV hb5;have:=Nu hb9;omega)),pb (B:=FQ 57 ((e0.toNat:Nat):Int)) (b:=true) (p4 (by have:=XV hb5;have:=Nu hb9;omega)),pn (B:=Bs ((e0.toNat:Nat):Int) 95) (b:=false) (iM (by have:=XV hb5;have:=Nu hb9;omega))])) (by kernel_rfl) (.GX k) .sc
 rintro ⟨⟩
 exact De (Aa 300 (o2++[pb hb5,pb hb9,pi mi0])) (by kernel_rfl) (k (js 28 j0 [(14,.bool true),(15,.bool false),(16,.bool false),(17,.bool false),(18,.bool false),(19,.bool false),(20,undef),(21,undef),(22,undef),(23,undef),(24,.bool false),(25,.bool false),(26,undef),(27,.bool false)]))
 rintro ⟨⟩ jx_3
 intro h
 have hE:=Option.some.inj h
 subst hE
 exact AB _ _ (BX 300 []) (by kernel_rfl) .body .sc
noncomputable def B78:Code:=A4 Tryz.f78
theorem zW:Tryz.f78.body=some B78:=by kernel_rfl
noncomputable def BY  (n:Int):Option Bool:=cond (KT 1 n) (cond (KT n 1000000) (some true) (some false)) (some false)
theorem DE   {n:Int} {yR:Bool} (h:BY  n=some yR):Pure P G 78 [.sc (.int .i64 n)] (.sc (.bool yR)):=by
 unfold BY at h
 refine BK Hd.mixed Hd.Ac (AJ Tryz.func78 zW ?_) (Bo rfl rfl) rfl
 revert h
 refine Ae (fun hb1=>?_) fun hb1=>?_
 refine Ae (fun hb2=>?_) fun hb2=>?_
 rintro ⟨⟩
 exact rS (Aa 300 [pb hb1,pb hb2]) (by kernel_rfl)
 rintro ⟨⟩
 exact rS (Aa 300 [pb hb1,pb hb2]) (by kernel_rfl)
 rintro ⟨⟩
 exact rS (Aa 300 [pb hb1]) (by kernel_rfl)
noncomputable def B79:Code:=A4 Tryz.f79
theorem b79:Tryz.f79.body=some B79:=by kernel_rfl
noncomputable def Dq  (word:ByteArray):Option Bool:=cond (BJ word.data.toList EB.data.toList) (some true) (cond (BJ word.data.toList NQ.data.toList) (some true) (cond (BJ word.data.toList Hk.data.toList) (some true) (cond (BJ word.data.toList JU.data.toList) (some true) (some false))))
theorem Jw   {word:ByteArray} {yR:Bool} (h:Dq  word=some yR):Pure P G 79 [.sc (.string word)] (.sc (.bool yR)):=by
 unfold Dq at h
 refine BK Hd.mixed Hd.Ac (AJ Tryz.func79 b79 ?_) (Bo rfl rfl) rfl
 revert h
 refine Ae (fun hb1=>?_) fun hb1=>?_
 rintro ⟨⟩
 exact rS (Aa 300 [pb hb1]) (by kernel_rfl)
 refine Ae (fun hb2=>?_) fun hb2=>?_
 rintro ⟨⟩
 exact rS (Aa 300 [pb hb1,pb hb2]) (by kernel_rfl)
 refine Ae (fun hb3=>?_) fun hb3=>?_
 rintro ⟨⟩
 exact rS (Aa 300 [pb hb1,pb hb2,pb hb3]) (by kernel_rfl)
 refine Ae (fun hb4=>?_) fun hb4=>?_
 rintro ⟨⟩
 exact rS (Aa 300 [pb hb1,pb hb2,pb hb3,pb hb4]) (by kernel_rfl)
 rintro ⟨⟩
 exact rS (Aa 300 [pb hb1,pb hb2,pb hb3,pb hb4]) (by kernel_rfl)
noncomputable def wE:Code:=A4 Tryz.f81
theorem b81:Tryz.f81.body=some wE:=by kernel_rfl
noncomputable def D2  (f:Fn) (i0:Nat) (e0:Pc) :Option (Lp Unit Unit Bool):=cond (FQ 999999999999 e0.fr) (some (.rt false)) (cond (FQ 0 ((i0:Nat):Int)) ((RU f.ps (Rh ((i0:Nat):Int) 1)).bind fun x3=>cond (KT e0.fr x3.fr) (some (.rt false)) ((PJ e0.att f.den).bind fun z4=>cond (Bs z4 0) (cond (FQ (PO 999999999999 f.den) e0.att) (some (.rt false)) (cond (FQ e0.att (PO (-999999999999) f.den)) (some (.rt false)) (cond (FQ 1000000 e0.slope) (some (.rt false)) (cond (FQ e0.slope (-1000000)) (some (.rt false)) (some (.nx ())))))) (some (.rt false)))) ((PJ e0.att f.den).bind fun z5=>cond (Bs z5 0) (cond (FQ (PO 999999999999 f.den) e0.att) (some (.rt false)) (cond (FQ e0.att (PO (-999999999999) f.den)) (some (.rt false)) (cond (FQ 1000000 e0.slope) (some (.rt false)) (cond (FQ e0.slope (-1000000)) (some (.rt false)) (some (.nx ())))))) (some (.rt false))))
noncomputable def DB  (f:Fn):Option Bool:=(BY f.den).bind fun y1=>cond y1 (cond (FQ ((f.ps.length:Nat):Int) 1) (some false) (cond (FQ 64 ((f.ps.length:Nat):Int)) (some false) ((f.ps[0]?).bind fun x2=>cond (Bs x2.fr 0) ((Gy f.ps.length (AT (fun i y x=>D2  f i y ) (fun x=>()) (f.ps.drop 0) 0 ())).bind (GA (fun (_:Unit)=>some true) (fun v=>some v))) (some false)))) (some false)
theorem EJ   {f:Fn} {yR:Bool} (h:DB  f=some yR):Pure P G 81 [.agg (W6 f)] (.sc (.bool yR)):=by
 unfold DB at h
 refine BK Hd.mixed Hd.Ac (AJ Tryz.func81 b81 ?_) (Bo (Oj.F0 f) rfl) rfl
 revert h
 refine Aj fun y1 hy1=>?_
 let o1:List (PC P G):=[Ak (DE hy1)]
 refine Ae (fun hv=>?_) fun hv=>?_
 subst hv
 refine Ae (fun hb1=>?_) fun hb1=>?_
 rintro ⟨⟩
 exact rS (Aa 300 (o1++[pb hb1])) (by kernel_rfl)
 refine Ae (fun hb2=>?_) fun hb2=>?_
 rintro ⟨⟩
 exact rS (Aa 300 (o1++[pb hb1,pb hb2])) (by kernel_rfl)
 refine Aj fun x2 hx2=>?_
 refine Ae (fun hb3=>?_) fun hb3=>?_
 refine DQ (fun Q v=>DS P Tryz.f81 0 Q (.sc (.bool v))) (fun i0 (_:Unit) (j0:List Value)=>fr 87 [(1,.ptr 0 0),(30,.sl .lost f.ps.length (rows FC f.ps)),(31,.sc (.int .i64 ((f.ps.length:Nat):Int))),(32,.sc (.int .i64 ((i0:Nat):Int)))] [2,7,8,9,13,14,15,19,20,21,27,28,33,39,40,42,43,53,54,55,61,62,68,69,70,76,77,80,81,84,85] j0) (fun (_:Unit)=>⟨[(0,.cells (W6 f))],1,[],0⟩) (fun (_:Unit) (jx:List Value)=>fr 87 [] [2,7,8,9,13,14,15,19,20,21,27,28,33,39,40,42,43,53,54,55,61,62,68,69,70,76,77,80,81,84,85] jx) (fun (_:Unit)=>⟨[(0,.cells (W6 f))],1,[],0⟩) [.bool false,.bool true,.bool false,.bool false,.bool false,.bool false,.bool false,.bool false,.bool false,.bool false,.bool false,.bool false] (DI [] 0 (sb wE 116) [.code (sb wE 15)] (Aa 300 (o1++[pb hb1,pb hb2,CP (SH .lost hx2),pn hb3])) (by kernel_rfl)) ?_ ?_ ?_ (fun v h=>by cases h;exact .outer .body)
 rintro i0 ⟨⟩ j0 hge hq
 exact B8 (Aa 300 [pb (IG hge)]) (by kernel_rfl) (hq (js 31 j0 [(12,.bool false)]))
 rintro i0 e0 ⟨⟩ j0 r he0 hi0 mi0 k
 show D2  f i0 e0 =some r→_
 unfold D2
 let o2:List (PC P G):=[pb (F6 hi0),CP (SH .lost he0)]
 refine Ae (fun hb4=>?_) fun hb4=>?_
 rintro ⟨⟩
 exact AB _ _ (Aa 300 (o2++[pb hb4])) (by kernel_rfl) (.GX k) .sc
 let o3:List (PC P G):=o2++[pb hb4]
 refine Ae (fun hb5=>?_) fun hb5=>?_
 refine Aj fun x3 hx3=>?_
 let o4:List (PC P G):=o3++[pb hb5,pk,CP (Zs .lost hx3)]
 refine Ae (fun hb6=>?_) fun hb6=>?_
 rintro ⟨⟩
 exact AB _ _ (Aa 300 (o4++[pb hb6])) (by kernel_rfl) (.GX k) .sc
 refine Aj fun z4 hz4=>?_
 let o5:List (PC P G):=o4++[pb hb6,KZ (Q8 hz4 (.tmp 57) (.tmp 59))]
 refine Ae (fun hb7=>?_) fun hb7=>?_
 refine Ae (fun hb8=>?_) fun hb8=>?_
 rintro ⟨⟩
 exact AB _ _ (Aa 300 (o5++[pn hb7,pk,pb hb8])) (by kernel_rfl) (.GX k) .sc
 refine Ae (fun hb9=>?_) fun hb9=>?_
 rintro ⟨⟩
 exact AB _ _ (Aa 300 (o5++[pn hb7,pk,pb hb8,pk,pb hb9])) (by kernel_rfl) (.GX k) .sc
 refine Ae (fun hb10=>?_) fun hb10=>?_
 rintro ⟨⟩
 exact AB _ _ (Aa 300 (o5++[pn hb7,pk,pb hb8,pk,pb hb9,pb hb10])) (by kernel_rfl) (.GX k) .sc
 refine Ae (fun hb11=>?_) fun hb11=>?_
 rintro ⟨⟩
 exact AB _ _ (Aa 300 (o5++[pn hb7,pk,pb hb8,pk,pb hb9,pb hb10,pb hb11])) (by kernel_rfl) (.GX k) .sc
 rintro ⟨⟩
 exact B7 Hd.Ac [fq (LJ.EH f.ps)] [bp (Oj.pl f)] (Aa 300 (o5++[pn hb7,pk,pb hb8,pk,pb hb9,pb hb10,pb hb11,pi mi0])) (by kernel_rfl) (k (js 31 j0 [(12,.bool true),(13,.bool false),(14,.bool false),(15,.bool true),(16,.bool true),(17,.bool false),(18,.bool false),(19,.bool false),(20,.bool false),(21,.bool false),(22,.bool false),(23,.bool false),(24,.bool false),(25,.bool false),(26,.bool false),(27,.bool false),(28,.bool false),(29,.bool false),(30,.bool false)]))
 rintro ⟨⟩
 exact AB _ _ (Aa 300 (o5++[pn hb7])) (by kernel_rfl) (.GX k) .sc
 refine Aj fun z5 hz5=>?_
 let o6:List (PC P G):=o3++[pb hb5,KZ (Q8 hz5 (.tmp 57) (.tmp 59))]
 refine Ae (fun hb12=>?_) fun hb12=>?_
 refine Ae (fun hb13=>?_) fun hb13=>?_
 rintro ⟨⟩
 exact AB _ _ (Aa 300 (o6++[pn hb12,pk,pb hb13])) (by kernel_rfl) (.GX k) .sc
 refine Ae (fun hb14=>?_) fun hb14=>?_
 rintro ⟨⟩
 exact AB _ _ (Aa 300 (o6++[pn hb12,pk,pb hb13,pk,pb hb14])) (by kernel_rfl) (.GX k) .sc
 refine Ae (fun hb15=>?_) fun hb15=>?_
 rintro ⟨⟩
 exact AB _ _ (Aa 300 (o6++[pn hb12,pk,pb hb13,pk,pb hb14,pb hb15])) (by kernel_rfl) (.GX k) .sc
 refine Ae (fun hb16=>?_) fun hb16=>?_
 rintro ⟨⟩
 exact AB _ _ (Aa 300 (o6++[pn hb12,pk,pb hb13,pk,pb hb14,pb hb15,pb hb16])) (by kernel_rfl) (.GX k) .sc
 rintro ⟨⟩
 exact B7 Hd.Ac [fq (LJ.EH f.ps)] [bp (Oj.pl f)] (Aa 300 (o6++[pn hb12,pk,pb hb13,pk,pb hb14,pb hb15,pb hb16,pi mi0])) (by kernel_rfl) (k (js 31 j0 [(12,.bool true),(13,.bool false),(14,.bool false),(15,.bool false),(16,.bool false),(17,undef),(18,.bool false),(19,.bool false),(20,.bool false),(21,.bool false),(22,.bool false),(23,.bool false),(24,.bool false),(25,.bool false),(26,.bool false),(27,.bool false),(28,.bool false),(29,.bool false),(30,.bool false)]))
 rintro ⟨⟩
 exact AB _ _ (Aa 300 (o6++[pn hb12])) (by kernel_rfl) (.GX k) .sc
 rintro ⟨⟩ jx_6
 intro h
 have hE:=Option.some.inj h
 subst hE
 exact AB _ _ (BX 300 []) (by kernel_rfl) .body .sc
 rintro ⟨⟩
 exact rS (Aa 300 (o1++[pb hb1,pb hb2,CP (SH .lost hx2),pn hb3])) (by kernel_rfl)
 subst hv
 rintro ⟨⟩
 exact rS (Aa 300 o1) (by kernel_rfl)
theorem AL {c:Ck} {n:Nd} {depth:Int} {yR:Bool} {qc_nodesR:Int} (hS:Sound P G (.call 49 [.ptr 0 0,.agg (Ba n),.sc (.int .i64 depth)] ⟨[(0,.cells (EP c))],1,[],0⟩ (.ret (.sc (.bool yR))) ⟨[(0,.cells [.sc (.int .i64 qc_nodesR)])],1,[],0⟩)) (u0:Nat) (hnb:[u0].Nodup:=by decide) (hnt:([]:List Nat).Nodup:=by decide):Cd.ok P G (.callU 49 [.ptr u0 0,.agg (Ba n),.sc (.int .i64 depth)] (.ret (.sc (.bool yR))) [(u0,.cells (EP c))] [] [(u0,.cells [.sc (.int .i64 qc_nodesR)])] []) :=
 ER (M:=[.cells (EP c)]) (M2:=[.cells [.sc (.int .i64 qc_nodesR)]]) (T:=[]) (T2:=[]) (k:=1) (j:=0) Hd.Ac _ _ _ _ hS rfl rfl rfl rfl rfl hnb hnt rfl rfl (.cons (.cells (.pl (J2.pl c))) .nil) (.cons (.cells (.pl (Bo rfl rfl))) .nil) (.cons (.ptr (by decide)) (.cons (.pl (Am.F0 n)) (.cons (.pl rfl) .nil))) (.pl rfl) (fun e he=>by simp only [List.mem_singleton] at he;subst he;exact (.arg (.here .ptr)))
theorem I8 {c:Ck} {n:Nd} {depth:Int} {yR:Bool} {qc_nodesR:Int} (hS:Sound P G (.call 80 [.ptr 0 0,.agg (Ba n),.sc (.int .i64 depth)] ⟨[(0,.cells (EP c))],1,[],0⟩ (.ret (.sc (.bool yR))) ⟨[(0,.cells [.sc (.int .i64 qc_nodesR)])],1,[],0⟩)) (u0:Nat) (hnb:[u0].Nodup:=by decide) (hnt:([]:List Nat).Nodup:=by decide):Cd.ok P G (.callU 80 [.ptr u0 0,.agg (Ba n),.sc (.int .i64 depth)] (.ret (.sc (.bool yR))) [(u0,.cells (EP c))] [] [(u0,.cells [.sc (.int .i64 qc_nodesR)])] []) :=
 ER (M:=[.cells (EP c)]) (M2:=[.cells [.sc (.int .i64 qc_nodesR)]]) (T:=[]) (T2:=[]) (k:=1) (j:=0) Hd.Ac _ _ _ _ hS rfl rfl rfl rfl rfl hnb hnt rfl rfl (.cons (.cells (.pl (J2.pl c))) .nil) (.cons (.cells (.pl (Bo rfl rfl))) .nil) (.cons (.ptr (by decide)) (.cons (.pl (Am.F0 n)) (.cons (.pl rfl) .nil))) (.pl rfl) (fun e he=>by simp only [List.mem_singleton] at he;subst he;exact (.arg (.here .ptr)))
theorem F4 {c:Ck} {n:Nd} {depth:Int} {yR:Bool} {qc_nodesR:Int} (hS:Sound P G (.call 115 [.ptr 0 0,.agg (Ba n),.sc (.int .i64 depth)] ⟨[(0,.cells (EP c))],1,[],0⟩ (.ret (.sc (.bool yR))) ⟨[(0,.cells [.sc (.int .i64 qc_nodesR)])],1,[],0⟩)) (u0:Nat) (hnb:[u0].Nodup:=by decide) (hnt:([]:List Nat).Nodup:=by decide):Cd.ok P G (.callU 115 [.ptr u0 0,.agg (Ba n),.sc (.int .i64 depth)] (.ret (.sc (.bool yR))) [(u0,.cells (EP c))] [] [(u0,.cells [.sc (.int .i64 qc_nodesR)])] []) :=
 ER (M:=[.cells (EP c)]) (M2:=[.cells [.sc (.int .i64 qc_nodesR)]]) (T:=[]) (T2:=[]) (k:=1) (j:=0) Hd.Ac _ _ _ _ hS rfl rfl rfl rfl rfl hnb hnt rfl rfl (.cons (.cells (.pl (J2.pl c))) .nil) (.cons (.cells (.pl (Bo rfl rfl))) .nil) (.cons (.ptr (by decide)) (.cons (.pl (Am.F0 n)) (.cons (.pl rfl) .nil))) (.pl rfl) (fun e he=>by simp only [List.mem_singleton] at he;subst he;exact (.arg (.here .ptr)))
theorem Fw {c:Ck} {list:(List Nd)} {depth:Int} {yR:Bool} {qc_nodesR:Int} (hS:Sound P G (.call 52 [.ptr 0 0,.sl .lost list.length (A7 list),.sc (.int .i64 depth),.fn (.func 49) [.ptr 0 0] []] ⟨[(0,.cells (EP c))],1,[],0⟩ (.ret (.sc (.bool yR))) ⟨[(0,.cells [.sc (.int .i64 qc_nodesR)])],1,[],0⟩)) (u0:Nat) (hnb:[u0].Nodup:=by decide) (hnt:([]:List Nat).Nodup:=by decide):Cd.ok P G (.callU 52 [.ptr u0 0,.sl .lost list.length (A7 list),.sc (.int .i64 depth),.fn (.func 49) [.ptr u0 0] []] (.ret (.sc (.bool yR))) [(u0,.cells (EP c))] [] [(u0,.cells [.sc (.int .i64 qc_nodesR)])] []) :=
 ER (M:=[.cells (EP c)]) (M2:=[.cells [.sc (.int .i64 qc_nodesR)]]) (T:=[]) (T2:=[]) (k:=1) (j:=0) Hd.Ac _ _ _ _ hS rfl rfl rfl rfl rfl hnb hnt rfl rfl (.cons (.cells (.pl (J2.pl c))) .nil) (.cons (.cells (.pl (Bo rfl rfl))) .nil) (.cons (.ptr (by decide)) (.cons (.pl (Am.EH list)) (.cons (.pl rfl) (.cons (.fn (.cons (.ptr (by decide)) .nil) (.pl rfl)) .nil)))) (.pl rfl) (fun e he=>by simp only [List.mem_singleton] at he;subst he;exact (.arg (.here .ptr)))
noncomputable def B49:Code:=A4 Tryz.f49
theorem b49:Tryz.f49.body=some B49:=by kernel_rfl
noncomputable def Cl (Ai:Ck→Nd→Int→Option (Bool×Int)) (Az:Ck→Nd→Int→Option (Bool×Int)) (Ay:Ck→Nd→Int→Option (Bool×Int)) (Ap:Ck→(List Nd)→Int→Option (Bool×Int)) (c:Ck) (n:Nd) (depth:Int):Option (Bool×Int):=(Bg c n depth).bind fun (y1a,y1b)=>cond y1a (cond (Bs n.kind 11) ((CJ n.unit).bind fun y2=>cond y2 (cond (FQ n.n 0) (some (false,y1b)) (cond (FQ 999999999999 n.n) (some (false,y1b)) (cond (BJ n.unit.data.toList A3.data.toList) (cond (FQ 1 n.n) (some (false,y1b)) (cond (Bs ((n.kids.length:Nat):Int) 0) ((A6 n (⟨0,ByteArray.empty,n.unit,n.n,0,0,0,(⟨0,[]⟩:Fn),[],0⟩:Nd)).bind fun y3=>some (y3,y1b)) (some (false,y1b)))) (cond (Bs ((n.kids.length:Nat):Int) 0) ((A6 n (⟨0,ByteArray.empty,n.unit,n.n,0,0,0,(⟨0,[]⟩:Fn),[],0⟩:Nd)).bind fun y4=>some (y4,y1b)) (some (false,y1b)))))) (some (false,y1b))) (cond (Bs n.kind 12) ((Ci n.name).bind fun y5=>cond y5 (cond (Bs ((n.kids.length:Nat):Int) 0) ((A6 n (⟨0,n.name,ByteArray.empty,0,0,0,0,(⟨0,[]⟩:Fn),[],0⟩:Nd)).bind fun y6=>some (y6,y1b)) (some (false,y1b))) (some (false,y1b))) (cond (Bs n.kind 13) ((BY n.n).bind fun y7=>cond y7 (cond (Bs ((n.kids.length:Nat):Int) 0) ((A6 n (⟨0,ByteArray.empty,ByteArray.empty,n.n,0,0,0,(⟨0,[]⟩:Fn),[],0⟩:Nd)).bind fun y8=>some (y8,y1b)) (some (false,y1b))) (some (false,y1b))) (cond (Bs n.kind 14) ((Dq n.name).bind fun y9=>cond y9 (cond (Bs ((n.kids.length:Nat):Int) 0) ((A6 n (⟨0,n.name,ByteArray.empty,0,0,0,0,(⟨0,[]⟩:Fn),[],0⟩:Nd)).bind fun y10=>some (y10,y1b)) (some (false,y1b))) (some (false,y1b))) (cond (Bs n.kind 15) (cond (Bs ((n.kids.length:Nat):Int) 1) ((A6 n (⟨0,ByteArray.empty,ByteArray.empty,0,0,0,0,(⟨0,[]⟩:Fn),[],0⟩:Nd)).bind fun y11=>cond y11 ((n.kids[0]?).bind fun x12=>(Ai (⟨y1b⟩:Ck) x12 (BM depth 1)).bind fun (y13a,y13b)=>some (y13a,y13b)) (some (false,y1b))) (some (false,y1b))) (cond (Bs n.kind 16) ((A6 n (⟨0,n.name,ByteArray.empty,0,0,0,0,(⟨0,[]⟩:Fn),[],0⟩:Nd)).bind fun y14=>cond y14 ((Az (⟨y1b⟩:Ck) n depth).bind fun (y15a,y15b)=>some (y15a,y15b)) (some (false,y1b))) (cond (Bs n.kind 17) (cond (BJ n.name.data.toList GH.data.toList) ((A6 n (⟨0,n.name,ByteArray.empty,0,0,0,0,(⟨0,[]⟩:Fn),[],0⟩:Nd)).bind fun y16=>cond y16 (cond (KT 2 ((n.kids.length:Nat):Int)) ((Ap (⟨y1b⟩:Ck) n.kids (BM depth 1)).bind fun (y17a,y17b)=>some (y17a,y17b)) (some (false,y1b))) (some (false,y1b))) (cond (BJ n.name.data.toList D5.data.toList) ((A6 n (⟨0,n.name,ByteArray.empty,0,0,0,0,(⟨0,[]⟩:Fn),[],0⟩:Nd)).bind fun y18=>cond y18 (cond (KT 2 ((n.kids.length:Nat):Int)) ((Ap (⟨y1b⟩:Ck) n.kids (BM depth 1)).bind fun (y19a,y19b)=>some (y19a,y19b)) (some (false,y1b))) (some (false,y1b))) (some (false,y1b)))) (cond (Bs n.kind 18) ((A6 n (⟨0,ByteArray.empty,ByteArray.empty,0,0,0,0,n.tab,[],0⟩:Nd)).bind fun y20=>cond y20 ((DB n.tab).bind fun y21=>cond y21 (cond (Bs ((n.kids.length:Nat):Int) 1) ((n.kids[0]?).bind fun x22=>(Ai (⟨y1b⟩:Ck) x22 (BM depth 1)).bind fun (y23a,y23b)=>some (y23a,y23b)) (some (false,y1b))) (some (false,y1b))) (some (false,y1b))) (some (false,y1b)))))))))) (some (false,y1b))
theorem I2 (Ai:Ck→Nd→Int→Option (Bool×Int)) (Az:Ck→Nd→Int→Option (Bool×Int)) (Ay:Ck→Nd→Int→Option (Bool×Int)) (Ap:Ck→(List Nd)→Int→Option (Bool×Int)) (AE:∀ {c:Ck} {n:Nd} {depth:Int} {yR:Bool} {qc_nodesR:Int},Ai c n depth=some (yR,qc_nodesR)→Sound P G (.call 49 [.ptr 0 0,.agg (Ba n),.sc (.int .i64 depth)] ⟨[(0,.cells (EP c))],1,[],0⟩ (.ret (.sc (.bool yR))) ⟨[(0,.cells [.sc (.int .i64 qc_nodesR)])],1,[],0⟩)) (C6:∀ {c:Ck} {n:Nd} {depth:Int} {yR:Bool} {qc_nodesR:Int},Az c n depth=some (yR,qc_nodesR)→Sound P G (.call 80 [.ptr 0 0,.agg (Ba n),.sc (.int .i64 depth)] ⟨[(0,.cells (EP c))],1,[],0⟩ (.ret (.sc (.bool yR))) ⟨[(0,.cells [.sc (.int .i64 qc_nodesR)])],1,[],0⟩)) (C2:∀ {c:Ck} {n:Nd} {depth:Int} {yR:Bool} {qc_nodesR:Int},Ay c n depth=some (yR,qc_nodesR)→Sound P G (.call 115 [.ptr 0 0,.agg (Ba n),.sc (.int .i64 depth)] ⟨[(0,.cells (EP c))],1,[],0⟩ (.ret (.sc (.bool yR))) ⟨[(0,.cells [.sc (.int .i64 qc_nodesR)])],1,[],0⟩)) (BW:∀ {c:Ck} {list:(List Nd)} {depth:Int} {yR:Bool} {qc_nodesR:Int},Ap c list depth=some (yR,qc_nodesR)→Sound P G (.call 52 [.ptr 0 0,.sl .lost list.length (A7 list),.sc (.int .i64 depth),.fn (.func 49) [.ptr 0 0] []] ⟨[(0,.cells (EP c))],1,[],0⟩ (.ret (.sc (.bool yR))) ⟨[(0,.cells [.sc (.int .i64 qc_nodesR)])],1,[],0⟩)) {c:Ck} {n:Nd} {depth:Int} {yR:Bool} {qc_nodesR:Int} (h:Cl Ai Az Ay Ap c n depth=some (yR,qc_nodesR)):Sound P G (.call 49 [.ptr 0 0,.agg (Ba n),.sc (.int .i64 depth)] ⟨[(0,.cells (EP c))],1,[],0⟩ (.ret (.sc (.bool yR))) ⟨[(0,.cells [.sc (.int .i64 qc_nodesR)])],1,[],0⟩):=by
 unfold Cl at h
 refine EY Hd.mixed (AJ Tryz.func49 b49 ?_)
 revert h
 refine Aj ?_
 rintro ⟨y1a,y1b⟩ hy1
 dsimp only
 let o1:List (PC P G):=[AK (CY (Cn hy1) 0)]
 refine Ae (fun hv=>?_) fun hv=>?_
 subst hv
 refine Ae (fun hb1=>?_) fun hb1=>?_
 refine Aj fun y2 hy2=>?_
 let o2:List (PC P G):=o1++[pb hb1,Ak (Da hy2)]
 refine Ae (fun hv=>?_) fun hv=>?_
 subst hv
 refine Ae (fun hb2=>?_) fun hb2=>?_
 intro h
 have hE:=Option.some.inj h
 obtain ⟨hE0,hF0⟩:=Prod.mk.inj hE
 subst hE0 hF0
 exact Aq Hd.Ac _ _ [] [none] (Aa 300 (o2++[pb hb2])) (by kernel_rfl) .body
 refine Ae (fun hb3=>?_) fun hb3=>?_
 intro h
 have hE:=Option.some.inj h
 obtain ⟨hE0,hF0⟩:=Prod.mk.inj hE
 subst hE0 hF0
 exact Aq Hd.Ac _ _ [] [none] (Aa 300 (o2++[pb hb2,pb hb3])) (by kernel_rfl) .body
 refine Ae (fun hb4=>?_) fun hb4=>?_
 refine Ae (fun hb5=>?_) fun hb5=>?_
 intro h
 have hE:=Option.some.inj h
 obtain ⟨hE0,hF0⟩:=Prod.mk.inj hE
 subst hE0 hF0
 exact Aq Hd.Ac _ _ [] [none] (Aa 300 (o2++[pb hb2,pb hb3,pb hb4,pb hb5])) (by kernel_rfl) .body
 refine Ae (fun hb6=>?_) fun hb6=>?_
 refine Aj fun y3 hy3=>?_
 intro h
 have hE:=Option.some.inj h
 obtain ⟨hE0,hF0⟩:=Prod.mk.inj hE
 subst hE0 hF0
 exact Aq Hd.Ac _ _ [] [none] (Aa 300 (o2++[pb hb2,pb hb3,pb hb4,pb hb5,pb hb6,El (.r (.g (.r (.r (.r (.r (.r (.r (.r (.r (.z (.z (.r .nil))))))))))) .nil)) (A5 hy3)])) (by kernel_rfl) .body
 intro h
 have hE:=Option.some.inj h
 obtain ⟨hE0,hF0⟩:=Prod.mk.inj hE
 subst hE0 hF0
 exact Aq Hd.Ac _ _ [] [none] (Aa 300 (o2++[pb hb2,pb hb3,pb hb4,pb hb5,pb hb6])) (by kernel_rfl) .body
 refine Ae (fun hb7=>?_) fun hb7=>?_
 refine Aj fun y4 hy4=>?_
 intro h
 have hE:=Option.some.inj h
 obtain ⟨hE0,hF0⟩:=Prod.mk.inj hE
 subst hE0 hF0
 exact Aq Hd.Ac _ _ [] [none] (Aa 300 (o2++[pb hb2,pb hb3,pb hb4,pb hb7,El (.r (.g (.r (.r (.r (.r (.r (.r (.r (.r (.z (.z (.r .nil))))))))))) .nil)) (A5 hy4)])) (by kernel_rfl) .body
 intro h
 have hE:=Option.some.inj h
 obtain ⟨hE0,hF0⟩:=Prod.mk.inj hE
 subst hE0 hF0
 exact Aq Hd.Ac _ _ [] [none] (Aa 300 (o2++[pb hb2,pb hb3,pb hb4,pb hb7])) (by kernel_rfl) .body
 subst hv
 intro h
 have hE:=Option.some.inj h
 obtain ⟨hE0,hF0⟩:=Prod.mk.inj hE
 subst hE0 hF0
 exact Aq Hd.Ac _ _ [] [none] (Aa 300 o2) (by kernel_rfl) .body
 let o3:List (PC P G):=o1++[pb hb1]
 refine Ae (fun hb8=>?_) fun hb8=>?_
 refine Aj fun y5 hy5=>?_
 let o4:List (PC P G):=o3++[pb hb8,Ak (DO hy5)]
 refine Ae (fun hv=>?_) fun hv=>?_
 subst hv
 refine Ae (fun hb9=>?_) fun hb9=>?_
 refine Aj fun y6 hy6=>?_
 intro h
 have hE:=Option.some.inj h
 obtain ⟨hE0,hF0⟩:=Prod.mk.inj hE
 subst hE0 hF0
 exact Aq Hd.Ac _ _ [] [none] (Aa 300 (o4++[pb hb9,El (.r (.g (.r (.r (.r (.r (.r (.r (.r (.r (.z (.z (.r .nil))))))))))) .nil)) (A5 hy6)])) (by kernel_rfl) .body
 intro h
 have hE:=Option.some.inj h
 obtain ⟨hE0,hF0⟩:=Prod.mk.inj hE
 subst hE0 hF0
 exact Aq Hd.Ac _ _ [] [none] (Aa 300 (o4++[pb hb9])) (by kernel_rfl) .body
 subst hv
 intro h
 have hE:=Option.some.inj h
 obtain ⟨hE0,hF0⟩:=Prod.mk.inj hE
 subst hE0 hF0
 exact Aq Hd.Ac _ _ [] [none] (Aa 300 o4) (by kernel_rfl) .body
 let o5:List (PC P G):=o3++[pb hb8]
 refine Ae (fun hb10=>?_) fun hb10=>?_
 refine Aj fun y7 hy7=>?_
 let o6:List (PC P G):=o5++[pb hb10,Ak (DE hy7)]
 refine Ae (fun hv=>?_) fun hv=>?_
 subst hv
 refine Ae (fun hb11=>?_) fun hb11=>?_
 refine Aj fun y8 hy8=>?_
 intro h
 have hE:=Option.some.inj h
 obtain ⟨hE0,hF0⟩:=Prod.mk.inj hE
 subst hE0 hF0
 exact Aq Hd.Ac _ _ [] [none] (Aa 300 (o6++[pb hb11,El (.r (.g (.r (.r (.r (.r (.r (.r (.r (.r (.z (.z (.r .nil))))))))))) .nil)) (A5 hy8)])) (by kernel_rfl) .body
 intro h
 have hE:=Option.some.inj h
 obtain ⟨hE0,hF0⟩:=Prod.mk.inj hE
 subst hE0 hF0
 exact Aq Hd.Ac _ _ [] [none] (Aa 300 (o6++[pb hb11])) (by kernel_rfl) .body
 subst hv
 intro h
 have hE:=Option.some.inj h
 obtain ⟨hE0,hF0⟩:=Prod.mk.inj hE
 subst hE0 hF0
 exact Aq Hd.Ac _ _ [] [none] (Aa 300 o6) (by kernel_rfl) .body
 let o7:List (PC P G):=o5++[pb hb10]
 refine Ae (fun hb12=>?_) fun hb12=>?_
 refine Aj fun y9 hy9=>?_
 let o8:List (PC P G):=o7++[pb hb12,Ak (Jw hy9)]
 refine Ae (fun hv=>?_) fun hv=>?_
 subst hv
 refine Ae (fun hb13=>?_) fun hb13=>?_
 refine Aj fun y10 hy10=>?_
 intro h
 have hE:=Option.some.inj h
 obtain ⟨hE0,hF0⟩:=Prod.mk.inj hE
 subst hE0 hF0
 exact Aq Hd.Ac _ _ [] [none] (Aa 300 (o8++[pb hb13,El (.r (.g (.r (.r (.r (.r (.r (.r (.r (.r (.z (.z (.r .nil))))))))))) .nil)) (A5 hy10)])) (by kernel_rfl) .body
 intro h
 have hE:=Option.some.inj h
 obtain ⟨hE0,hF0⟩:=Prod.mk.inj hE
 subst hE0 hF0
 exact Aq Hd.Ac _ _ [] [none] (Aa 300 (o8++[pb hb13])) (by kernel_rfl) .body
 subst hv
 intro h
 have hE:=Option.some.inj h
 obtain ⟨hE0,hF0⟩:=Prod.mk.inj hE
 subst hE0 hF0
 exact Aq Hd.Ac _ _ [] [none] (Aa 300 o8) (by kernel_rfl) .body
 let o9:List (PC P G):=o7++[pb hb12]
 refine Ae (fun hb14=>?_) fun hb14=>?_
 refine Ae (fun hb15=>?_) fun hb15=>?_
 refine Aj fun y11 hy11=>?_
 let o10:List (PC P G):=o9++[pb hb14,pb hb15,El (.r (.g (.r (.r (.r (.r (.r (.r (.r (.r (.z (.z (.r .nil))))))))))) .nil)) (A5 hy11)]
 refine Ae (fun hv=>?_) fun hv=>?_
 subst hv
 refine Aj fun x12 hx12=>?_
 refine Aj ?_
 rintro ⟨y13a,y13b⟩ hy13
 dsimp only
 intro h
 have hE:=Option.some.inj h
 obtain ⟨hE0,hF0⟩:=Prod.mk.inj hE
 subst hE0 hF0
 exact Aq Hd.Ac _ _ [] [none] (Aa 300 (o10++[CP (Bz .lost hx12),pk,AK (AL (AE hy13) 0)])) (by kernel_rfl) .body
 subst hv
 intro h
 have hE:=Option.some.inj h
 obtain ⟨hE0,hF0⟩:=Prod.mk.inj hE
 subst hE0 hF0
 exact Aq Hd.Ac _ _ [] [none] (Aa 300 o10) (by kernel_rfl) .body
 intro h
 have hE:=Option.some.inj h
 obtain ⟨hE0,hF0⟩:=Prod.mk.inj hE
 subst hE0 hF0
 exact Aq Hd.Ac _ _ [] [none] (Aa 300 (o9++[pb hb14,pb hb15])) (by kernel_rfl) .body
 let o11:List (PC P G):=o9++[pb hb14]
 refine Ae (fun hb16=>?_) fun hb16=>?_
 refine Aj fun y14 hy14=>?_
 let o12:List (PC P G):=o11++[pb hb16,El (.r (.g (.r (.r (.r (.r (.r (.r (.r (.r (.z (.z (.r .nil))))))))))) .nil)) (A5 hy14)]
 refine Ae (fun hv=>?_) fun hv=>?_
 subst hv
 refine Aj ?_
 rintro ⟨y15a,y15b⟩ hy15
 dsimp only
 intro h
 have hE:=Option.some.inj h
 obtain ⟨hE0,hF0⟩:=Prod.mk.inj hE
 subst hE0 hF0
 exact Aq Hd.Ac _ _ [] [none] (Aa 300 (o12++[AK (I8 (C6 hy15) 0)])) (by kernel_rfl) .body
 subst hv
 intro h
 have hE:=Option.some.inj h
 obtain ⟨hE0,hF0⟩:=Prod.mk.inj hE
 subst hE0 hF0
 exact Aq Hd.Ac _ _ [] [none] (Aa 300 o12) (by kernel_rfl) .body
 let o13:List (PC P G):=o11++[pb hb16]
 refine Ae (fun hb17=>?_) fun hb17=>?_
 refine Ae (fun hb18=>?_) fun hb18=>?_
 refine Aj fun y16 hy16=>?_
 let o14:List (PC P G):=o13++[pb hb17,pb hb18,El (.r (.g (.r (.r (.r (.r (.r (.r (.r (.r (.z (.z (.r .nil))))))))))) .nil)) (A5 hy16)]
 refine Ae (fun hv=>?_) fun hv=>?_
 subst hv
 refine Ae (fun hb19=>?_) fun hb19=>?_
 refine Aj ?_
 rintro ⟨y17a,y17b⟩ hy17
 dsimp only
 intro h
 have hE:=Option.some.inj h
 obtain ⟨hE0,hF0⟩:=Prod.mk.inj hE
 subst hE0 hF0
 exact Aq Hd.Ac _ _ [] [none] (Aa 300 (o14++[pb hb19,pk,AK (Fw (BW hy17) 0)])) (by kernel_rfl) .body
 intro h
 have hE:=Option.some.inj h
 obtain ⟨hE0,hF0⟩:=Prod.mk.inj hE
 subst hE0 hF0
 exact Aq Hd.Ac _ _ [] [none] (Aa 300 (o14++[pb hb19])) (by kernel_rfl) .body
 subst hv
 intro h
 have hE:=Option.some.inj h
 obtain ⟨hE0,hF0⟩:=Prod.mk.inj hE
 subst hE0 hF0
 exact Aq Hd.Ac _ _ [] [none] (Aa 300 o14) (by kernel_rfl) .body
 refine Ae (fun hb20=>?_) fun hb20=>?_
 refine Aj fun y18 hy18=>?_
 let o15:List (PC P G):=o13++[pb hb17,pb hb18,pb hb20,El (.r (.g (.r (.r (.r (.r (.r (.r (.r (.r (.z (.z (.r .nil))))))))))) .nil)) (A5 hy18)]
 refine Ae (fun hv=>?_) fun hv=>?_
 subst hv
 refine Ae (fun hb21=>?_) fun hb21=>?_
 refine Aj ?_
 rintro ⟨y19a,y19b⟩ hy19
 dsimp only
 intro h
 have hE:=Option.some.inj h
 obtain ⟨hE0,hF0⟩:=Prod.mk.inj hE
 subst hE0 hF0
 exact Aq Hd.Ac _ _ [] [none] (Aa 300 (o15++[pb hb21,pk,AK (Fw (BW hy19) 0)])) (by kernel_rfl) .body
 intro h
 have hE:=Option.some.inj h
 obtain ⟨hE0,hF0⟩:=Prod.mk.inj hE
 subst hE0 hF0
 exact Aq Hd.Ac _ _ [] [none] (Aa 300 (o15++[pb hb21])) (by kernel_rfl) .body
 subst hv
 intro h
 have hE:=Option.some.inj h
 obtain ⟨hE0,hF0⟩:=Prod.mk.inj hE
 subst hE0 hF0
 exact Aq Hd.Ac _ _ [] [none] (Aa 300 o15) (by kernel_rfl) .body
 intro h
 have hE:=Option.some.inj h
 obtain ⟨hE0,hF0⟩:=Prod.mk.inj hE
 subst hE0 hF0
 exact Aq Hd.Ac _ _ [] [none] (Aa 300 (o13++[pb hb17,pb hb18,pb hb20])) (by kernel_rfl) .body
 refine Ae (fun hb22=>?_) fun hb22=>?_
 refine Aj fun y20 hy20=>?_
 let o16:List (PC P G):=o13++[pb hb17,pb hb22,El (.r (.g (.r (.r (.r (.r (.r (.r (.r (.r (.r (.z (.r .nil))))))))))) .nil)) (A5 hy20)]
 refine Ae (fun hv=>?_) fun hv=>?_
 subst hv
 refine Aj fun y21 hy21=>?_
 refine Ae (fun hv=>?_) fun hv=>?_
 subst hv
 refine Ae (fun hb23=>?_) fun hb23=>?_
 refine Aj fun x22 hx22=>?_
 refine Aj ?_
 rintro ⟨y23a,y23b⟩ hy23
 dsimp only
 intro h
 have hE:=Option.some.inj h
 obtain ⟨hE0,hF0⟩:=Prod.mk.inj hE
 subst hE0 hF0
 exact Aq Hd.Ac _ _ [] [none] (Aa 300 (o16++[Ak (EJ hy21),pb hb23,CP (Bz .lost hx22),pk,AK (AL (AE hy23) 0)])) (by kernel_rfl) .body
 intro h
 have hE:=Option.some.inj h
 obtain ⟨hE0,hF0⟩:=Prod.mk.inj hE
 subst hE0 hF0
 exact Aq Hd.Ac _ _ [] [none] (Aa 300 (o16++[Ak (EJ hy21),pb hb23])) (by kernel_rfl) .body
 subst hv
 intro h
 have hE:=Option.some.inj h
 obtain ⟨hE0,hF0⟩:=Prod.mk.inj hE
 subst hE0 hF0
 exact Aq Hd.Ac _ _ [] [none] (Aa 300 (o16++[Ak (EJ hy21)])) (by kernel_rfl) .body
 subst hv
 intro h
 have hE:=Option.some.inj h
 obtain ⟨hE0,hF0⟩:=Prod.mk.inj hE
 subst hE0 hF0
 exact Aq Hd.Ac _ _ [] [none] (Aa 300 o16) (by kernel_rfl) .body
 intro h
 have hE:=Option.some.inj h
 obtain ⟨hE0,hF0⟩:=Prod.mk.inj hE
 subst hE0 hF0
 exact Aq Hd.Ac _ _ [] [none] (Aa 300 (o13++[pb hb17,pb hb22])) (by kernel_rfl) .body
 subst hv
 intro h
 have hE:=Option.some.inj h
 obtain ⟨hE0,hF0⟩:=Prod.mk.inj hE
 subst hE0 hF0
 exact Aq Hd.Ac _ _ [] [none] (Aa 300 o1) (by kernel_rfl) .body
noncomputable def B80:Code:=A4 Tryz.f80
theorem b80:Tryz.f80.body=some B80:=by kernel_rfl
noncomputable def BB (Ai:Ck→Nd→Int→Option (Bool×Int)) (Az:Ck→Nd→Int→Option (Bool×Int)) (Ay:Ck→Nd→Int→Option (Bool×Int)) (Ap:Ck→(List Nd)→Int→Option (Bool×Int)) (c:Ck) (n:Nd) (depth:Int):Option (Bool×Int):=cond (Bs ((n.kids.length:Nat):Int) 2) ((n.kids[0]?).bind fun x1=>(Ai c x1 (BM depth 1)).bind fun (y2a,y2b)=>cond y2a (cond (BJ n.name.data.toList Jo.data.toList) ((n.kids[1]?).bind fun x3=>(Ay (⟨y2b⟩:Ck) x3 (BM depth 1)).bind fun (y4a,y4b)=>some (y4a,y4b)) (cond (BJ n.name.data.toList Sy.data.toList) ((n.kids[1]?).bind fun x5=>(Ai (⟨y2b⟩:Ck) x5 (BM depth 1)).bind fun (y6a,y6b)=>some (y6a,y6b)) (cond (BJ n.name.data.toList IH.data.toList) ((n.kids[1]?).bind fun x7=>(Ai (⟨y2b⟩:Ck) x7 (BM depth 1)).bind fun (y8a,y8b)=>some (y8a,y8b)) (cond (BJ n.name.data.toList Ir.data.toList) ((n.kids[1]?).bind fun x9=>(Ai (⟨y2b⟩:Ck) x9 (BM depth 1)).bind fun (y10a,y10b)=>some (y10a,y10b)) (cond (BJ n.name.data.toList IB.data.toList) ((n.kids[1]?).bind fun x11=>(Ai (⟨y2b⟩:Ck) x11 (BM depth 1)).bind fun (y12a,y12b)=>some (y12a,y12b)) (cond (BJ n.name.data.toList On.data.toList) ((n.kids[1]?).bind fun x13=>(Ai (⟨y2b⟩:Ck) x13 (BM depth 1)).bind fun (y14a,y14b)=>some (y14a,y14b)) (cond (BJ n.name.data.toList Iz.data.toList) ((n.kids[1]?).bind fun x15=>(Ai (⟨y2b⟩:Ck) x15 (BM depth 1)).bind fun (y16a,y16b)=>some (y16a,y16b)) (cond (BJ n.name.data.toList KV.data.toList) ((n.kids[1]?).bind fun x17=>(Ai (⟨y2b⟩:Ck) x17 (BM depth 1)).bind fun (y18a,y18b)=>some (y18a,y18b)) (cond (BJ n.name.data.toList IY.data.toList) ((n.kids[1]?).bind fun x19=>(Ai (⟨y2b⟩:Ck) x19 (BM depth 1)).bind fun (y20a,y20b)=>some (y20a,y20b)) (cond (BJ n.name.data.toList Oi.data.toList) ((n.kids[1]?).bind fun x21=>(Ai (⟨y2b⟩:Ck) x21 (BM depth 1)).bind fun (y22a,y22b)=>some (y22a,y22b)) (cond (BJ n.name.data.toList R7.data.toList) ((n.kids[1]?).bind fun x23=>(Ai (⟨y2b⟩:Ck) x23 (BM depth 1)).bind fun (y24a,y24b)=>some (y24a,y24b)) (some (false,y2b))))))))))))) (some (false,y2b))) (some (false,c.nodes))
theorem Ij (Ai:Ck→Nd→Int→Option (Bool×Int)) (Az:Ck→Nd→Int→Option (Bool×Int)) (Ay:Ck→Nd→Int→Option (Bool×Int)) (Ap:Ck→(List Nd)→Int→Option (Bool×Int)) (AE:∀ {c:Ck} {n:Nd} {depth:Int} {yR:Bool} {qc_nodesR:Int},Ai c n depth=some (yR,qc_nodesR)→Sound P G (.call 49 [.ptr 0 0,.agg (Ba n),.sc (.int .i64 depth)] ⟨[(0,.cells (EP c))],1,[],0⟩ (.ret (.sc (.bool yR))) ⟨[(0,.cells [.sc (.int .i64 qc_nodesR)])],1,[],0⟩)) (C6:∀ {c:Ck} {n:Nd} {depth:Int} {yR:Bool} {qc_nodesR:Int},Az c n depth=some (yR,qc_nodesR)→Sound P G (.call 80 [.ptr 0 0,.agg (Ba n),.sc (.int .i64 depth)] ⟨[(0,.cells (EP c))],1,[],0⟩ (.ret (.sc (.bool yR))) ⟨[(0,.cells [.sc (.int .i64 qc_nodesR)])],1,[],0⟩)) (C2:∀ {c:Ck} {n:Nd} {depth:Int} {yR:Bool} {qc_nodesR:Int},Ay c n depth=some (yR,qc_nodesR)→Sound P G (.call 115 [.ptr 0 0,.agg (Ba n),.sc (.int .i64 depth)] ⟨[(0,.cells (EP c))],1,[],0⟩ (.ret (.sc (.bool yR))) ⟨[(0,.cells [.sc (.int .i64 qc_nodesR)])],1,[],0⟩)) (BW:∀ {c:Ck} {list:(List Nd)} {depth:Int} {yR:Bool} {qc_nodesR:Int},Ap c list depth=some (yR,qc_nodesR)→Sound P G (.call 52 [.ptr 0 0,.sl .lost list.length (A7 list),.sc (.int .i64 depth),.fn (.func 49) [.ptr 0 0] []] ⟨[(0,.cells (EP c))],1,[],0⟩ (.ret (.sc (.bool yR))) ⟨[(0,.cells [.sc (.int .i64 qc_nodesR)])],1,[],0⟩)) {c:Ck} {n:Nd} {depth:Int} {yR:Bool} {qc_nodesR:Int} (h:BB Ai Az Ay Ap c n depth=some (yR,qc_nodesR)):Sound P G (.call 80 [.ptr 0 0,.agg (Ba n),.sc (.int .i64 depth)] ⟨[(0,.cells (EP c))],1,[],0⟩ (.ret (.sc (.bool yR))) ⟨[(0,.cells [.sc (.int .i64 qc_nodesR)])],1,[],0⟩):=by
 unfold BB at h
 refine EY Hd.mixed (AJ Tryz.func80 b80 ?_)
 revert h
 refine Ae (fun hb1=>?_) fun hb1=>?_
 refine Aj fun x1 hx1=>?_
 refine Aj ?_
 rintro ⟨y2a,y2b⟩ hy2
 dsimp only
 let o1:List (PC P G):=[pn hb1,CP (Bz .lost hx1),pk,AK (AL (AE hy2) 0)]
 refine Ae (fun hv=>?_) fun hv=>?_
 subst hv
 refine Ae (fun hb2=>?_) fun hb2=>?_
 refine Aj fun x3 hx3=>?_
 refine Aj ?_
 rintro ⟨y4a,y4b⟩ hy4
 dsimp only
 intro h
 have hE:=Option.some.inj h
 obtain ⟨hE0,hF0⟩:=Prod.mk.inj hE
 subst hE0 hF0
 exact Aq Hd.Ac _ _ [] [none] (Aa 300 (o1++[pb hb2,CP (Bz .lost hx3),pk,AK (F4 (C2 hy4) 0)])) (by kernel_rfl) .body
 let o2:List (PC P G):=o1++[pb hb2]
 refine Ae (fun hb3=>?_) fun hb3=>?_
 refine Aj fun x5 hx5=>?_
 refine Aj ?_
 rintro ⟨y6a,y6b⟩ hy6
 dsimp only
 intro h
 have hE:=Option.some.inj h
 obtain ⟨hE0,hF0⟩:=Prod.mk.inj hE
 subst hE0 hF0
 exact Aq Hd.Ac _ _ [] [none] (Aa 300 (o2++[pb hb3,CP (Bz .lost hx5),pk,AK (AL (AE hy6) 0)])) (by kernel_rfl) .body
 refine Ae (fun hb4=>?_) fun hb4=>?_
 refine Aj fun x7 hx7=>?_
 refine Aj ?_
 rintro ⟨y8a,y8b⟩ hy8
 dsimp only
 intro h
 have hE:=Option.some.inj h
 obtain ⟨hE0,hF0⟩:=Prod.mk.inj hE
 subst hE0 hF0
 exact Aq Hd.Ac _ _ [] [none] (Aa 300 (o2++[pb hb3,pb hb4,CP (Bz .lost hx7),pk,AK (AL (AE hy8) 0)])) (by kernel_rfl) .body
 let o3:List (PC P G):=o2++[pb hb3,pb hb4]
 refine Ae (fun hb5=>?_) fun hb5=>?_
 refine Aj fun x9 hx9=>?_
 refine Aj ?_
 rintro ⟨y10a,y10b⟩ hy10
 dsimp only
 intro h
 have hE:=Option.some.inj h
 obtain ⟨hE0,hF0⟩:=Prod.mk.inj hE
 subst hE0 hF0
 exact Aq Hd.Ac _ _ [] [none] (Aa 300 (o3++[pb hb5,CP (Bz .lost hx9),pk,AK (AL (AE hy10) 0)])) (by kernel_rfl) .body
 refine Ae (fun hb6=>?_) fun hb6=>?_
 refine Aj fun x11 hx11=>?_
 refine Aj ?_
 rintro ⟨y12a,y12b⟩ hy12
 dsimp only
 intro h
 have hE:=Option.some.inj h
 obtain ⟨hE0,hF0⟩:=Prod.mk.inj hE
 subst hE0 hF0
 exact Aq Hd.Ac _ _ [] [none] (Aa 300 (o3++[pb hb5,pb hb6,CP (Bz .lost hx11),pk,AK (AL (AE hy12) 0)])) (by kernel_rfl) .body
 let o4:List (PC P G):=o3++[pb hb5,pb hb6]
 refine Ae (fun hb7=>?_) fun hb7=>?_
 refine Aj fun x13 hx13=>?_
 refine Aj ?_
 rintro ⟨y14a,y14b⟩ hy14
 dsimp only
 intro h
 have hE:=Option.some.inj h
 obtain ⟨hE0,hF0⟩:=Prod.mk.inj hE
 subst hE0 hF0
 exact Aq Hd.Ac _ _ [] [none] (Aa 300 (o4++[pb hb7,CP (Bz .lost hx13),pk,AK (AL (AE hy14) 0)])) (by kernel_rfl) .body
 refine Ae (fun hb8=>?_) fun hb8=>?_
 refine Aj fun x15 hx15=>?_
 refine Aj ?_
 rintro ⟨y16a,y16b⟩ hy16
 dsimp only
 intro h
 have hE:=Option.some.inj h
 obtain ⟨hE0,hF0⟩:=Prod.mk.inj hE
 subst hE0 hF0
 exact Aq Hd.Ac _ _ [] [none] (Aa 300 (o4++[pb hb7,pb hb8,CP (Bz .lost hx15),pk,AK (AL (AE hy16) 0)])) (by kernel_rfl) .body
 refine Ae (fun hb9=>?_) fun hb9=>?_
 refine Aj fun x17 hx17=>?_
 refine Aj ?_
 rintro ⟨y18a,y18b⟩ hy18
 dsimp only
 intro h
 have hE:=Option.some.inj h
 obtain ⟨hE0,hF0⟩:=Prod.mk.inj hE
 subst hE0 hF0
 exact Aq Hd.Ac _ _ [] [none] (Aa 300 (o4++[pb hb7,pb hb8,pb hb9,CP (Bz .lost hx17),pk,AK (AL (AE hy18) 0)])) (by kernel_rfl) .body
 refine Ae (fun hb10=>?_) fun hb10=>?_
 refine Aj fun x19 hx19=>?_
 refine Aj ?_
 rintro ⟨y20a,y20b⟩ hy20
 dsimp only
 intro h
 have hE:=Option.some.inj h
 obtain ⟨hE0,hF0⟩:=Prod.mk.inj hE
 subst hE0 hF0
 exact Aq Hd.Ac _ _ [] [none] (Aa 300 (o4++[pb hb7,pb hb8,pb hb9,pb hb10,CP (Bz .lost hx19),pk,AK (AL (AE hy20) 0)])) (by kernel_rfl) .body
 refine Ae (fun hb11=>?_) fun hb11=>?_
 refine Aj fun x21 hx21=>?_
 refine Aj ?_
 rintro ⟨y22a,y22b⟩ hy22
 dsimp only
 intro h
 have hE:=Option.some.inj h
 obtain ⟨hE0,hF0⟩:=Prod.mk.inj hE
 subst hE0 hF0
 exact Aq Hd.Ac _ _ [] [none] (Aa 300 (o4++[pb hb7,pb hb8,pb hb9,pb hb10,pb hb11,CP (Bz .lost hx21),pk,AK (AL (AE hy22) 0)])) (by kernel_rfl) .body
 refine Ae (fun hb12=>?_) fun hb12=>?_
 refine Aj fun x23 hx23=>?_
 refine Aj ?_
 rintro ⟨y24a,y24b⟩ hy24
 dsimp only
 intro h
 have hE:=Option.some.inj h
 obtain ⟨hE0,hF0⟩:=Prod.mk.inj hE
 subst hE0 hF0
 exact Aq Hd.Ac _ _ [] [none] (Aa 300 (o4++[pb hb7,pb hb8,pb hb9,pb hb10,pb hb11,pb hb12,CP (Bz .lost hx23),pk,AK (AL (AE hy24) 0)])) (by kernel_rfl) .body
 intro h
 have hE:=Option.some.inj h
 obtain ⟨hE0,hF0⟩:=Prod.mk.inj hE
 subst hE0 hF0
 exact Aq Hd.Ac _ _ [] [none] (Aa 300 (o4++[pb hb7,pb hb8,pb hb9,pb hb10,pb hb11,pb hb12])) (by kernel_rfl) .body
 subst hv
 intro h
 have hE:=Option.some.inj h
 obtain ⟨hE0,hF0⟩:=Prod.mk.inj hE
 subst hE0 hF0
 exact Aq Hd.Ac _ _ [] [none] (Aa 300 o1) (by kernel_rfl) .body
 intro h
 have hE:=Option.some.inj h
 obtain ⟨hE0,hF0⟩:=Prod.mk.inj hE
 subst hE0 hF0
 exact Aq Hd.Ac _ _ [] [bp (J2.pl c)] (Aa 300 [pn hb1]) (by kernel_rfl) .body
noncomputable def wO:Code:=A4 Tryz.f115
theorem vD:Tryz.f115.body=some wO:=by kernel_rfl
noncomputable def BA (Ai:Ck→Nd→Int→Option (Bool×Int)) (Az:Ck→Nd→Int→Option (Bool×Int)) (Ay:Ck→Nd→Int→Option (Bool×Int)) (Ap:Ck→(List Nd)→Int→Option (Bool×Int)) (c:Ck) (n:Nd) (depth:Int):Option (Bool×Int):=(Ai c n depth).bind fun (y1a,y1b)=>cond y1a (cond (Bs n.kind 11) (cond (BJ n.unit.data.toList By.data.toList) ((BY n.n).bind fun y2=>some (y2,y1b)) (some (false,y1b))) (some (false,y1b))) (some (false,y1b))
theorem Ia (Ai:Ck→Nd→Int→Option (Bool×Int)) (Az:Ck→Nd→Int→Option (Bool×Int)) (Ay:Ck→Nd→Int→Option (Bool×Int)) (Ap:Ck→(List Nd)→Int→Option (Bool×Int)) (AE:∀ {c:Ck} {n:Nd} {depth:Int} {yR:Bool} {qc_nodesR:Int},Ai c n depth=some (yR,qc_nodesR)→Sound P G (.call 49 [.ptr 0 0,.agg (Ba n),.sc (.int .i64 depth)] ⟨[(0,.cells (EP c))],1,[],0⟩ (.ret (.sc (.bool yR))) ⟨[(0,.cells [.sc (.int .i64 qc_nodesR)])],1,[],0⟩)) (C6:∀ {c:Ck} {n:Nd} {depth:Int} {yR:Bool} {qc_nodesR:Int},Az c n depth=some (yR,qc_nodesR)→Sound P G (.call 80 [.ptr 0 0,.agg (Ba n),.sc (.int .i64 depth)] ⟨[(0,.cells (EP c))],1,[],0⟩ (.ret (.sc (.bool yR))) ⟨[(0,.cells [.sc (.int .i64 qc_nodesR)])],1,[],0⟩)) (C2:∀ {c:Ck} {n:Nd} {depth:Int} {yR:Bool} {qc_nodesR:Int},Ay c n depth=some (yR,qc_nodesR)→Sound P G (.call 115 [.ptr 0 0,.agg (Ba n),.sc (.int .i64 depth)] ⟨[(0,.cells (EP c))],1,[],0⟩ (.ret (.sc (.bool yR))) ⟨[(0,.cells [.sc (.int .i64 qc_nodesR)])],1,[],0⟩)) (BW:∀ {c:Ck} {list:(List Nd)} {depth:Int} {yR:Bool} {qc_nodesR:Int},Ap c list depth=some (yR,qc_nodesR)→Sound P G (.call 52 [.ptr 0 0,.sl .lost list.length (A7 list),.sc (.int .i64 depth),.fn (.func 49) [.ptr 0 0] []] ⟨[(0,.cells (EP c))],1,[],0⟩ (.ret (.sc (.bool yR))) ⟨[(0,.cells [.sc (.int .i64 qc_nodesR)])],1,[],0⟩)) {c:Ck} {n:Nd} {depth:Int} {yR:Bool} {qc_nodesR:Int} (h:BA Ai Az Ay Ap c n depth=some (yR,qc_nodesR)):Sound P G (.call 115 [.ptr 0 0,.agg (Ba n),.sc (.int .i64 depth)] ⟨[(0,.cells (EP c))],1,[],0⟩ (.ret (.sc (.bool yR))) ⟨[(0,.cells [.sc (.int .i64 qc_nodesR)])],1,[],0⟩):=by
 unfold BA at h
 refine EY Hd.mixed (AJ Tryz.func115 vD ?_)
 revert h
 refine Aj ?_
 rintro ⟨y1a,y1b⟩ hy1
 dsimp only
 let o1:List (PC P G):=[AK (AL (AE hy1) 0)]
 refine Ae (fun hv=>?_) fun hv=>?_
 subst hv
 refine Ae (fun hb1=>?_) fun hb1=>?_
 refine Ae (fun hb2=>?_) fun hb2=>?_
 refine Aj fun y2 hy2=>?_
 intro h
 have hE:=Option.some.inj h
 obtain ⟨hE0,hF0⟩:=Prod.mk.inj hE
 subst hE0 hF0
 exact Aq Hd.Ac _ _ [] [none] (Aa 300 (o1++[pb hb1,pb hb2,Ak (DE hy2)])) (by kernel_rfl) .body
 intro h
 have hE:=Option.some.inj h
 obtain ⟨hE0,hF0⟩:=Prod.mk.inj hE
 subst hE0 hF0
 exact Aq Hd.Ac _ _ [] [none] (Aa 300 (o1++[pb hb1,pb hb2])) (by kernel_rfl) .body
 intro h
 have hE:=Option.some.inj h
 obtain ⟨hE0,hF0⟩:=Prod.mk.inj hE
 subst hE0 hF0
 exact Aq Hd.Ac _ _ [] [none] (Aa 300 (o1++[pb hb1])) (by kernel_rfl) .body
 subst hv
 intro h
 have hE:=Option.some.inj h
 obtain ⟨hE0,hF0⟩:=Prod.mk.inj hE
 subst hE0 hF0
 exact Aq Hd.Ac _ _ [] [none] (Aa 300 o1) (by kernel_rfl) .body
noncomputable def cJ:Code:=A4 Tryz.f52
theorem tH:Tryz.f52.body=some cJ:=by kernel_rfl
noncomputable def BZ (Ai:Ck→Nd→Int→Option (Bool×Int)) (Az:Ck→Nd→Int→Option (Bool×Int)) (Ay:Ck→Nd→Int→Option (Bool×Int)) (Ap:Ck→(List Nd)→Int→Option (Bool×Int)) (depth:Int) (i0:Nat) (e0:Nd) (w0_0:Int):Option (Lp Int Int (Bool×Int)):=(Ai (⟨w0_0⟩:Ck) e0 depth).bind fun (y1a,y1b)=>cond y1a (some (.nx y1b)) (some (.rt (false,y1b)))
noncomputable def BI (Ai:Ck→Nd→Int→Option (Bool×Int)) (Az:Ck→Nd→Int→Option (Bool×Int)) (Ay:Ck→Nd→Int→Option (Bool×Int)) (Ap:Ck→(List Nd)→Int→Option (Bool×Int)) (c:Ck) (list:(List Nd)) (depth:Int):Option (Bool×Int):=(Gy list.length (AT (fun i y x=>BZ Ai Az Ay Ap depth i y x) (fun x=>x) (list.drop 0) 0 c.nodes)).bind (GA (fun (w0_0_2:Int)=>some (true,w0_0_2)) (fun v=>some v))
theorem Hg (Ai:Ck→Nd→Int→Option (Bool×Int)) (Az:Ck→Nd→Int→Option (Bool×Int)) (Ay:Ck→Nd→Int→Option (Bool×Int)) (Ap:Ck→(List Nd)→Int→Option (Bool×Int)) (AE:∀ {c:Ck} {n:Nd} {depth:Int} {yR:Bool} {qc_nodesR:Int},Ai c n depth=some (yR,qc_nodesR)→Sound P G (.call 49 [.ptr 0 0,.agg (Ba n),.sc (.int .i64 depth)] ⟨[(0,.cells (EP c))],1,[],0⟩ (.ret (.sc (.bool yR))) ⟨[(0,.cells [.sc (.int .i64 qc_nodesR)])],1,[],0⟩)) (C6:∀ {c:Ck} {n:Nd} {depth:Int} {yR:Bool} {qc_nodesR:Int},Az c n depth=some (yR,qc_nodesR)→Sound P G (.call 80 [.ptr 0 0,.agg (Ba n),.sc (.int .i64 depth)] ⟨[(0,.cells (EP c))],1,[],0⟩ (.ret (.sc (.bool yR))) ⟨[(0,.cells [.sc (.int .i64 qc_nodesR)])],1,[],0⟩)) (C2:∀ {c:Ck} {n:Nd} {depth:Int} {yR:Bool} {qc_nodesR:Int},Ay c n depth=some (yR,qc_nodesR)→Sound P G (.call 115 [.ptr 0 0,.agg (Ba n),.sc (.int .i64 depth)] ⟨[(0,.cells (EP c))],1,[],0⟩ (.ret (.sc (.bool yR))) ⟨[(0,.cells [.sc (.int .i64 qc_nodesR)])],1,[],0⟩)) (BW:∀ {c:Ck} {list:(List Nd)} {depth:Int} {yR:Bool} {qc_nodesR:Int},Ap c list depth=some (yR,qc_nodesR)→Sound P G (.call 52 [.ptr 0 0,.sl .lost list.length (A7 list),.sc (.int .i64 depth),.fn (.func 49) [.ptr 0 0] []] ⟨[(0,.cells (EP c))],1,[],0⟩ (.ret (.sc (.bool yR))) ⟨[(0,.cells [.sc (.int .i64 qc_nodesR)])],1,[],0⟩)) {c:Ck} {list:(List Nd)} {depth:Int} {yR:Bool} {qc_nodesR:Int} (h:BI Ai Az Ay Ap c list depth=some (yR,qc_nodesR)):Sound P G (.call 52 [.ptr 0 0,.sl .lost list.length (A7 list),.sc (.int .i64 depth),.fn (.func 49) [.ptr 0 0] []] ⟨[(0,.cells (EP c))],1,[],0⟩ (.ret (.sc (.bool yR))) ⟨[(0,.cells [.sc (.int .i64 qc_nodesR)])],1,[],0⟩):=by
 unfold BI at h
 refine EY Hd.mixed (AJ Tryz.func52 tH ?_)
 revert h
 refine DQ (fun Q v=>Jp P G Tryz.f52 1 ⟨[(0,.cells (EP c))],1,[],0⟩ Q (.sc (.bool v.1)) ⟨[(0,.cells [.sc (.int .i64 v.2)])],1,[],0⟩) (fun i0 (w0_0:Int) (j0:List Value)=>fr 23 [(2,.sc (.int .i64 depth)),(3,.fn (.func 49) [.ptr 0 0] []),(11,.sl .lost list.length (A7 list)),(12,.sc (.int .i64 ((list.length:Nat):Int))),(13,.sc (.int .i64 ((i0:Nat):Int)))] [8,14,20,21] j0) (fun (w0_0:Int)=>⟨[(0,.cells [.sc (.int .i64 w0_0)])],1,[],0⟩) (fun (w0_0:Int) (jx:List Value)=>fr 23 [] [8,14,20,21] jx) (fun (w0_0:Int)=>⟨[(0,.cells [.sc (.int .i64 w0_0)])],1,[],0⟩) [.bool false] (DI [] 0 (sb cJ 52) [.code (sb cJ 7)] (Aa 300 []) (by kernel_rfl)) ?_ ?_ ?_ (fun v h=>by cases h;exact .outer .body)
 rintro i0 w0_0 j0 hge hq
 exact B8 (Aa 300 [pb (IG hge)]) (by kernel_rfl) (hq (js 4 j0 [(1,.bool false)]))
 rintro i0 e0 w0_0 j0 r he0 hi0 mi0 k
 show BZ Ai Az Ay Ap depth i0 e0 w0_0=some r→_
 unfold BZ
 refine Aj ?_
 rintro ⟨y1a,y1b⟩ hy1
 dsimp only
 let o1:List (PC P G):=[pb (F6 hi0),CP (Bz .lost he0),AK (AL (AE hy1) 0)]
 refine Ae (fun hv=>?_) fun hv=>?_
 subst hv
 rintro ⟨⟩
 exact B7 Hd.Ac [fq (Am.EH list)] [none] (Aa 300 (o1++[pi mi0])) (by kernel_rfl) (k [(jv j0 0),.bool true,.bool true,.bool false])
 subst hv
 rintro ⟨⟩
 exact Aq Hd.Ac _ _ [] [none] (Aa 300 o1) (by kernel_rfl) (.GX k)
 rintro w0_0_2 jx_2
 intro h
 have hE:=Option.some.inj h
 obtain ⟨hE0,hF0⟩:=Prod.mk.inj hE
 subst hE0 hF0
 exact Aq Hd.Ac _ _ [] [none] (BX 300 []) (by kernel_rfl) .body
mutual
noncomputable def At:Nat→Ck→Nd→Int→Option (Bool×Int)
 | 0,_,_,_=>none
 | qn+1,c,n,depth=>Cl (At qn) (AD qn) (Av qn) (As qn) c n depth
noncomputable def AD:Nat→Ck→Nd→Int→Option (Bool×Int)
 | 0,_,_,_=>none
 | qn+1,c,n,depth=>BB (At qn) (AD qn) (Av qn) (As qn) c n depth
noncomputable def Av:Nat→Ck→Nd→Int→Option (Bool×Int)
 | 0,_,_,_=>none
 | qn+1,c,n,depth=>BA (At qn) (AD qn) (Av qn) (As qn) c n depth
noncomputable def As:Nat→Ck→(List Nd)→Int→Option (Bool×Int)
 | 0,_,_,_=>none
 | qn+1,c,list,depth=>BI (At qn) (AD qn) (Av qn) (As qn) c list depth
end
theorem F3:∀ qn:Nat,(∀ {c:Ck} {n:Nd} {depth:Int} {yR:Bool} {qc_nodesR:Int},At qn c n depth=some (yR,qc_nodesR)→Sound P G (.call 49 [.ptr 0 0,.agg (Ba n),.sc (.int .i64 depth)] ⟨[(0,.cells (EP c))],1,[],0⟩ (.ret (.sc (.bool yR))) ⟨[(0,.cells [.sc (.int .i64 qc_nodesR)])],1,[],0⟩))∧(∀ {c:Ck} {n:Nd} {depth:Int} {yR:Bool} {qc_nodesR:Int},AD qn c n depth=some (yR,qc_nodesR)→Sound P G (.call 80 [.ptr 0 0,.agg (Ba n),.sc (.int .i64 depth)] ⟨[(0,.cells (EP c))],1,[],0⟩ (.ret (.sc (.bool yR))) ⟨[(0,.cells [.sc (.int .i64 qc_nodesR)])],1,[],0⟩))∧(∀ {c:Ck} {n:Nd} {depth:Int} {yR:Bool} {qc_nodesR:Int},Av qn c n depth=some (yR,qc_nodesR)→Sound P G (.call 115 [.ptr 0 0,.agg (Ba n),.sc (.int .i64 depth)] ⟨[(0,.cells (EP c))],1,[],0⟩ (.ret (.sc (.bool yR))) ⟨[(0,.cells [.sc (.int .i64 qc_nodesR)])],1,[],0⟩))∧(∀ {c:Ck} {list:(List Nd)} {depth:Int} {yR:Bool} {qc_nodesR:Int},As qn c list depth=some (yR,qc_nodesR)→Sound P G (.call 52 [.ptr 0 0,.sl .lost list.length (A7 list),.sc (.int .i64 depth),.fn (.func 49) [.ptr 0 0] []] ⟨[(0,.cells (EP c))],1,[],0⟩ (.ret (.sc (.bool yR))) ⟨[(0,.cells [.sc (.int .i64 qc_nodesR)])],1,[],0⟩)):=by
 intro qn
 induction qn with
 | zero=>exact ⟨(fun h=>by simp only [At] at h;cases h),(fun h=>by simp only [AD] at h;cases h),(fun h=>by simp only [Av] at h;cases h),(fun h=>by simp only [As] at h;cases h)⟩
 | succ qn ih=>exact ⟨(fun h=>I2 (At qn) (AD qn) (Av qn) (As qn) ih.1 ih.2.1 ih.2.2.1 ih.2.2.2 (by rw [At] at h;exact h)),(fun h=>Ij (At qn) (AD qn) (Av qn) (As qn) ih.1 ih.2.1 ih.2.2.1 ih.2.2.2 (by rw [AD] at h;exact h)),(fun h=>Ia (At qn) (AD qn) (Av qn) (As qn) ih.1 ih.2.1 ih.2.2.1 ih.2.2.2 (by rw [Av] at h;exact h)),(fun h=>Hg (At qn) (AD qn) (Av qn) (As qn) ih.1 ih.2.1 ih.2.2.1 ih.2.2.2 (by rw [As] at h;exact h))⟩
noncomputable def DF (c:Ck) (n:Nd) (depth:Int):Option (Bool×Int):=W4 (fun qn=>At qn c n depth)
theorem Gg {c:Ck} {n:Nd} {depth:Int} {yR:Bool} {qc_nodesR:Int} (h:DF c n depth=some (yR,qc_nodesR)):Sound P G (.call 49 [.ptr 0 0,.agg (Ba n),.sc (.int .i64 depth)] ⟨[(0,.cells (EP c))],1,[],0⟩ (.ret (.sc (.bool yR))) ⟨[(0,.cells [.sc (.int .i64 qc_nodesR)])],1,[],0⟩):=by
 obtain ⟨qn,h⟩:=Uf h
 exact (F3 qn).1 h
noncomputable def Df (c:Ck) (n:Nd) (depth:Int):Option (Bool×Int):=W4 (fun qn=>Av qn c n depth)
theorem I0 {c:Ck} {n:Nd} {depth:Int} {yR:Bool} {qc_nodesR:Int} (h:Df c n depth=some (yR,qc_nodesR)):Sound P G (.call 115 [.ptr 0 0,.agg (Ba n),.sc (.int .i64 depth)] ⟨[(0,.cells (EP c))],1,[],0⟩ (.ret (.sc (.bool yR))) ⟨[(0,.cells [.sc (.int .i64 qc_nodesR)])],1,[],0⟩):=by
 obtain ⟨qn,h⟩:=Uf h
 exact (F3 qn).2.2.1 h
noncomputable def uP:Code:=A4 Tryz.f116
theorem uI:Tryz.f116.body=some uP:=by kernel_rfl
noncomputable def Dw  (day:Int):Option Bool:=cond (KT 0 day) (cond (KT day 36524) (some true) (some false)) (some false)
theorem Fx   {day:Int} {yR:Bool} (h:Dw  day=some yR):Pure P G 116 [.sc (.int .i64 day)] (.sc (.bool yR)):=by
 unfold Dw at h
 refine BK Hd.mixed Hd.Ac (AJ Tryz.func116 uI ?_) (Bo rfl rfl) rfl
 revert h
 refine Ae (fun hb1=>?_) fun hb1=>?_
 refine Ae (fun hb2=>?_) fun hb2=>?_
 rintro ⟨⟩
 exact rS (Aa 300 [pb hb1,pb hb2]) (by kernel_rfl)
 rintro ⟨⟩
 exact rS (Aa 300 [pb hb1,pb hb2]) (by kernel_rfl)
 rintro ⟨⟩
 exact rS (Aa 300 [pb hb1]) (by kernel_rfl)
noncomputable def B83:Code:=A4 Tryz.f83
theorem zZ:Tryz.f83.body=some B83:=by kernel_rfl
noncomputable def CZ  (c:Ck) (n:Nd) (depth:Int):Option (Bool×Int):=(Bg c n depth).bind fun (y1a,y1b)=>cond y1a (cond (Bs n.kind 5) (cond (FQ n.n 0) (some (false,y1b)) (cond (FQ 1000000 n.n) (some (false,y1b)) (cond (FQ 0 ((n.kids.length:Nat):Int)) (some (false,y1b)) ((Dw n.fr).bind fun y2=>cond y2 (cond (KT n.to n.fr) (some (false,y1b)) (cond (FQ 36525 n.to) (some (false,y1b)) ((Dw n.known).bind fun y3=>cond y3 ((A6 n (⟨0,ByteArray.empty,ByteArray.empty,n.n,n.fr,n.to,n.known,(⟨0,[]⟩:Fn),[],0⟩:Nd)).bind fun y4=>some (y4,y1b)) (some (false,y1b))))) (some (false,y1b)))))) (some (false,y1b))) (some (false,y1b))
theorem J8 {c:Ck} {n:Nd} {depth:Int} {yR:Bool} {qc_nodesR:Int} (hS:Sound P G (.call 83 [.ptr 0 0,.agg (Ba n),.sc (.int .i64 depth)] ⟨[(0,.cells (EP c))],1,[],0⟩ (.ret (.sc (.bool yR))) ⟨[(0,.cells [.sc (.int .i64 qc_nodesR)])],1,[],0⟩)) (u0:Nat) (hnb:[u0].Nodup:=by decide) (hnt:([]:List Nat).Nodup:=by decide):Cd.ok P G (.callU 83 [.ptr u0 0,.agg (Ba n),.sc (.int .i64 depth)] (.ret (.sc (.bool yR))) [(u0,.cells (EP c))] [] [(u0,.cells [.sc (.int .i64 qc_nodesR)])] []) :=
 ER (M:=[.cells (EP c)]) (M2:=[.cells [.sc (.int .i64 qc_nodesR)]]) (T:=[]) (T2:=[]) (k:=1) (j:=0) Hd.Ac _ _ _ _ hS rfl rfl rfl rfl rfl hnb hnt rfl rfl (.cons (.cells (.pl (J2.pl c))) .nil) (.cons (.cells (.pl (Bo rfl rfl))) .nil) (.cons (.ptr (by decide)) (.cons (.pl (Am.F0 n)) (.cons (.pl rfl) .nil))) (.pl rfl) (fun e he=>by simp only [List.mem_singleton] at he;subst he;exact (.arg (.here .ptr)))
theorem I1   {c:Ck} {n:Nd} {depth:Int} {yR:Bool} {qc_nodesR:Int} (h:CZ  c n depth=some (yR,qc_nodesR)):Sound P G (.call 83 [.ptr 0 0,.agg (Ba n),.sc (.int .i64 depth)] ⟨[(0,.cells (EP c))],1,[],0⟩ (.ret (.sc (.bool yR))) ⟨[(0,.cells [.sc (.int .i64 qc_nodesR)])],1,[],0⟩):=by
 unfold CZ at h
 refine EY Hd.mixed (AJ Tryz.func83 zZ ?_)
 revert h
 refine Aj ?_
 rintro ⟨y1a,y1b⟩ hy1
 dsimp only
 let o1:List (PC P G):=[AK (CY (Cn hy1) 0)]
 refine Ae (fun hv=>?_) fun hv=>?_
 subst hv
 refine Ae (fun hb1=>?_) fun hb1=>?_
 refine Ae (fun hb2=>?_) fun hb2=>?_
 intro h
 have hE:=Option.some.inj h
 obtain ⟨hE0,hF0⟩:=Prod.mk.inj hE
 subst hE0 hF0
 exact Aq Hd.Ac _ _ [] [none] (Aa 300 (o1++[pn hb1,pb hb2])) (by kernel_rfl) .body
 let o2:List (PC P G):=o1++[pn hb1,pb hb2]
 refine Ae (fun hb3=>?_) fun hb3=>?_
 intro h
 have hE:=Option.some.inj h
 obtain ⟨hE0,hF0⟩:=Prod.mk.inj hE
 subst hE0 hF0
 exact Aq Hd.Ac _ _ [] [none] (Aa 300 (o2++[pb hb3])) (by kernel_rfl) .body
 refine Ae (fun hb4=>?_) fun hb4=>?_
 intro h
 have hE:=Option.some.inj h
 obtain ⟨hE0,hF0⟩:=Prod.mk.inj hE
 subst hE0 hF0
 exact Aq Hd.Ac _ _ [] [none] (Aa 300 (o2++[pb hb3,pb hb4])) (by kernel_rfl) .body
 refine Aj fun y2 hy2=>?_
 let o3:List (PC P G):=o2++[pb hb3,pb hb4,Ak (Fx hy2)]
 refine Ae (fun hv=>?_) fun hv=>?_
 subst hv
 refine Ae (fun hb5=>?_) fun hb5=>?_
 intro h
 have hE:=Option.some.inj h
 obtain ⟨hE0,hF0⟩:=Prod.mk.inj hE
 subst hE0 hF0
 exact Aq Hd.Ac _ _ [] [none] (Aa 300 (o3++[pb hb5])) (by kernel_rfl) .body
 refine Ae (fun hb6=>?_) fun hb6=>?_
 intro h
 have hE:=Option.some.inj h
 obtain ⟨hE0,hF0⟩:=Prod.mk.inj hE
 subst hE0 hF0
 exact Aq Hd.Ac _ _ [] [none] (Aa 300 (o3++[pb hb5,pb hb6])) (by kernel_rfl) .body
 refine Aj fun y3 hy3=>?_
 refine Ae (fun hv=>?_) fun hv=>?_
 subst hv
 refine Aj fun y4 hy4=>?_
 intro h
 have hE:=Option.some.inj h
 obtain ⟨hE0,hF0⟩:=Prod.mk.inj hE
 subst hE0 hF0
 exact Aq Hd.Ac _ _ [] [none] (Aa 300 (o3++[pb hb5,pb hb6,Ak (Fx hy3),El (.r (.g (.r (.r (.r (.r (.r (.r (.r (.r (.z (.z (.r .nil))))))))))) .nil)) (A5 hy4)])) (by kernel_rfl) .body
 subst hv
 intro h
 have hE:=Option.some.inj h
 obtain ⟨hE0,hF0⟩:=Prod.mk.inj hE
 subst hE0 hF0
 exact Aq Hd.Ac _ _ [] [none] (Aa 300 (o3++[pb hb5,pb hb6,Ak (Fx hy3)])) (by kernel_rfl) .body
 subst hv
 intro h
 have hE:=Option.some.inj h
 obtain ⟨hE0,hF0⟩:=Prod.mk.inj hE
 subst hE0 hF0
 exact Aq Hd.Ac _ _ [] [none] (Aa 300 o3) (by kernel_rfl) .body
 intro h
 have hE:=Option.some.inj h
 obtain ⟨hE0,hF0⟩:=Prod.mk.inj hE
 subst hE0 hF0
 exact Aq Hd.Ac _ _ [] [none] (Aa 300 (o1++[pn hb1])) (by kernel_rfl) .body
 subst hv
 intro h
 have hE:=Option.some.inj h
 obtain ⟨hE0,hF0⟩:=Prod.mk.inj hE
 subst hE0 hF0
 exact Aq Hd.Ac _ _ [] [none] (Aa 300 o1) (by kernel_rfl) .body
noncomputable def Dj  (depth:Int) (i0:Nat) (e0:Nd) (w0_0:Int):Option (Lp Int Int (Bool×Int)):=(Df (⟨w0_0⟩:Ck) e0 depth).bind fun (y1a,y1b)=>cond y1a (some (.nx y1b)) (some (.rt (false,y1b)))
noncomputable def CC  (c:Ck) (list:(List Nd)) (depth:Int):Option (Bool×Int):=(Gy list.length (AT (fun i y x=>Dj  depth i y x) (fun x=>x) (list.drop 0) 0 c.nodes)).bind (GA (fun (w0_0_2:Int)=>some (true,w0_0_2)) (fun v=>some v))
theorem H6 {c:Ck} {list:(List Nd)} {depth:Int} {yR:Bool} {qc_nodesR:Int} (hS:Sound P G (.call 52 [.ptr 0 0,.sl .lost list.length (A7 list),.sc (.int .i64 depth),.fn (.func 115) [.ptr 0 0] []] ⟨[(0,.cells (EP c))],1,[],0⟩ (.ret (.sc (.bool yR))) ⟨[(0,.cells [.sc (.int .i64 qc_nodesR)])],1,[],0⟩)) (u0:Nat) (hnb:[u0].Nodup:=by decide) (hnt:([]:List Nat).Nodup:=by decide):Cd.ok P G (.callU 52 [.ptr u0 0,.sl .lost list.length (A7 list),.sc (.int .i64 depth),.fn (.func 115) [.ptr u0 0] []] (.ret (.sc (.bool yR))) [(u0,.cells (EP c))] [] [(u0,.cells [.sc (.int .i64 qc_nodesR)])] []) :=
 ER (M:=[.cells (EP c)]) (M2:=[.cells [.sc (.int .i64 qc_nodesR)]]) (T:=[]) (T2:=[]) (k:=1) (j:=0) Hd.Ac _ _ _ _ hS rfl rfl rfl rfl rfl hnb hnt rfl rfl (.cons (.cells (.pl (J2.pl c))) .nil) (.cons (.cells (.pl (Bo rfl rfl))) .nil) (.cons (.ptr (by decide)) (.cons (.pl (Am.EH list)) (.cons (.pl rfl) (.cons (.fn (.cons (.ptr (by decide)) .nil) (.pl rfl)) .nil)))) (.pl rfl) (fun e he=>by simp only [List.mem_singleton] at he;subst he;exact (.arg (.here .ptr)))
theorem GL   {c:Ck} {list:(List Nd)} {depth:Int} {yR:Bool} {qc_nodesR:Int} (h:CC  c list depth=some (yR,qc_nodesR)):Sound P G (.call 52 [.ptr 0 0,.sl .lost list.length (A7 list),.sc (.int .i64 depth),.fn (.func 115) [.ptr 0 0] []] ⟨[(0,.cells (EP c))],1,[],0⟩ (.ret (.sc (.bool yR))) ⟨[(0,.cells [.sc (.int .i64 qc_nodesR)])],1,[],0⟩):=by
 unfold CC at h
 refine EY Hd.mixed (AJ Tryz.func52 tH ?_)
 revert h
 refine DQ (fun Q v=>Jp P G Tryz.f52 1 ⟨[(0,.cells (EP c))],1,[],0⟩ Q (.sc (.bool v.1)) ⟨[(0,.cells [.sc (.int .i64 v.2)])],1,[],0⟩) (fun i0 (w0_0:Int) (j0:List Value)=>fr 23 [(2,.sc (.int .i64 depth)),(3,.fn (.func 115) [.ptr 0 0] []),(11,.sl .lost list.length (A7 list)),(12,.sc (.int .i64 ((list.length:Nat):Int))),(13,.sc (.int .i64 ((i0:Nat):Int)))] [8,14,20,21] j0) (fun (w0_0:Int)=>⟨[(0,.cells [.sc (.int .i64 w0_0)])],1,[],0⟩) (fun (w0_0:Int) (jx:List Value)=>fr 23 [] [8,14,20,21] jx) (fun (w0_0:Int)=>⟨[(0,.cells [.sc (.int .i64 w0_0)])],1,[],0⟩) [.bool false] (DI [] 0 (sb cJ 52) [.code (sb cJ 7)] (Aa 300 []) (by kernel_rfl)) ?_ ?_ ?_ (fun v h=>by cases h;exact .outer .body)
 rintro i0 w0_0 j0 hge hq
 exact B8 (Aa 300 [pb (IG hge)]) (by kernel_rfl) (hq (js 4 j0 [(1,.bool false)]))
 rintro i0 e0 w0_0 j0 r he0 hi0 mi0 k
 show Dj  depth i0 e0 w0_0=some r→_
 unfold Dj
 refine Aj ?_
 rintro ⟨y1a,y1b⟩ hy1
 dsimp only
 let o1:List (PC P G):=[pb (F6 hi0),CP (Bz .lost he0),AK (F4 (I0 hy1) 0)]
 refine Ae (fun hv=>?_) fun hv=>?_
 subst hv
 rintro ⟨⟩
 exact B7 Hd.Ac [fq (Am.EH list)] [none] (Aa 300 (o1++[pi mi0])) (by kernel_rfl) (k [(jv j0 0),.bool true,.bool true,.bool false])
 subst hv
 rintro ⟨⟩
 exact Aq Hd.Ac _ _ [] [none] (Aa 300 o1) (by kernel_rfl) (.GX k)
 rintro w0_0_2 jx_2
 intro h
 have hE:=Option.some.inj h
 obtain ⟨hE0,hF0⟩:=Prod.mk.inj hE
 subst hE0 hF0
 exact Aq Hd.Ac _ _ [] [none] (BX 300 []) (by kernel_rfl) .body
noncomputable def B84:Code:=A4 Tryz.f84
theorem zM:Tryz.f84.body=some B84:=by kernel_rfl
noncomputable def BV  (c:Ck) (n:Nd) (depth:Int):Option (Bool×Int):=(Bg c n depth).bind fun (y1a,y1b)=>cond y1a ((A6 n (⟨0,ByteArray.empty,ByteArray.empty,0,0,0,0,(⟨0,[]⟩:Fn),[],0⟩:Nd)).bind fun y2=>cond y2 (cond (Bs n.kind 7) (cond (FQ 0 ((n.kids.length:Nat):Int)) ((CC (⟨y1b⟩:Ck) n.kids (BM depth 1)).bind fun (y3a,y3b)=>some (y3a,y3b)) (some (false,y1b))) (cond (Bs ((n.kids.length:Nat):Int) 1) ((n.kids[0]?).bind fun x4=>(DF (⟨y1b⟩:Ck) x4 (BM depth 1)).bind fun (y5a,y5b)=>some (y5a,y5b)) (some (false,y1b)))) (some (false,y1b))) (some (false,y1b))
theorem Jb {c:Ck} {n:Nd} {depth:Int} {yR:Bool} {qc_nodesR:Int} (hS:Sound P G (.call 84 [.ptr 0 0,.agg (Ba n),.sc (.int .i64 depth)] ⟨[(0,.cells (EP c))],1,[],0⟩ (.ret (.sc (.bool yR))) ⟨[(0,.cells [.sc (.int .i64 qc_nodesR)])],1,[],0⟩)) (u0:Nat) (hnb:[u0].Nodup:=by decide) (hnt:([]:List Nat).Nodup:=by decide):Cd.ok P G (.callU 84 [.ptr u0 0,.agg (Ba n),.sc (.int .i64 depth)] (.ret (.sc (.bool yR))) [(u0,.cells (EP c))] [] [(u0,.cells [.sc (.int .i64 qc_nodesR)])] []) :=
 ER (M:=[.cells (EP c)]) (M2:=[.cells [.sc (.int .i64 qc_nodesR)]]) (T:=[]) (T2:=[]) (k:=1) (j:=0) Hd.Ac _ _ _ _ hS rfl rfl rfl rfl rfl hnb hnt rfl rfl (.cons (.cells (.pl (J2.pl c))) .nil) (.cons (.cells (.pl (Bo rfl rfl))) .nil) (.cons (.ptr (by decide)) (.cons (.pl (Am.F0 n)) (.cons (.pl rfl) .nil))) (.pl rfl) (fun e he=>by simp only [List.mem_singleton] at he;subst he;exact (.arg (.here .ptr)))
theorem Il   {c:Ck} {n:Nd} {depth:Int} {yR:Bool} {qc_nodesR:Int} (h:BV  c n depth=some (yR,qc_nodesR)):Sound P G (.call 84 [.ptr 0 0,.agg (Ba n),.sc (.int .i64 depth)] ⟨[(0,.cells (EP c))],1,[],0⟩ (.ret (.sc (.bool yR))) ⟨[(0,.cells [.sc (.int .i64 qc_nodesR)])],1,[],0⟩):=by
 unfold BV at h
 refine EY Hd.mixed (AJ Tryz.func84 zM ?_)
 revert h
 refine Aj ?_
 rintro ⟨y1a,y1b⟩ hy1
 dsimp only
 let o1:List (PC P G):=[AK (CY (Cn hy1) 0)]
 refine Ae (fun hv=>?_) fun hv=>?_
 subst hv
 refine Aj fun y2 hy2=>?_
 let o2:List (PC P G):=o1++[El (.r (.g (.r (.r (.r (.r (.r (.r (.r (.r (.z (.z (.r .nil))))))))))) .nil)) (A5 hy2)]
 refine Ae (fun hv=>?_) fun hv=>?_
 subst hv
 refine Ae (fun hb1=>?_) fun hb1=>?_
 refine Ae (fun hb2=>?_) fun hb2=>?_
 refine Aj ?_
 rintro ⟨y3a,y3b⟩ hy3
 dsimp only
 intro h
 have hE:=Option.some.inj h
 obtain ⟨hE0,hF0⟩:=Prod.mk.inj hE
 subst hE0 hF0
 exact Aq Hd.Ac _ _ [] [none] (Aa 300 (o2++[pb hb1,pb hb2,pk,AK (H6 (GL hy3) 0)])) (by kernel_rfl) .body
 intro h
 have hE:=Option.some.inj h
 obtain ⟨hE0,hF0⟩:=Prod.mk.inj hE
 subst hE0 hF0
 exact Aq Hd.Ac _ _ [] [none] (Aa 300 (o2++[pb hb1,pb hb2])) (by kernel_rfl) .body
 refine Ae (fun hb3=>?_) fun hb3=>?_
 refine Aj fun x4 hx4=>?_
 refine Aj ?_
 rintro ⟨y5a,y5b⟩ hy5
 dsimp only
 intro h
 have hE:=Option.some.inj h
 obtain ⟨hE0,hF0⟩:=Prod.mk.inj hE
 subst hE0 hF0
 exact Aq Hd.Ac _ _ [] [none] (Aa 300 (o2++[pb hb1,pb hb3,CP (Bz .lost hx4),pk,AK (AL (Gg hy5) 0)])) (by kernel_rfl) .body
 intro h
 have hE:=Option.some.inj h
 obtain ⟨hE0,hF0⟩:=Prod.mk.inj hE
 subst hE0 hF0
 exact Aq Hd.Ac _ _ [] [none] (Aa 300 (o2++[pb hb1,pb hb3])) (by kernel_rfl) .body
 subst hv
 intro h
 have hE:=Option.some.inj h
 obtain ⟨hE0,hF0⟩:=Prod.mk.inj hE
 subst hE0 hF0
 exact Aq Hd.Ac _ _ [] [none] (Aa 300 o2) (by kernel_rfl) .body
 subst hv
 intro h
 have hE:=Option.some.inj h
 obtain ⟨hE0,hF0⟩:=Prod.mk.inj hE
 subst hE0 hF0
 exact Aq Hd.Ac _ _ [] [none] (Aa 300 o1) (by kernel_rfl) .body
noncomputable def Dp  (depth:Int) (i0:Nat) (e0:Nd) (w0_0:Int):Option (Lp Int Int (Bool×Int)):=(BV (⟨w0_0⟩:Ck) e0 depth).bind fun (y1a,y1b)=>cond y1a (some (.nx y1b)) (some (.rt (false,y1b)))
noncomputable def CE  (c:Ck) (list:(List Nd)) (depth:Int):Option (Bool×Int):=(Gy list.length (AT (fun i y x=>Dp  depth i y x) (fun x=>x) (list.drop 0) 0 c.nodes)).bind (GA (fun (w0_0_2:Int)=>some (true,w0_0_2)) (fun v=>some v))
theorem HY {c:Ck} {list:(List Nd)} {depth:Int} {yR:Bool} {qc_nodesR:Int} (hS:Sound P G (.call 52 [.ptr 0 0,.sl .lost list.length (A7 list),.sc (.int .i64 depth),.fn (.func 84) [.ptr 0 0] []] ⟨[(0,.cells (EP c))],1,[],0⟩ (.ret (.sc (.bool yR))) ⟨[(0,.cells [.sc (.int .i64 qc_nodesR)])],1,[],0⟩)) (u0:Nat) (hnb:[u0].Nodup:=by decide) (hnt:([]:List Nat).Nodup:=by decide):Cd.ok P G (.callU 52 [.ptr u0 0,.sl .lost list.length (A7 list),.sc (.int .i64 depth),.fn (.func 84) [.ptr u0 0] []] (.ret (.sc (.bool yR))) [(u0,.cells (EP c))] [] [(u0,.cells [.sc (.int .i64 qc_nodesR)])] []) :=
 ER (M:=[.cells (EP c)]) (M2:=[.cells [.sc (.int .i64 qc_nodesR)]]) (T:=[]) (T2:=[]) (k:=1) (j:=0) Hd.Ac _ _ _ _ hS rfl rfl rfl rfl rfl hnb hnt rfl rfl (.cons (.cells (.pl (J2.pl c))) .nil) (.cons (.cells (.pl (Bo rfl rfl))) .nil) (.cons (.ptr (by decide)) (.cons (.pl (Am.EH list)) (.cons (.pl rfl) (.cons (.fn (.cons (.ptr (by decide)) .nil) (.pl rfl)) .nil)))) (.pl rfl) (fun e he=>by simp only [List.mem_singleton] at he;subst he;exact (.arg (.here .ptr)))
theorem GJ   {c:Ck} {list:(List Nd)} {depth:Int} {yR:Bool} {qc_nodesR:Int} (h:CE  c list depth=some (yR,qc_nodesR)):Sound P G (.call 52 [.ptr 0 0,.sl .lost list.length (A7 list),.sc (.int .i64 depth),.fn (.func 84) [.ptr 0 0] []] ⟨[(0,.cells (EP c))],1,[],0⟩ (.ret (.sc (.bool yR))) ⟨[(0,.cells [.sc (.int .i64 qc_nodesR)])],1,[],0⟩):=by
 unfold CE at h
 refine EY Hd.mixed (AJ Tryz.func52 tH ?_)
 revert h
 refine DQ (fun Q v=>Jp P G Tryz.f52 1 ⟨[(0,.cells (EP c))],1,[],0⟩ Q (.sc (.bool v.1)) ⟨[(0,.cells [.sc (.int .i64 v.2)])],1,[],0⟩) (fun i0 (w0_0:Int) (j0:List Value)=>fr 23 [(2,.sc (.int .i64 depth)),(3,.fn (.func 84) [.ptr 0 0] []),(11,.sl .lost list.length (A7 list)),(12,.sc (.int .i64 ((list.length:Nat):Int))),(13,.sc (.int .i64 ((i0:Nat):Int)))] [8,14,20,21] j0) (fun (w0_0:Int)=>⟨[(0,.cells [.sc (.int .i64 w0_0)])],1,[],0⟩) (fun (w0_0:Int) (jx:List Value)=>fr 23 [] [8,14,20,21] jx) (fun (w0_0:Int)=>⟨[(0,.cells [.sc (.int .i64 w0_0)])],1,[],0⟩) [.bool false] (DI [] 0 (sb cJ 52) [.code (sb cJ 7)] (Aa 300 []) (by kernel_rfl)) ?_ ?_ ?_ (fun v h=>by cases h;exact .outer .body)
 rintro i0 w0_0 j0 hge hq
 exact B8 (Aa 300 [pb (IG hge)]) (by kernel_rfl) (hq (js 4 j0 [(1,.bool false)]))
 rintro i0 e0 w0_0 j0 r he0 hi0 mi0 k
 show Dp  depth i0 e0 w0_0=some r→_
 unfold Dp
 refine Aj ?_
 rintro ⟨y1a,y1b⟩ hy1
 dsimp only
 let o1:List (PC P G):=[pb (F6 hi0),CP (Bz .lost he0),AK (Jb (Il hy1) 0)]
 refine Ae (fun hv=>?_) fun hv=>?_
 subst hv
 rintro ⟨⟩
 exact B7 Hd.Ac [fq (Am.EH list)] [none] (Aa 300 (o1++[pi mi0])) (by kernel_rfl) (k [(jv j0 0),.bool true,.bool true,.bool false])
 subst hv
 rintro ⟨⟩
 exact Aq Hd.Ac _ _ [] [none] (Aa 300 o1) (by kernel_rfl) (.GX k)
 rintro w0_0_2 jx_2
 intro h
 have hE:=Option.some.inj h
 obtain ⟨hE0,hF0⟩:=Prod.mk.inj hE
 subst hE0 hF0
 exact Aq Hd.Ac _ _ [] [none] (BX 300 []) (by kernel_rfl) .body
noncomputable def tU:Code:=A4 Tryz.f53
theorem b53:Tryz.f53.body=some tU:=by kernel_rfl
noncomputable def Cc  (y1b:Int) (i0:Nat) (e0:Nd) (w2_6:Int) (w2_7:Int) (w2_8:Int):Option (Lp (Int×Int×Int) (Int×Int×Int) (Bool×Int)):=cond (FQ e0.kind 6) (some (.rt (false,y1b))) (cond (FQ 8 e0.kind) (some (.rt (false,y1b))) (cond (Bs e0.kind 6) (some (.nx ((BM w2_6 1),w2_7,w2_8))) (cond (Bs e0.kind 7) (some (.nx (w2_6,(BM w2_7 1),w2_8))) (cond (Bs e0.kind 8) (some (.nx (w2_6,w2_7,(BM w2_8 1)))) (none)))))
noncomputable def Cj  (c:Ck) (n:Nd) (depth:Int):Option (Bool×Int):=(Bg c n depth).bind fun (y1a,y1b)=>cond y1a (cond (Bs n.kind 2) ((Ci n.name).bind fun y2=>cond y2 ((CJ n.unit).bind fun y3=>cond y3 (cond (Bs ((n.kids.length:Nat):Int) 0) ((A6 n (⟨0,n.name,n.unit,0,0,0,0,(⟨0,[]⟩:Fn),[],0⟩:Nd)).bind fun y4=>some (y4,y1b)) (some (false,y1b))) (some (false,y1b))) (some (false,y1b))) (cond (Bs n.kind 3) ((Ci n.name).bind fun y5=>cond y5 ((CJ n.unit).bind fun y6=>cond y6 (cond (KT 1 n.n) (cond (KT n.n 4) (cond (Bs ((n.kids.length:Nat):Int) 0) ((A6 n (⟨0,n.name,n.unit,n.n,0,0,0,(⟨0,[]⟩:Fn),[],0⟩:Nd)).bind fun y7=>some (y7,y1b)) (some (false,y1b))) (some (false,y1b))) (some (false,y1b))) (some (false,y1b))) (some (false,y1b))) (cond (Bs n.kind 4) ((BY n.n).bind fun y8=>cond y8 ((Ci n.name).bind fun y9=>cond y9 ((A6 n (⟨0,n.name,ByteArray.empty,n.n,0,0,0,(⟨0,[]⟩:Fn),[],0⟩:Nd)).bind fun y10=>cond y10 (cond (Bs ((n.kids.length:Nat):Int) 0) (some (false,y1b)) ((Jz n.kids 1 ((n.kids.length:Nat):Int)).bind fun l11=>(Gy l11.length (AT (fun i y x=>Cc  y1b i y x.1 x.2.1 x.2.2) (fun x=>(x.1,x.2.1,x.2.2)) (l11.drop 0) 0 (0,0,0))).bind (GA (fun ((w2_6_12,w2_7_12,w2_8_12):(Int×Int×Int))=>cond (Bs w2_8_12 1) (cond (FQ 1 w2_7_12) (some (false,y1b)) ((n.kids[0]?).bind fun x13=>(CZ (⟨y1b⟩:Ck) x13 (BM depth 1)).bind fun (y14a,y14b)=>cond y14a ((CE (⟨y14b⟩:Ck) l11 (BM depth 1)).bind fun (y15a,y15b)=>some (y15a,y15b)) (some (false,y14b)))) (some (false,y1b))) (fun v=>some v)))) (some (false,y1b))) (some (false,y1b))) (some (false,y1b))) (some (false,y1b))))) (some (false,y1b))
theorem J6 {c:Ck} {n:Nd} {depth:Int} {yR:Bool} {qc_nodesR:Int} (hS:Sound P G (.call 53 [.ptr 0 0,.agg (Ba n),.sc (.int .i64 depth)] ⟨[(0,.cells (EP c))],1,[],0⟩ (.ret (.sc (.bool yR))) ⟨[(0,.cells [.sc (.int .i64 qc_nodesR)])],1,[],0⟩)) (u0:Nat) (hnb:[u0].Nodup:=by decide) (hnt:([]:List Nat).Nodup:=by decide):Cd.ok P G (.callU 53 [.ptr u0 0,.agg (Ba n),.sc (.int .i64 depth)] (.ret (.sc (.bool yR))) [(u0,.cells (EP c))] [] [(u0,.cells [.sc (.int .i64 qc_nodesR)])] []) :=
 ER (M:=[.cells (EP c)]) (M2:=[.cells [.sc (.int .i64 qc_nodesR)]]) (T:=[]) (T2:=[]) (k:=1) (j:=0) Hd.Ac _ _ _ _ hS rfl rfl rfl rfl rfl hnb hnt rfl rfl (.cons (.cells (.pl (J2.pl c))) .nil) (.cons (.cells (.pl (Bo rfl rfl))) .nil) (.cons (.ptr (by decide)) (.cons (.pl (Am.F0 n)) (.cons (.pl rfl) .nil))) (.pl rfl) (fun e he=>by simp only [List.mem_singleton] at he;subst he;exact (.arg (.here .ptr)))
theorem IZ   {c:Ck} {n:Nd} {depth:Int} {yR:Bool} {qc_nodesR:Int} (h:Cj  c n depth=some (yR,qc_nodesR)):Sound P G (.call 53 [.ptr 0 0,.agg (Ba n),.sc (.int .i64 depth)] ⟨[(0,.cells (EP c))],1,[],0⟩ (.ret (.sc (.bool yR))) ⟨[(0,.cells [.sc (.int .i64 qc_nodesR)])],1,[],0⟩):=by
 unfold Cj at h
 refine EY Hd.mixed (AJ Tryz.func53 b53 ?_)
 revert h
 refine Aj ?_
 rintro ⟨y1a,y1b⟩ hy1
 dsimp only
 let o1:List (PC P G):=[AK (CY (Cn hy1) 0)]
 refine Ae (fun hv=>?_) fun hv=>?_
 subst hv
 refine Ae (fun hb1=>?_) fun hb1=>?_
 refine Aj fun y2 hy2=>?_
 let o2:List (PC P G):=o1++[pb hb1,Ak (DO hy2)]
 refine Ae (fun hv=>?_) fun hv=>?_
 subst hv
 refine Aj fun y3 hy3=>?_
 refine Ae (fun hv=>?_) fun hv=>?_
 subst hv
 refine Ae (fun hb2=>?_) fun hb2=>?_
 refine Aj fun y4 hy4=>?_
 intro h
 have hE:=Option.some.inj h
 obtain ⟨hE0,hF0⟩:=Prod.mk.inj hE
 subst hE0 hF0
 exact Aq Hd.Ac _ _ [] [none] (Aa 300 (o2++[Ak (Da hy3),pb hb2,El (.r (.g (.r (.r (.r (.r (.r (.r (.r (.r (.z (.z (.r .nil))))))))))) .nil)) (A5 hy4)])) (by kernel_rfl) .body
 intro h
 have hE:=Option.some.inj h
 obtain ⟨hE0,hF0⟩:=Prod.mk.inj hE
 subst hE0 hF0
 exact Aq Hd.Ac _ _ [] [none] (Aa 300 (o2++[Ak (Da hy3),pb hb2])) (by kernel_rfl) .body
 subst hv
 intro h
 have hE:=Option.some.inj h
 obtain ⟨hE0,hF0⟩:=Prod.mk.inj hE
 subst hE0 hF0
 exact Aq Hd.Ac _ _ [] [none] (Aa 300 (o2++[Ak (Da hy3)])) (by kernel_rfl) .body
 subst hv
 intro h
 have hE:=Option.some.inj h
 obtain ⟨hE0,hF0⟩:=Prod.mk.inj hE
 subst hE0 hF0
 exact Aq Hd.Ac _ _ [] [none] (Aa 300 o2) (by kernel_rfl) .body
 let o3:List (PC P G):=o1++[pb hb1]
 refine Ae (fun hb3=>?_) fun hb3=>?_
 refine Aj fun y5 hy5=>?_
 let o4:List (PC P G):=o3++[pb hb3,Ak (DO hy5)]
 refine Ae (fun hv=>?_) fun hv=>?_
 subst hv
 refine Aj fun y6 hy6=>?_
 let o5:List (PC P G):=o4++[Ak (Da hy6)]
 refine Ae (fun hv=>?_) fun hv=>?_
 subst hv
 refine Ae (fun hb4=>?_) fun hb4=>?_
 refine Ae (fun hb5=>?_) fun hb5=>?_
 refine Ae (fun hb6=>?_) fun hb6=>?_
 refine Aj fun y7 hy7=>?_
 intro h
 have hE:=Option.some.inj h
 obtain ⟨hE0,hF0⟩:=Prod.mk.inj hE
 subst hE0 hF0
 exact Aq Hd.Ac _ _ [] [none] (Aa 300 (o5++[pb hb4,pb hb5,pb hb6,El (.r (.g (.r (.r (.r (.r (.r (.r (.r (.r (.z (.z (.r .nil))))))))))) .nil)) (A5 hy7)])) (by kernel_rfl) .body
 intro h
 have hE:=Option.some.inj h
 obtain ⟨hE0,hF0⟩:=Prod.mk.inj hE
 subst hE0 hF0
 exact Aq Hd.Ac _ _ [] [none] (Aa 300 (o5++[pb hb4,pb hb5,pb hb6])) (by kernel_rfl) .body
 intro h
 have hE:=Option.some.inj h
 obtain ⟨hE0,hF0⟩:=Prod.mk.inj hE
 subst hE0 hF0
 exact Aq Hd.Ac _ _ [] [none] (Aa 300 (o5++[pb hb4,pb hb5])) (by kernel_rfl) .body
 intro h
 have hE:=Option.some.inj h
 obtain ⟨hE0,hF0⟩:=Prod.mk.inj hE
 subst hE0 hF0
 exact Aq Hd.Ac _ _ [] [none] (Aa 300 (o5++[pb hb4])) (by kernel_rfl) .body
 subst hv
 intro h
 have hE:=Option.some.inj h
 obtain ⟨hE0,hF0⟩:=Prod.mk.inj hE
 subst hE0 hF0
 exact Aq Hd.Ac _ _ [] [none] (Aa 300 o5) (by kernel_rfl) .body
 subst hv
 intro h
 have hE:=Option.some.inj h
 obtain ⟨hE0,hF0⟩:=Prod.mk.inj hE
 subst hE0 hF0
 exact Aq Hd.Ac _ _ [] [none] (Aa 300 o4) (by kernel_rfl) .body
 refine Ae (fun hb7=>?_) fun hb7=>?_
 refine Aj fun y8 hy8=>?_
 let o6:List (PC P G):=o3++[pb hb3,pb hb7,Ak (DE hy8)]
 refine Ae (fun hv=>?_) fun hv=>?_
 subst hv
 refine Aj fun y9 hy9=>?_
 let o7:List (PC P G):=o6++[Ak (DO hy9)]
 refine Ae (fun hv=>?_) fun hv=>?_
 subst hv
 refine Aj fun y10 hy10=>?_
 let o8:List (PC P G):=o7++[El (.r (.g (.r (.r (.r (.r (.r (.r (.r (.r (.z (.z (.r .nil))))))))))) .nil)) (A5 hy10)]
 refine Ae (fun hv=>?_) fun hv=>?_
 subst hv
 refine Ae (fun hb8=>?_) fun hb8=>?_
 intro h
 have hE:=Option.some.inj h
 obtain ⟨hE0,hF0⟩:=Prod.mk.inj hE
 subst hE0 hF0
 exact Aq Hd.Ac _ _ [] [none] (Aa 300 (o8++[pb hb8])) (by kernel_rfl) .body
 refine Aj fun l11 hl11=>?_
 refine DQ (fun Q v=>Jp P G Tryz.f53 1 ⟨[(0,.cells (EP c))],1,[],0⟩ Q (.sc (.bool v.1)) ⟨[(0,.cells [.sc (.int .i64 v.2)])],1,[],0⟩) (fun i0 ((w2_6,w2_7,w2_8):(Int×Int×Int)) (j0:List Value)=>fr 158 [(0,.ptr 0 0),(2,.sc (.int .i64 depth)),(4,.ptr 1 0),(7,.ptr 2 0),(110,.sl .lost l11.length (A7 l11)),(111,.sc (.int .i64 ((l11.length:Nat):Int))),(112,.sc (.int .i64 ((i0:Nat):Int)))] [6,13,14,17,18,21,22,25,26,27,31,32,33,40,41,42,43,46,47,50,51,52,55,56,57,60,61,62,66,67,68,77,78,79,80,83,84,85,88,89,90,91,98,99,100,101,105,106,113,118,119,122,123,133,134,137,138,146,147,156,157] j0) (fun ((w2_6,w2_7,w2_8):(Int×Int×Int))=>⟨[(2,.cells [.sc (.int .i64 0),.sc (.int .i64 0),.sc (.int .i64 0),.sc (.int .i64 0),.sc (.int .i64 0),.sc (.int .i64 0),.sc (.int .i64 w2_6),.sc (.int .i64 w2_7),.sc (.int .i64 w2_8)]),(1,.cells (Ba n)),(0,.cells [.sc (.int .i64 y1b)])],3,[],0⟩) (fun ((w2_6,w2_7,w2_8):(Int×Int×Int)) (jx:List Value)=>fr 158 [(0,.ptr 0 0),(2,.sc (.int .i64 depth)),(4,.ptr 1 0),(7,.ptr 2 0)] [6,13,14,17,18,21,22,25,26,27,31,32,33,40,41,42,43,46,47,50,51,52,55,56,57,60,61,62,66,67,68,77,78,79,80,83,84,85,88,89,90,91,98,99,100,101,105,106,113,118,119,122,123,133,134,137,138,146,147,156,157] jx) (fun ((w2_6,w2_7,w2_8):(Int×Int×Int))=>⟨[(2,.cells [.sc (.int .i64 0),.sc (.int .i64 0),.sc (.int .i64 0),.sc (.int .i64 0),.sc (.int .i64 0),.sc (.int .i64 0),.sc (.int .i64 w2_6),.sc (.int .i64 w2_7),.sc (.int .i64 w2_8)]),(1,.cells (Ba n)),(0,.cells [.sc (.int .i64 y1b)])],3,[],0⟩) [.bool false,.bool true,.bool false,.bool false,.bool false,undef,undef,undef,undef,undef,undef,undef,undef,undef,undef,.bool false,.bool false,undef,undef,undef,undef,undef,undef,undef,undef,undef,undef,undef,undef,undef,undef,undef,undef,.bool true,.bool true,.bool true,.bool false,.bool false,.bool true,.bool false,.bool false,.bool false,.bool true,.bool false,.bool false,.bool false,.bool false,.bool false] (DI [] 1 (sb tU 241588) [.code (sb tU 30199),.endb 0,.code (sb tU 15)] (Aa 300 (o8++[pb hb8,Oh (Gl hl11)])) (by kernel_rfl)) ?_ ?_ ?_ (fun v h=>by cases h;exact .outer .body)
 rintro i0 ⟨w2_6,w2_7,w2_8⟩ j0 hge hq
 exact B8 (Aa 300 [pb (IG hge)]) (by kernel_rfl) (hq (js 61 j0 [(48,.bool false)]))
 rintro i0 e0 ⟨w2_6,w2_7,w2_8⟩ j0 r he0 hi0 mi0 k
 show Cc  y1b i0 e0 w2_6 w2_7 w2_8=some r→_
 unfold Cc
 let o9:List (PC P G):=[pb (F6 hi0),CP (Bz .lost he0)]
 refine Ae (fun hb9=>?_) fun hb9=>?_
 rintro ⟨⟩
 exact Aq Hd.Ac _ _ [] [none] (Aa 300 (o9++[pb hb9])) (by kernel_rfl) (.GX k)
 refine Ae (fun hb10=>?_) fun hb10=>?_
 rintro ⟨⟩
 exact Aq Hd.Ac _ _ [] [none] (Aa 300 (o9++[pb hb9,pb hb10])) (by kernel_rfl) (.GX k)
 refine Ae (fun hb11=>?_) fun hb11=>?_
 rintro ⟨⟩
 exact B7 Hd.Ac [fq (Am.EH l11)] [none,bp (Am.pl n),none] (Aa 300 (o9++[pb hb9,pb hb10,CP (t:=119) (a:=.ptr 2 0) (b:=.sc (.int .i64 e0.kind)) (v:=.ptr 2 6) (by rw [Gf hb11];kernel_rfl),pk,CP (t:=119) (a:=.ptr 2 0) (b:=.sc (.int .i64 e0.kind)) (v:=.ptr 2 6) (by rw [Gf hb11];kernel_rfl),pi mi0])) (by kernel_rfl) (k (js 61 j0 [(48,.bool true),(49,.bool false),(50,.bool false),(51,.bool false),(52,.bool false)]))
 refine Ae (fun hb12=>?_) fun hb12=>?_
 rintro ⟨⟩
 exact B7 Hd.Ac [fq (Am.EH l11)] [none,bp (Am.pl n),none] (Aa 300 (o9++[pb hb9,pb hb10,CP (t:=119) (a:=.ptr 2 0) (b:=.sc (.int .i64 e0.kind)) (v:=.ptr 2 7) (by rw [Gf hb12];kernel_rfl),pk,CP (t:=119) (a:=.ptr 2 0) (b:=.sc (.int .i64 e0.kind)) (v:=.ptr 2 7) (by rw [Gf hb12];kernel_rfl),pi mi0])) (by kernel_rfl) (k (js 61 j0 [(48,.bool true),(49,.bool false),(50,.bool false),(51,.bool false),(52,.bool false)]))
 refine Ae (fun hb13=>?_) fun hb13=>?_
 rintro ⟨⟩
 exact B7 Hd.Ac [fq (Am.EH l11)] [none,bp (Am.pl n),none] (Aa 300 (o9++[pb hb9,pb hb10,CP (t:=119) (a:=.ptr 2 0) (b:=.sc (.int .i64 e0.kind)) (v:=.ptr 2 8) (by rw [Gf hb13];kernel_rfl),pk,CP (t:=119) (a:=.ptr 2 0) (b:=.sc (.int .i64 e0.kind)) (v:=.ptr 2 8) (by rw [Gf hb13];kernel_rfl),pi mi0])) (by kernel_rfl) (k (js 61 j0 [(48,.bool true),(49,.bool false),(50,.bool false),(51,.bool false),(52,.bool false)]))
 exact o0
 rintro ⟨w2_6_12,w2_7_12,w2_8_12⟩ jx_12
 dsimp only
 refine Ae (fun hb14=>?_) fun hb14=>?_
 refine Ae (fun hb15=>?_) fun hb15=>?_
 intro h
 have hE:=Option.some.inj h
 obtain ⟨hE0,hF0⟩:=Prod.mk.inj hE
 subst hE0 hF0
 exact Aq Hd.Ac _ _ [] [none] (BX 300 [pk,pn hb14,pk,pb hb15]) (by kernel_rfl) .body
 refine Aj fun x13 hx13=>?_
 refine Aj ?_
 rintro ⟨y14a,y14b⟩ hy14
 dsimp only
 let o10:List (PC P G):=[pk,pn hb14,pk,pb hb15,CP (Bz .lost hx13),pk,AK (J8 (I1 hy14) 0)]
 refine Ae (fun hv=>?_) fun hv=>?_
 subst hv
 refine Aj ?_
 rintro ⟨y15a,y15b⟩ hy15
 dsimp only
 intro h
 have hE:=Option.some.inj h
 obtain ⟨hE0,hF0⟩:=Prod.mk.inj hE
 subst hE0 hF0
 exact Aq Hd.Ac _ _ [] [none] (BX 300 (o10++[Oh (Gl hl11),pk,AK (HY (GJ hy15) 0)])) (by kernel_rfl) .body
 subst hv
 intro h
 have hE:=Option.some.inj h
 obtain ⟨hE0,hF0⟩:=Prod.mk.inj hE
 subst hE0 hF0
 exact Aq Hd.Ac _ _ [] [none] (BX 300 o10) (by kernel_rfl) .body
 intro h
 have hE:=Option.some.inj h
 obtain ⟨hE0,hF0⟩:=Prod.mk.inj hE
 subst hE0 hF0
 exact Aq Hd.Ac _ _ [] [none] (BX 300 [pk,pn hb14]) (by kernel_rfl) .body
 subst hv
 intro h
 have hE:=Option.some.inj h
 obtain ⟨hE0,hF0⟩:=Prod.mk.inj hE
 subst hE0 hF0
 exact Aq Hd.Ac _ _ [] [none] (Aa 300 o8) (by kernel_rfl) .body
 subst hv
 intro h
 have hE:=Option.some.inj h
 obtain ⟨hE0,hF0⟩:=Prod.mk.inj hE
 subst hE0 hF0
 exact Aq Hd.Ac _ _ [] [none] (Aa 300 o7) (by kernel_rfl) .body
 subst hv
 intro h
 have hE:=Option.some.inj h
 obtain ⟨hE0,hF0⟩:=Prod.mk.inj hE
 subst hE0 hF0
 exact Aq Hd.Ac _ _ [] [none] (Aa 300 o6) (by kernel_rfl) .body
 intro h
 have hE:=Option.some.inj h
 obtain ⟨hE0,hF0⟩:=Prod.mk.inj hE
 subst hE0 hF0
 exact Aq Hd.Ac _ _ [] [none] (Aa 300 (o3++[pb hb3,pb hb7])) (by kernel_rfl) .body
 subst hv
 intro h
 have hE:=Option.some.inj h
 obtain ⟨hE0,hF0⟩:=Prod.mk.inj hE
 subst hE0 hF0
 exact Aq Hd.Ac _ _ [] [none] (Aa 300 o1) (by kernel_rfl) .body
end Mo
end Go.Proofs.YtkfplcngmiljaaaGreatDoor
