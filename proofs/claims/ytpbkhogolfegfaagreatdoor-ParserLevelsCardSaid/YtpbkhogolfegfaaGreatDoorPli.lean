/- Part of a proof: see the last text. -/
import Derived.Test.YtpbkhogolfegfaaGreatDoorPlh
import Derived.Test.YtpbkhogolfegfaaGreatDoorProg
import Derived.KernelRfl
import Derived.WalkKit
import Derived.WalkLawsBesides
import Derived.WalkSpells
import Derived.Lib.Hide
import Derived.Laws.Rows
import Derived.Recover
import Derived.StillTailTactics
import Derived.Deep.RegionHeld3
set_option linter.unusedVariables false
set_option linter.unusedSimpArgs false
set_option linter.defProp false
noncomputable section
namespace Go.Proofs.YtpbkhogolfegfaaGreatDoor
open AI Go Go.RowKit
def nH(x y z:Value)(w:World) :
   CallsD Tryz.prog 68 #[x,y,z] .returning w λe u' w'=>e=.returned (.tuple #[])/\u'=.returning/\w'=w:=by
 refine callsD_of_wpS Tryz.func68 rfl λc₀ cs hu=>?_;apply wpS_seq;apply wpS_region;simp[wpOpsS,go_sem,recoverD,hu,Tryz.ntmps68,Exit.thenS];apply wpS_seq;apply wpS_region;simp[wpOpsS,go_sem,Exit.thenS];refine wpS_cond (t:=false) (by simp[Act.eval,Array.replicate]) ?_;simp only[Bool.false_eq_true,if_false];refine wpS_of_wp (wp_skip ?_);cases c₀;simp_all [bodyPostS,results,Tryz.results68]
def aU(a b:Int)(w:World):(Instr.typeAssert (.iface 45 (.agg #[.int .i64 a,.int .i64 b])) 20 45 true).run Tryz.prog w=.ok (.tuple #[.agg #[.int .i64 a,.int .i64 b],.bool true]) w:=by kernel_rfl
def ZM:Array Value:=#[.int .i64 0,.string ⟨#[]⟩,.string ⟨#[]⟩,.int .i64 0,.int .i64 0,.int .i64 0,.int .i64 0,.int .i64 0,.slice none 0 0,.slice none 0 0,.int .i64 0]
def auY{P:Program}{md:Region.Mode}{Q:Exit->Act->World->Prop}{S:World->Prop}{l:List Oper}{i:Nat}{oi:Oper}{v:Value}{fuel:Nat}{listed:Array Bool}{a:Act}{w:World}(hi:l[i]?=some oi)
   (hs:Region.noSelect l.toArray=true) (hf:Region.free md l.toArray listed i=true) (hr:(Region.ready md l.toArray listed).contains i=true)
   (hQ:∀c a w,Q (.panic c) (a.put oi.dst v) w->Q (.panic c) a w) (hy:YieldsIf P l.toArray S oi v a) (hS:S w)
   (h:wpAnyH P md l.toArray Q S fuel (listed.setIfInBounds i true) (a.put oi.dst v) w):wpAnyH P md l.toArray Q S (fuel+1) listed a w :=
 wpAnyH_take (by simpa using hi) hs hf hr hQ hy hS h
def qA{P:Program}{md:Region.Mode}{Q:Exit->Act->World->Prop}{S:World->Prop}{l:List Oper}{i:Nat}{o:Oper}{fuel:Nat}{listed:Array Bool}{a:Act}{w:World}(hr:Region.ready md l.toArray listed=[i])(ho:l[i]?=some o)
   (h:∀K':Act->World->Prop,Shut (∀a w,S w->(S w->wpAnyH P md l.toArray Q S fuel (listed.setIfInBounds i true) a w)->K' a w)->if Region.wanted o (yielded l.toArray a.tmps)=true then Oper.wp P o a w K' Q else K' (a.put o.dst undef) w) :
   wpAnyH P md l.toArray Q S (fuel+1) listed a w :=
 wpAnyH_ready hr (by simp) (AllReadyH.cons (by simpa using ho) h AllReadyH.nil)
def aiF(P:Program)(w:World)(g:Nat)(t:TypeId)(old cells:Array Value)(hg:w.heap[g]?=some (.cells old t (0,0)))(ho:old.size=cells.size)(h1:cells.all (·.oneCell')=true):(storeCells ⟨g,0,none⟩ cells.toList).run P w=.ok () (w.setRow g cells):=by
 have:=run_storeCells_from (P:=P) g t cells.toList 0 old w hg (by simp;omega) (λv hv=>(Array.all_eq_true_iff_forall_mem.1 h1) v (by simpa using hv))
 simpa using this
def aaK(n d o:Nat)(a b:Int)(w w':World):Prop :=
 w'.heap[n]?=some (.cells ZM 29 (0,0))/\w'.heap[d]?=some (.cells #[.int .i64 a,.int .i64 b] 45 (0,0))/\w'.heap[o]?=some (.cells #[.bool false] 4 (0,0))/\Q9 w w' (λk=>k=n\/k=d\/k=o)
set_option maxRecDepth 20000 in
set_option maxHeartbeats 4000000 in
def nG(n d o:Nat)(a b:Int)(older:List PanicEntry)(w:World)(zn zd zo:Array Value)(hnd:n≠d)(hno:n≠o)(hdo:d≠o)
   (hn:w.heap[n]?=some (.cells zn 29 (0,0))) (hd:w.heap[d]?=some (.cells zd 45 (0,0))) (ho:w.heap[o]?=some (.cells zo 4 (0,0))) (kn:zn.size=11) (kd:zd.size=2) (ko:zo.size=1) :
   CallsD Tryz.prog 68 #[.pointer (some ⟨n,0,none⟩),.pointer (some ⟨d,0,none⟩),.pointer (some ⟨o,0,none⟩)] (.panicking ({ v:=.iface 45 (.agg #[.int .i64 a,.int .i64 b]),recovered:=false }::older)) w λe u' w' =>
     e=.returned (.tuple #[])/\u'=.panicking ({ v:=.iface 45 (.agg #[.int .i64 a,.int .i64 b]),recovered:=true }::older)/\aaK n d o a b w w':=by
 have ln:n < w.heap.size:=(Array.getElem?_eq_some_iff.1 hn).1;have ld:d < w.heap.size:=(Array.getElem?_eq_some_iff.1 hd).1;have lo:o < w.heap.size:=(Array.getElem?_eq_some_iff.1 ho).1;have HN:=Lib.hid hn;have HD:=Lib.hid hd;have HO:=Lib.hid ho;have KK:=Lib.hid (And.intro kn (And.intro kd ko));clear hn hd ho kn kd ko;refine callsD_of_wpS Tryz.func68 rfl λc₀ cs hu=>?_;apply wpS_seq;apply wpS_region;simp[wpOpsS,go_sem,recoverD,hu,Tryz.ntmps68,Exit.thenS];clear hu;have hta:=aU a b;apply wpS_seq;apply wpS_region;simp[wpOpsS,go_sem,Exit.thenS];refine wpS_cond (t:=true) (by simp[Act.eval,Array.replicate]) ?_;simp only[if_true];apply wpS_seq;apply wpS_region;simp[wpOpsS,go_sem,Exit.thenS,aU];apply wpS_seq;apply wpS_seq;apply wpS_region;simp[wpOpsS,go_sem,Exit.thenS];refine wpS_cond (t:=false) (by simp[Act.eval,Array.replicate]) ?_;simp only[Bool.false_eq_true,if_false];refine wpS_of_wp (wp_skip ?_);simp only[Exit.thenS];refine wpS_of_wp ?_;clear hta;have hf:=heap_alloc_new w (.cells #[.int .i64 a,.int .i64 b] 45);have HB:Q9 w (w.alloc (.cells #[.int .i64 a,.int .i64 b] 45)) (λ_=>False):=Nh w _;generalize w.alloc (.cells #[.int .i64 a,.int .i64 b] 45)=w1 at hf HB ⊢;have hn1:w1.heap[n]?=some (.cells zn 29 (0,0)):=(HB.block n ln id).trans HN.out;have hd1:w1.heap[d]?=some (.cells zd 45 (0,0)):=(HB.block d ld id).trans HD.out;have ho1:w1.heap[o]?=some (.cells zo 4 (0,0)):=(HB.block o lo id).trans HO.out;clear HN HD HO;refine wp_region_held_drew (S:=λv=>v.heap[w.heap.size]?=some (.cells #[.int .i64 a,.int .i64 b] 45 (0,0))/\Q9 w v (λk=>k=n\/k=d\/k=o)) (by kernel_rfl) ⟨hf,⟨HB.os,HB.tape,HB.output,HB.size,λk hk _=>HB.block k hk id⟩⟩ (λhHeld=>?_);have hw1:w1.drew.heap=w1.heap:=rfl;rw[<- hw1] at hn1 hd1 ho1;generalize w1.drew=w2 at hHeld hn1 hd1 ho1 ⊢;clear hw1 hf HB w1;refine auY (i:=0) (v:=.agg ZM) rfl (by kernel_rfl) (by kernel_rfl) (by kernel_rfl) (λ_ _ _ h=>h) (Or.inl ⟨by rfl,?_⟩) hHeld ?_
 · intro v hv;go_simp;rfl
 try simp only[Act.put,List.setIfInBounds_toArray,List.set_cons_zero,List.set_cons_succ]
 refine auY (i:=1) (v:=.agg #[.int .i64 a,.int .i64 b]) rfl (by kernel_rfl) (by kernel_rfl) (by kernel_rfl) (λ_ _ _ h=>h) (Or.inl ⟨by rfl,?_⟩) hHeld ?_
 · intro v hv
   have g0:v.cell? ⟨w.heap.size,0,none⟩=some (.int .i64 a):=by simp[World.cell?,hv.1]
   have g1:v.cell? ⟨w.heap.size,1,none⟩=some (.int .i64 b):=by simp[World.cell?,hv.1]
   go_simp
 try simp only[Act.put,List.setIfInBounds_toArray,List.set_cons_zero,List.set_cons_succ]
 refine qA (i:=2) (by kernel_rfl) rfl (λK hK=>?_)
 go_simp
 have hne:w.heap.size≠n:=by omega
 have c1:=Ht w2 n ZM;have s1:=setRow_heap w2 n _ ZM _ _ hn1;have t1:(w2.setRow n ZM).heap[d]?=some (.cells zd 45 (0,0)):=(c1.block d (Nat.lt_of_lt_of_le ld hHeld.2.size) (λe=>hnd e.symm)).trans hd1;have u1:(w2.setRow n ZM).heap[o]?=some (.cells zo 4 (0,0)):=(c1.block o (Nat.lt_of_lt_of_le lo hHeld.2.size) (λe=>hno e.symm)).trans ho1;have f1:(w2.setRow n ZM).heap[w.heap.size]?=some (.cells #[.int .i64 a,.int .i64 b] 45 (0,0)):=(c1.block _ (Array.getElem?_eq_some_iff.1 hHeld.1).1 hne).trans hHeld.1;have C1:Q9 w (w2.setRow n ZM) (λk=>k=n\/k=d\/k=o):=⟨c1.os.trans hHeld.2.os,c1.tape.trans hHeld.2.tape,c1.output.trans hHeld.2.output,Nat.le_trans hHeld.2.size c1.size,λk hk hq=>(c1.block k (Nat.lt_of_lt_of_le hk hHeld.2.size) (λe=>hq (.inl e))).trans (hHeld.2.block k hk hq)⟩;rw[if_pos (by rfl),aiF _ _ _ _ _ ZM hn1 KK.out.1 (by kernel_rfl)];simp only[Result.andThen_ok,Oper.upon];refine hK.out _ _ ⟨f1,C1⟩ λ_=>?_;clear hK K hHeld hn1 hd1 ho1 c1;generalize w2.setRow n ZM=w3 at s1 t1 u1 f1 C1 ⊢;refine qA (i:=3) (by kernel_rfl) rfl (λK hK=>?_)
 go_simp
 have c2:=Ht w3 d #[.int .i64 a,.int .i64 b];have s2:=setRow_heap w3 d _ #[.int .i64 a,.int .i64 b] _ _ t1;have t2:(w3.setRow d #[.int .i64 a,.int .i64 b]).heap[n]?=some (.cells ZM 29 (0,0)):=(c2.block n (Nat.lt_of_lt_of_le ln C1.size) hnd).trans s1;have u2:(w3.setRow d #[.int .i64 a,.int .i64 b]).heap[o]?=some (.cells zo 4 (0,0)):=(c2.block o (Nat.lt_of_lt_of_le lo C1.size) (λe=>hdo e.symm)).trans u1;have f2:(w3.setRow d #[.int .i64 a,.int .i64 b]).heap[w.heap.size]?=some (.cells #[.int .i64 a,.int .i64 b] 45 (0,0)):=(c2.block _ (Array.getElem?_eq_some_iff.1 f1).1 (by omega)).trans f1;have C2:Q9 w (w3.setRow d #[.int .i64 a,.int .i64 b]) (λk=>k=n\/k=d\/k=o):=⟨c2.os.trans C1.os,c2.tape.trans C1.tape,c2.output.trans C1.output,Nat.le_trans C1.size c2.size,λk hk hq=>(c2.block k (Nat.lt_of_lt_of_le hk C1.size) (λe=>hq (.inr (.inl e)))).trans (C1.block k hk hq)⟩
 obtain⟨x0,x1,hzd⟩:∃x0 x1,zd=#[x0,x1]:=by
   obtain⟨l⟩:=zd;have hl:l.length=2:=KK.out.2.1
   match l,hl with
   | [x0,x1],_=>exact⟨x0,x1,rfl⟩
 have t1:=hzd▸t1;have p0:w3.cell? ⟨d,0,none⟩=some x0:=by simp[World.cell?,t1]
 have q0:w3.frozen? ⟨d,0,none⟩=false:=by simp[World.frozen?,t1]
 have e0:w3.setCell ⟨d,0,none⟩ (.int .i64 a)=w3.setRow d #[.int .i64 a,x1]:=setCell_eq_setRow w3 _ 0 _ _ _ _ t1;have r0:=setRow_heap w3 d _ #[.int .i64 a,x1] _ _ t1;have p1:(w3.setRow d #[.int .i64 a,x1]).cell? ⟨d,1,none⟩=some x1:=by simp[World.cell?,r0]
 have q1:(w3.setRow d #[.int .i64 a,x1]).frozen? ⟨d,1,none⟩=false:=by simp[World.frozen?,r0]
 have e1:(w3.setRow d #[.int .i64 a,x1]).setCell ⟨d,1,none⟩ (.int .i64 b)=(w3.setRow d #[.int .i64 a,x1]).setRow d #[.int .i64 a,.int .i64 b]:=setCell_eq_setRow _ _ 1 _ _ _ _ r0;simp only[p0,q0,e0,Bool.false_eq_true,if_false,Result.andThen_ok,p1,q1,e1,setRow_setRow,Oper.upon];refine hK.out _ _ ⟨f2,C2⟩ λ_=>?_;clear hK K s1 t1 u1 f1 C1 c2;generalize w3.setRow d #[.int .i64 a,.int .i64 b]=w4 at s2 t2 u2 f2 C2 ⊢;refine qA (i:=4) (by kernel_rfl) rfl (λK hK=>?_)
 go_simp
 obtain⟨z0,hz0⟩:∃z0,zo=#[z0]:=Array.size_eq_one_iff.1 KK.out.2.2;subst hz0;have c3:=Ht w4 o #[.bool false];have s3:=setRow_heap w4 o _ #[.bool false] _ _ u2;have e3:w4.setCell ⟨o,0,none⟩ (.bool false)=w4.setRow o #[.bool false]:=setCell_eq_setRow w4 _ 0 _ _ _ _ u2;have t3:(w4.setRow o #[.bool false]).heap[n]?=some (.cells ZM 29 (0,0)):=(c3.block n (Nat.lt_of_lt_of_le ln C2.size) hno).trans t2;have u3:(w4.setRow o #[.bool false]).heap[d]?=some (.cells #[.int .i64 a,.int .i64 b] 45 (0,0)):=(c3.block d (Nat.lt_of_lt_of_le ld C2.size) hdo).trans s2;have f3:(w4.setRow o #[.bool false]).heap[w.heap.size]?=some (.cells #[.int .i64 a,.int .i64 b] 45 (0,0)):=(c3.block _ (Array.getElem?_eq_some_iff.1 f2).1 (by omega)).trans f2;have C3:Q9 w (w4.setRow o #[.bool false]) (λk=>k=n\/k=d\/k=o):=⟨c3.os.trans C2.os,c3.tape.trans C2.tape,c3.output.trans C2.output,Nat.le_trans C2.size c3.size,λk hk hq=>(c3.block k (Nat.lt_of_lt_of_le hk C2.size) (λe=>hq (.inr (.inr e)))).trans (C2.block k hk hq)⟩;have k0:w4.cell? ⟨o,0,none⟩=some z0:=by simp[World.cell?,u2]
 have k1:w4.frozen? ⟨o,0,none⟩=false:=by simp[World.frozen?,u2]
 simp only[k0,k1,e3,Bool.false_eq_true,if_false,Result.andThen_ok,Oper.upon];refine hK.out _ _ ⟨f3,C3⟩ λ_=>?_;refine wpAnyH_done (by kernel_rfl) ?_ _;have hC:aaK n d o a b w (w4.setRow o #[.bool false]):=⟨t3,u3,s3,C3⟩;clear t3 u3 s3 f3 C3 c3 e3 k0 k1 s2 t2 u2 f2 C2 hK KK;generalize w4.setRow o #[.bool false]=w5 at hC ⊢;cases c₀;simp_all [bodyPostS,results,Tryz.results68];rfl
def IQ(w:World):World:=((w.alloc (.cells ZM 29)).alloc (.cells #[.int .i64 0,.int .i64 0] 45)).alloc (.cells #[.bool false] 4)
def ajC(w:World):(IQ w).heap[w.heap.size]?=some (.cells ZM 29 (0,0)):=by
 unfold IQ;rw[heap_alloc_old _ _ (by simp;omega),heap_alloc_old _ _ (by simp),heap_alloc_new]
def ajD(w:World):(IQ w).heap[w.heap.size+1]?=some (.cells #[.int .i64 0,.int .i64 0] 45 (0,0)):=by
 unfold IQ;rw[heap_alloc_old _ _ (by simp),heap_alloc2_new]
def ajE(w:World):(IQ w).heap[w.heap.size+1+1]?=some (.cells #[.bool false] 4 (0,0)):=by
 unfold IQ;have:=heap_alloc_new ((w.alloc (.cells ZM 29)).alloc (.cells #[.int .i64 0,.int .i64 0] 45)) (.cells #[.bool false] 4);rwa[World.size_alloc,World.size_alloc] at this
set_option maxRecDepth 20000 in
set_option maxHeartbeats 4000000 in
def ajF(g:Nat)(hg:LZ Tryz.prog g=true)(fs cs:Array Value)(w:World)(R:Array Value->World->Prop)
   (hR:∀xs w',R xs w'->(xs.size=11/\xs.all (·.oneCell')=true)/\w'.heap[w.heap.size]?=(IQ w).heap[w.heap.size]?/\w'.heap[w.heap.size+1]?=(IQ w).heap[w.heap.size+1]?/\w'.heap[w.heap.size+1+1]?=(IQ w).heap[w.heap.size+1+1]?)
   (hC:Calls Tryz.prog g (fs++cs) (IQ w) λe w'=>∃xs,e=.returned (.agg xs)/\R xs w') :
   Calls Tryz.prog 35 #[.func (.func g) fs cs] w λe w2=>∃xs w',R xs w'/\e=.returned (.tuple #[.agg xs,.agg #[.int .i64 0,.int .i64 0],.bool true])/\Q9 w' w2 (Zx w (IQ w)):=by
 have hmf:∀(fn:Fn) (first cap:Array Value) (w:World),(Instr.makeFunc fn first cap).run Tryz.prog w=.ok (.func fn first cap) w:=λ_ _ _ _=>rfl
 have hen:=λargs w=>Rt (w:=w) hg args;have HC:=Lib.hid hC;have HR:=Lib.hid hR;clear hC hR
 go_enter_defers Tryz.func35,Tryz.ntmps35
 go_wp2_with fail
 refine HC.out.mono ?_;clear HC;rintro e w1 ⟨xs,rfl,hr⟩;obtain⟨⟨hx,hone⟩,k0,k1,k2⟩:=HR.out xs w1 hr;clear HR;have HB:=Lib.hid hr;clear hr
 have e0:w1.heap[w.heap.size]?=some (.cells #[.int .i64 0,.string ⟨#[]⟩,.string ⟨#[]⟩,.int .i64 0,.int .i64 0,.int .i64 0,.int .i64 0,.int .i64 0,.slice none 0 0,.slice none 0 0,.int .i64 0] 29 (0,0)):=by
   rw[k0];exact ajC w
 have e1:w1.heap[w.heap.size+1]?=some (.cells #[.int .i64 0,.int .i64 0] 45 (0,0)):=by
   rw[k1];exact ajD w
 have e2:w1.heap[w.heap.size+1+1]?=some (.cells #[.bool false] 4 (0,0)):=by
   rw[k2];exact ajE w
 have hl2:w.heap.size+1+1 < w1.heap.size:=(Array.getElem?_eq_some_iff.1 e2).1;obtain⟨wa,hwa⟩:∃wa,wa=w1.setRow w.heap.size xs:=⟨_,rfl⟩;have ca:=Ht w1 w.heap.size xs;rw[<- hwa] at ca
 have f1:wa.heap[w.heap.size+1]?=some (.cells #[.int .i64 0,.int .i64 0] 45 (0,0)):=by
   rw[ca.block _ (by omega) (by omega)];exact e1
 have f2:wa.heap[w.heap.size+1+1]?=some (.cells #[.bool false] 4 (0,0)):=by
   rw[ca.block _ (by omega) (by omega)];exact e2
 have f0:wa.heap[w.heap.size]?=some (.cells xs 29 (0,0)):=by
   rw[hwa];exact setRow_heap w1 _ _ _ _ _ e0
 have s0:wa.setCell ⟨w.heap.size+1,0,none⟩ (.int .i64 0)=wa.setRow (w.heap.size+1) #[.int .i64 0,.int .i64 0]:=setCell_eq_setRow wa _ 0 _ _ _ _ f1;obtain⟨wd,hwd⟩:∃wd,wd=wa.setCell ⟨w.heap.size+1,0,none⟩ (.int .i64 0):=⟨_,rfl⟩;have cd:=Ht wa (w.heap.size+1) #[.int .i64 0,.int .i64 0]
 have fd1:wd.heap[w.heap.size+1]?=some (.cells #[.int .i64 0,.int .i64 0] 45 (0,0)):=by
   rw[hwd,s0];exact setRow_heap wa _ _ _ _ _ f1
 have s1:wd.setCell ⟨w.heap.size+1,1,none⟩ (.int .i64 0)=wd.setRow (w.heap.size+1) #[.int .i64 0,.int .i64 0]:=setCell_eq_setRow wd _ 1 _ _ _ _ fd1;rw[<- s0,<- hwd] at cd;obtain⟨wb,hwb⟩:∃wb,wb=wd.setCell ⟨w.heap.size+1,1,none⟩ (.int .i64 0):=⟨_,rfl⟩;have cb:=Ht wd (w.heap.size+1) #[.int .i64 0,.int .i64 0];rw[<- s1,<- hwb] at cb;have hld:w.heap.size+1 < wd.heap.size:=(Array.getElem?_eq_some_iff.1 fd1).1;have d0:wa.cell? ⟨w.heap.size+1,0,none⟩=some (.int .i64 0):=by simp[World.cell?,f1]
 have d1:(wa.setCell ⟨w.heap.size+1,0,none⟩ (.int .i64 0)).cell? ⟨w.heap.size+1,1,none⟩=some (.int .i64 0):=by rw[<- hwd];simp[World.cell?,fd1]
 have z0:wa.frozen? ⟨w.heap.size+1,0,none⟩=false:=by simp[World.frozen?,f1]
 have z1:(wa.setCell ⟨w.heap.size+1,0,none⟩ (.int .i64 0)).frozen? ⟨w.heap.size+1,1,none⟩=false:=by rw[<- hwd];simp[World.frozen?,fd1]
 have hla:w.heap.size+1+1 < wa.heap.size:=(Array.getElem?_eq_some_iff.1 f2).1
 have g0:wb.heap[w.heap.size]?=some (.cells xs 29 (0,0)):=by
   rw[cb.block _ (by omega) (by omega),cd.block _ (by omega) (by omega)];exact f0
 have g1:wb.heap[w.heap.size+1]?=some (.cells #[.int .i64 0,.int .i64 0] 45 (0,0)):=by
   rw[hwb,s1];exact setRow_heap wd _ _ _ _ _ fd1
 have g2:wb.heap[w.heap.size+1+1]?=some (.cells #[.bool false] 4 (0,0)):=by
   rw[cb.block _ (by have:=cd.size;omega) (by omega),cd.block _ (by omega) (by omega)];exact f2
 have c2:((wa.setCell ⟨w.heap.size+1,0,none⟩ (.int .i64 0)).setCell ⟨w.heap.size+1,1,none⟩ (.int .i64 0)).cell? ⟨w.heap.size+1+1,0,none⟩=some (.bool false):=by rw[<- hwd,<- hwb];simp[World.cell?,g2]
 have z2:((wa.setCell ⟨w.heap.size+1,0,none⟩ (.int .i64 0)).setCell ⟨w.heap.size+1,1,none⟩ (.int .i64 0)).frozen? ⟨w.heap.size+1+1,0,none⟩=false:=by rw[<- hwd,<- hwb];simp[World.frozen?,g2]
 have hsz:(Tryz.prog.info? 29).map (·.size)=some xs.size:=by rw[hx];kernel_rfl
 have E0:=Lib.hid e0;have HS:=Lib.hid hsz;have HX:=Lib.hid hx;have HO:=Lib.hid hone;have HWA:=Lib.hid hwa;have HWB:=Lib.hid hwb;have HWD:=Lib.hid hwd;have CD:=Lib.hid cd;have G0:=Lib.hid g0;have G1:=Lib.hid g1;have G2:=Lib.hid g2;have CA:=Lib.hid ca;have CB:=Lib.hid cb;have HL:=Lib.hid (And.intro hl2 hla);clear e0 e1 e2 f0 f1 f2 g0 g1 g2 hsz hx hone hwa hwb hwd s0 s1 fd1 hld ca cb cd k0 k1 k2 hl2 hla
 go_wp2_with (refine wpList_store_row rfl 29 _ _ rfl w.heap.size xs rfl rfl 29 _ E0.out HS.out (by rw[HX.out];rfl) HO.out ?_;rw[<- HWA.out])
 rw[<- HWD.out,<- HWB.out];have s2:wb.setCell ⟨w.heap.size+1+1,0,none⟩ (.bool true)=wb.setRow (w.heap.size+1+1) #[.bool true]:=setCell_eq_setRow wb _ 0 _ _ _ _ G2.out;have cc:=Ht wb (w.heap.size+1+1) #[.bool true];have h2:=setRow_heap wb (w.heap.size+1+1) _ #[.bool true] _ _ G2.out;rw[s2];generalize wb.setRow (w.heap.size+1+1) #[.bool true]=wc at cc h2;have hl:=HL.out;have hlb:=CB.out.size;have hld:=CD.out.size;have h0:wc.heap[w.heap.size]?=some (.cells xs 29 (0,0)):=by rw[cc.block _ (by omega) (by omega)];exact G0.out
 have h1:wc.heap[w.heap.size+1]?=some (.cells #[.int .i64 0,.int .i64 0] 45 (0,0)):=by rw[cc.block _ (by omega) (by omega)];exact G1.out
 refine leaves_cons (f:=68) (args:=#[.pointer (some ⟨w.heap.size,0,none⟩),.pointer (some ⟨w.heap.size+1,0,none⟩),.pointer (some ⟨w.heap.size+1+1,0,none⟩)]) (by simp) (by simp[go_sem]) ?_;refine(nH _ _ _ _).mono ?_;rintro e u' w2 ⟨rfl,rfl,rfl⟩;show Leaves _ _ _ _ [] .returning _;have l0:=run_loadVar_row (P:=Tryz.prog) w2 w.heap.size _ 29 xs _ _ h0 Tryz.underlying29 rfl HS.out;have l1:=run_loadVar_row (P:=Tryz.prog) w2 (w.heap.size+1) _ 45 #[.int .i64 0,.int .i64 0] _ _ h1 Tryz.underlying45 rfl (by kernel_rfl);have l2:w2.cell? ⟨w.heap.size+1+1,0,none⟩=some (.bool true):=by simp[World.cell?,h2]
 refine⟨.tuple #[.agg xs,.agg #[.int .i64 0,.int .i64 0],.bool true],?_,xs,w1,HB.out,rfl,?_⟩
 · have l3:(loadVar 4 ⟨w.heap.size+1+1,0,none⟩).run Tryz.prog w2=.ok (.bool true) w2:=by simp[go_sem,l2]
   rw[TN,Tryz.results35];simp[yL,asAddr,Sem.run_bind,l0,l1,l3]
 · have hk:∀k,w1.heap.size > k->¬Zx w (IQ w) k->k≠w.heap.size/\k≠w.heap.size+1/\k≠w.heap.size+1+1:=by
     intro k _ hn;have hs:(IQ w).heap.size=w.heap.size+1+1+1:=by unfold IQ;simp
     refine⟨λe=>hn ?_,λe=>hn ?_,λe=>hn ?_⟩<;>subst e<;>refine⟨?_,?_⟩<;>omega
   have ca:=CA.out;have cd:=CD.out;have cb:=CB.out;refine⟨cc.os.trans (cb.os.trans (cd.os.trans ca.os)),cc.tape.trans (cb.tape.trans (cd.tape.trans ca.tape)),cc.output.trans (cb.output.trans (cd.output.trans ca.output)),Nat.le_trans ca.size (Nat.le_trans hld (Nat.le_trans hlb cc.size)),λk hk1 hk2=>?_⟩;obtain⟨n0,n1,n2⟩:=hk k hk1 hk2;rw[cc.block k (by have:=ca.size;omega) n2,cb.block k (by have:=ca.size;omega) n1,cd.block k (by have:=ca.size;omega) n1,ca.block k hk1 n0]
set_option maxRecDepth 20000 in
set_option maxHeartbeats 4000000 in
def arM(g:Nat)(hg:LZ Tryz.prog g=true)(fs cs:Array Value)(w:World)(R:Int->Int->World->Prop)
   (hR:∀a b w',R a b w'->w'.heap[w.heap.size]?=(IQ w).heap[w.heap.size]?/\w'.heap[w.heap.size+1]?=(IQ w).heap[w.heap.size+1]?/\w'.heap[w.heap.size+1+1]?=(IQ w).heap[w.heap.size+1+1]?)
   (hC:Calls Tryz.prog g (fs++cs) (IQ w) λe w'=>∃a b,e=.panicked [{ v:=.iface 45 (.agg #[.int .i64 a,.int .i64 b]),recovered:=false }]/\R a b w') :
   Calls Tryz.prog 35 #[.func (.func g) fs cs] w λe w2=>∃a b w',R a b w'/\e=.returned (.tuple #[.agg ZM,.agg #[.int .i64 a,.int .i64 b],.bool false])/\Q9 w' w2 (Zx w (IQ w)):=by
 have hmf:∀(fn:Fn) (first cap:Array Value) (w:World),(Instr.makeFunc fn first cap).run Tryz.prog w=.ok (.func fn first cap) w:=λ_ _ _ _=>rfl
 have hen:=λargs w=>Rt (w:=w) hg args;have HC:=Lib.hid hC;have HR:=Lib.hid hR;clear hC hR
 go_enter_defers Tryz.func35,Tryz.ntmps35
 go_wp2_with fail
 refine HC.out.mono ?_;clear HC;rintro e w1 ⟨a,b,rfl,hr⟩;obtain⟨k0,k1,k2⟩:=HR.out a b w1 hr;clear HR;have e0:w1.heap[w.heap.size]?=some (.cells ZM 29 (0,0)):=by rw[k0];exact ajC w
 have e1:w1.heap[w.heap.size+1]?=some (.cells #[.int .i64 0,.int .i64 0] 45 (0,0)):=by rw[k1];exact ajD w
 have e2:w1.heap[w.heap.size+1+1]?=some (.cells #[.bool false] 4 (0,0)):=by rw[k2];exact ajE w
 refine leaves_cons (f:=68) (args:=#[.pointer (some ⟨w.heap.size,0,none⟩),.pointer (some ⟨w.heap.size+1,0,none⟩),.pointer (some ⟨w.heap.size+1+1,0,none⟩)]) (by simp) (by simp[go_sem]) ?_;refine(nG w.heap.size (w.heap.size+1) (w.heap.size+1+1) a b [] w1 _ _ _ (by omega) (by omega) (by omega) e0 e1 e2 rfl rfl rfl).mono ?_;rintro e u' w2 ⟨rfl,rfl,h0,h1,h2,hc⟩;show Leaves _ _ _ _ [] .returning _;have l0:=run_loadVar_row (P:=Tryz.prog) w2 w.heap.size _ 29 ZM _ _ h0 Tryz.underlying29 rfl (by kernel_rfl);have l1:=run_loadVar_row (P:=Tryz.prog) w2 (w.heap.size+1) _ 45 #[.int .i64 a,.int .i64 b] _ _ h1 Tryz.underlying45 rfl (by kernel_rfl);have l2:w2.cell? ⟨w.heap.size+1+1,0,none⟩=some (.bool false):=by simp[World.cell?,h2]
 refine⟨.tuple #[.agg ZM,.agg #[.int .i64 a,.int .i64 b],.bool false],?_,a,b,w1,hr,rfl,?_⟩
 · have l3:(loadVar 4 ⟨w.heap.size+1+1,0,none⟩).run Tryz.prog w2=.ok (.bool false) w2:=by simp[go_sem,l2]
   rw[TN,Tryz.results35];simp[yL,asAddr,Sem.run_bind,l0,l1,l3]
 · refine⟨hc.os,hc.tape,hc.output,hc.size,λk hk1 hk2=>hc.block k hk1 (λe=>hk2 ?_)⟩
   have hs:(IQ w).heap.size=w.heap.size+1+1+1:=by unfold IQ;simp
   rcases e with rfl | rfl | rfl<;>refine⟨?_,?_⟩<;>omega
def aFL:CR->Option CR
 | .ret (.agg cs)=>(match Nat.beq cs.length 11 with
   | true=>(match cs.all one with
     | true=>some (.ret (.Dd [.agg cs,.agg [.sc (.int .i64 0),.sc (.int .i64 0)],.sc (.bool true)]))
     | false=>none)
   | false=>none)
 | .pan (.ifc t (.agg [.sc (.int .i64 a),.sc (.int .i64 b)]))=>(match Nat.beq t 45 with
   | true=>some (.ret (.Dd [.agg [.sc (.int .i64 0),.sc (.string ByteArray.empty),.sc (.string ByteArray.empty),.sc (.int .i64 0),.sc (.int .i64 0),.sc (.int .i64 0),.sc (.int .i64 0),.sc (.int .i64 0),.sl .lost 0 [],.sl .lost 0 [],.sc (.int .i64 0)],.agg [.sc (.int .i64 a),.sc (.int .i64 b)],.sc (.bool false)]))
   | false=>none)
 | _=>none
def Sn{G:A8}{g:FuncId}(hg:LZ Tryz.prog g=true){first caps:List AV}{s s':AS}{r r':CR}(h:Sound Tryz.prog G (.call g (first++[]++caps) s r s'))(hk:aFL r=some r'):Sound Tryz.prog G (.call 35 [.fn (.func g) first caps] s r' s'):=by
 unfold aFL at hk;split at hk
 · rename_i cs
   split at hk
   · rename_i hn
     split at hk
     · rename_i ho
       cases hk;intro cx w vs hs ha;cases ha with
       | cons h1 t =>
       cases t;cases h1 with
       | fn hf hc =>
       rename_i us vs
       have k:Q9 w (IQ w) (λ_=>False):=by
         have k1:=Nh w (.cells #[.int .i64 0,.string ⟨#[]⟩,.string ⟨#[]⟩,.int .i64 0,.int .i64 0,.int .i64 0,.int .i64 0,.int .i64 0,.slice none 0 0,.slice none 0 0,.int .i64 0] 29);exact⟨rfl,rfl,rfl,by unfold IQ;simp;omega,λq hq _=>by unfold IQ;rw[heap_alloc_old _ _ (by simp;omega),heap_alloc_old _ _ (by simp;omega),heap_alloc_old _ _ hq]⟩
       have hsv:=vP hs k;have hm:=UX (cx:=cx) k;have hC:=h (cx.ZH w (IQ w)) (IQ w) (us++vs) hsv (by simpa using (hf.Dt hm).append (hc.Dt hm))
       have e1:(us++vs).toArray=us.toArray++vs.toArray:=by simp
       rw[e1] at hC;refine(ajF g hg us.toArray vs.toArray w (λxs w'=>∃c',Ext (cx.ZH w (IQ w)) (IQ w) c' w'/\St G c' w' s'/\CH c' w' cs xs.toList) ?_ (hC.mono ?_)).mono ?_
       · rintro xs w' ⟨c',hx,_,hr⟩
         have hl:=hr.len;have hsz:(IQ w).heap.size=w.heap.size+1+1+1:=by unfold IQ;simp
         refine⟨⟨by have:=Nat.eq_of_beq_eq_true hn;rw[<- Array.length_toList];omega,?_⟩,Nb hs hx ⟨by omega,by omega⟩,Nb hs hx ⟨by omega,by omega⟩,Nb hs hx ⟨by omega,by omega⟩⟩;rw[Array.all_eq_true_iff_forall_mem];intro v hv;exact Xa hr ho v (by simpa using hv)
       · rintro e w' ⟨c',hx,hs',u,rfl,hu⟩
         cases hu with
         | agg hr=>exact⟨_,rfl,c',hx,hs',by simpa using hr⟩
       · rintro e w2 ⟨xs,w',⟨c',hx,hs',hr⟩,rfl,k2⟩
         have m2:=TQ hx k2;refine⟨c'.VN cx,Y0 hs k hx k2,aW hs hx hs' k2,_,rfl,?_⟩;have hr2:=hr.Dt m2
         have ha:Rp (c'.VN cx) w2 (.agg cs) (.agg xs):=by
           have:=Rp.agg hr2;simpa using this
         exact .Dd (vs:=[.agg xs,.agg #[.int .i64 0,.int .i64 0],.bool true]) (.cons ha (.cons (.agg (vs:=[.int .i64 0,.int .i64 0]) (.cons (.sc rfl) (.cons (.sc rfl) .nil))) (.cons (.sc rfl) .nil)))
     · cases hk
   · cases hk
 · rename_i ty a b
   split at hk
   · rename_i hty
     have hty:=Nat.eq_of_beq_eq_true hty;subst hty;cases hk;intro cx w vs hs ha;cases ha with
     | cons h1 t =>
     cases t;cases h1 with
     | fn hf hc =>
     rename_i us vs;have k:Q9 w (IQ w) (λ_=>False):=⟨rfl,rfl,rfl,by unfold IQ;simp;omega,λq hq _=>by unfold IQ;rw[heap_alloc_old _ _ (by simp;omega),heap_alloc_old _ _ (by simp;omega),heap_alloc_old _ _ hq]⟩;have hsv:=vP hs k;have hm:=UX (cx:=cx) k;have hC:=h (cx.ZH w (IQ w)) (IQ w) (us++vs) hsv (by simpa using (hf.Dt hm).append (hc.Dt hm))
     have e1:(us++vs).toArray=us.toArray++vs.toArray:=by simp
     rw[e1] at hC;refine(arM g hg us.toArray vs.toArray w (λa' b' w'=>a'=a/\b'=b/\∃c',Ext (cx.ZH w (IQ w)) (IQ w) c' w'/\St G c' w' s') ?_ (hC.mono ?_)).mono ?_
     · rintro a' b' w' ⟨_,_,c',hx,_⟩
       have hsz:(IQ w).heap.size=w.heap.size+1+1+1:=by unfold IQ;simp
       exact⟨Nb hs hx ⟨by omega,by omega⟩,Nb hs hx ⟨by omega,by omega⟩,Nb hs hx ⟨by omega,by omega⟩⟩
     · rintro e w' ⟨c',hx,hs',u,rfl,hu⟩
       cases hu with
       | ifc hu =>
         cases hu with
         | agg hr =>
           cases hr with
           | cons r1 hr =>
             cases hr with
             | cons r2 hr =>
               cases hr;cases r1;cases r2;exact⟨a,b,rfl,rfl,rfl,c',hx,hs'⟩
     · rintro e w2 ⟨a',b',w',⟨rfl,rfl,c',hx,hs'⟩,rfl,k2⟩
       refine⟨c'.VN cx,Y0 hs k hx k2,aW hs hx hs' k2,_,rfl,?_⟩;refine .Dd (vs:=[.agg ZM,.agg #[.int .i64 a',.int .i64 b'],.bool false]) (.cons ?_ (.cons (.agg (vs:=[.int .i64 a',.int .i64 b']) (.cons (.sc rfl) (.cons (.sc rfl) .nil))) (.cons (.sc rfl) .nil)));exact .agg (vs:=ZM.toList) (.cons (.sc rfl) (.cons (.sc rfl) (.cons (.sc rfl) (.cons (.sc rfl) (.cons (.sc rfl) (.cons (.sc rfl) (.cons (.sc rfl) (.cons (.sc rfl) (.cons (.sl0 trivial) (.cons (.sl0 trivial) (.cons (.sc rfl) .nil)))))))))))
   · cases hk
 · cases hk
end Go.Proofs.YtpbkhogolfegfaaGreatDoor
namespace AI
open Go Go.RowKit
section
variable {P:Program} {G:A8}
variable {α γ δ ρ β:Type} {id:Nat} {QL:List KI} {done:γ->δ} {X:Prop} {k:δ->Option β} {kr:ρ->Option β} {r:β}
def alI{J:Type}{L:Code}{Q:AX->List AV->AS->Prop}{body:Nat->γ->Option (Lp γ δ ρ)}{done:γ->δ}(n k0:Nat)(hk0:k0<=n)(F:Nat->γ->J->List AV)(S:Nat->γ->J->AS)(Ok:J->Prop)(Qx:δ->Prop)(Qr:ρ->Prop)
   (hz:∀x j,Ok j->Qx (done x)->WL P G (XS P G) H0 L (F n x j) (S n x j) Q)
   (hs:∀i x j r,Ok j->i < n->body i x=some r->RQ (λx'=>∀j',Ok j'->WL P G (XS P G) H0 L (F (i+1) x' j') (S (i+1) x' j') Q) Qx Qr r->WL P G (XS P G) H0 L (F i x j) (S i x j) Q) :
   ∀{x:γ} {res:δ⊕ρ},cB body done (n - k0) k0 x=some res->LQ Qx Qr res->∀j,Ok j->WL P G (XS P G) H0 L (F k0 x j) (S k0 x j) Q:=by
 have key:∀(d i:Nat) (x:γ) (res:δ⊕ρ),i+d=n->cB body done d i x=some res->LQ Qx Qr res->∀j,Ok j->WL P G (XS P G) H0 L (F i x j) (S i x j) Q:=by
   intro d
   induction d with
   | zero =>
     intro i x res hl h hq j hj;simp only[cB,Option.some.injEq] at h;subst h;have:i=n:=by simpa using hl
     subst this;exact hz x j hj hq
   | succ d ih =>
     intro i x res hl h hq j hj;obtain⟨r,hb,h⟩:=Zl h;refine hs i x j r hj (by omega) hb ?_;cases r with
     | nx x'=>exact λj' hj'=>ih (i+1) x' res (by omega) h hq j' hj'
     | ex d=>simp only[Og,Option.some.injEq] at h;subst h;exact hq
     | rt v=>simp only[Og,Option.some.injEq] at h;subst h;exact hq
 intro x res h hq j hj;exact key (n - k0) k0 x res (by omega) h hq j hj
section
variable {L:Code} {Q:AX->List AV->AS->Prop}
def aBL(Rv:(AX->List AV->AS->Prop)->ρ->Prop){body:Nat->γ->Option (Lp γ δ ρ)}{n:Nat}{x:γ}{k0:Nat}(hk0:k0<=n)(F:Nat->γ->List Value->List AV)(S:γ->AS)(XF:δ->List Value->List AV)(SX:δ->AS)(j:List Value)
   (SE:WL P G (XS P G) H0 L (F k0 x j) (S x) (Di id (CY P G QL Q))->X)
   (hz:∀x j,n<=n->exR (Di id (CY P G QL Q)) id XF SX (done x)->W P G (XS P G) H0 L (F n x j) (S x) (RT P G L (S x) (Di id (CY P G QL Q))))
   (hs:∀i x j r,i < n->i < 9223372036854775807->RQ (λx'=>∀j',WL P G (XS P G) H0 L (F (i+1) x' j') (S x') (Di id (CY P G QL Q))) (exR (Di id (CY P G QL Q)) id XF SX) (Rv (Di id (CY P G QL Q))) r->body i x=some r->W P G (XS P G) H0 L (F i x j) (S x) (RT P G L (S x) (Di id (CY P G QL Q))))
   (hb:∀d j,k d=some r->CY P G QL Q .normal (XF d j) (SX d)) (hr:∀v,kr v=some r->Rv (Di id (CY P G QL Q)) v) :
   (Lk n (cB body done (n - k0) k0 x)).bind (N4 k kr)=some r->X:=λh=>by
 obtain⟨res,h1,h2⟩:=Zl h;obtain⟨hl,h1⟩:=aoA h1;refine SE (alI n k0 hk0 F (λ_ x _=>S x) (λ_=>True) (exR (Di id (CY P G QL Q)) id XF SX) (Rv (Di id (CY P G QL Q))) (λx j _ h4=>Vc (hz x j (Nat.le_refl n) h4)) (λi x j r _ h4 h5 h6=>Vc (hs i x j r h4 (by omega) (by cases r with | nx _=>exact λj'=>h6 j' trivial | ex _=>exact h6 | rt _=>exact h6) h5)) h1 ?_ j trivial)
 cases res with
 | inl d =>
   intro j;show CY P G QL Q (D8 id (.exit id)) _ _;rw[show D8 id (.exit id)=.normal from by simp[D8]];exact hb d j h2
 | inr v=>exact hr v h2
end
def le1{n:Nat}(h:E3 0 ((n:Nat):Int)=true):1<=n:=by
 unfold E3 at h;simp at h;omega
end
end AI
namespace LexS
def P5(n:Nat):Nat :=
 if n=32\/n=9\/n=10\/n=13 then 1
 else if 97<=n/\n<=122 then 2
 else if 65<=n/\n<=90 then 4
 else if 48<=n/\n<=57 then 8
 else if n=95 then 16
 else 0
def cin(m:Nat)(c:UInt8):Bool:=(P5 c.toNat &&& m) != 0
def BE(m:Nat)(t:List UInt8):Nat:=(t.takeWhile (cin m)).length
def I1(m:Nat)(t:List UInt8):Bool:=match t with
 | []=>false
 | c::_=>cin m c
def JP(b:Bool):List UInt8->Nat
 | []=>0
 | c::t =>
   if b then (if c=10 then 1+JP false t else 1+JP true t)
   else if cin 1 c then 1+JP false t
   else if c=47/\t.head?=some 47 then 1+JP true t
   else 0
def Fk(t:List UInt8):Nat:=JP false t
def Ju(t:List UInt8)(i:Nat):Bool :=
 if i=4\/i=7 then t[i]? == some 45 else I1 8 (t.drop i)
def GI(t:List UInt8):Bool:=decide (10<=t.length)&&(List.range 10).all (Ju t)
def free(t:List UInt8):Bool:=!(I1 30 t||t.head? == some 46)
def IU(t:List UInt8):Nat×Nat :=
 let d:=BE 8 t
 if GI t then (if free (t.drop 10) then (5,10) else (0,0))
 else if t.head?=some 48/\1 < d then (0,0)
 else if (t.drop d).head?=some 46 then
   (if 10 < d\/I1 8 (t.drop (d+1))=false\/I1 8 (t.drop (d+2))=false then (0,0)
    else if free (t.drop (d+3)) then (4,d+3) else (0,0))
 else if 12 < d then (0,0)
 else if free (t.drop d) then (3,d) else (0,0)
def Gq:List (List UInt8):=[[61,61],[33,61],[60,61],[62,61],[60],[62],[43],[45],[42],[47],[40],[41],[123],[125],[58],[59],[44]]
def Mh(t:List UInt8):List (List UInt8)->Nat×Nat
 | []=>(0,0)
 | y::ys=>if y.isPrefixOf t then (6,y.length) else Mh t ys
def BI(t:List UInt8):Nat×Nat :=
 if I1 2 t then (if BE 30 t<=16/\BE 26 t=BE 30 t then (1,BE 30 t) else (0,0))
 else if I1 4 t then (if BE 30 t=3/\BE 4 t=BE 30 t then (2,BE 30 t) else (0,0))
 else if I1 8 t then IU t
 else Mh t Gq
abbrev Tok:=Nat×List UInt8×Nat
def LF:Nat->Nat->List UInt8->List Tok
 | 0,_,_=>[]
 | n+1,o,t =>
   if t=[] then []
   else if (BI t).1=0 then [(0,[],o)]
   else ((BI t).1,t.take (BI t).2,o) ::
     LF n (o+(BI t).2+Fk (t.drop (BI t).2)) ((t.drop (BI t).2).drop (Fk (t.drop (BI t).2)))
def Em(s:List UInt8):List Tok:=LF s.length (Fk s) (s.drop (Fk s))
end LexS
namespace LexS
def yX(m:Nat):BE m []=0:=rfl
def IP(m:Nat)(c:UInt8)(t:List UInt8):BE m (c::t)=if cin m c then 1+BE m t else 0:=by
 unfold BE;rw[List.takeWhile_cons];by_cases h:cin m c=true;simp[h];omega;simp[h]
def yY(m:Nat)(t:List UInt8):I1 m (t.drop (BE m t))=false:=by
 induction t with
 | nil=>rfl
 | cons c t ih =>
   rw[IP];by_cases h:cin m c=true;rw[if_pos h,Nat.add_comm,List.drop_succ_cons];exact ih;rw[if_neg h,List.drop_zero];simp[I1,h]
def Sh(m:Nat)(t:List UInt8):BE m t<=t.length:=by
 unfold BE;exact(List.takeWhile_prefix _).length_le
def wW(t:List UInt8):JP false t=BE 1 t+JP false (t.drop (BE 1 t)):=by
 induction t with
 | nil=>rfl
 | cons c t ih =>
   rw[IP];by_cases h:cin 1 c=true;rw[if_pos h,Nat.add_comm 1,List.drop_succ_cons,JP];simp only[h,Bool.false_eq_true,if_false,if_true];omega;rw[if_neg h];simp
def iE(t:List UInt8)(h:[47,47].isPrefixOf t=true):JP false t=JP true t:=by
 obtain⟨u,rfl⟩:∃u,t=47::47::u:=by
   obtain⟨u,hu⟩:=List.isPrefixOf_iff_prefix.1 h;exact⟨u,by simpa using hu.symm⟩
 rw[JP]
 conv=>rhs;rw[JP]
 simp[cin,P5]
def adB(t:List UInt8)(h1:I1 1 t=false)(h:[47,47].isPrefixOf t=false):JP false t=0:=by
 cases t with
 | nil=>rfl
 | cons c t =>
   rw[JP];have h1':cin 1 c=false:=h1;simp only[h1',Bool.false_eq_true,if_false];rw[if_neg];rintro⟨rfl,h2⟩;cases t with
   | nil=>simp at h2
   | cons d t=>simp at h2;subst h2;simp[List.isPrefixOf] at h
def adA(t:List UInt8):JP true (10::t)=JP false (10::t):=by
 rw[JP,JP];simp[cin,P5]
def awQ(c:UInt8)(t:List UInt8)(h:c≠10):JP true (c::t)=1+JP true t:=by
 rw[JP];simp[h]
def amV(b:Bool)(t:List UInt8):JP b t<=t.length:=by
 induction t generalizing b with
 | nil=>simp[JP]
 | cons c t ih =>
   rw[JP];have h1:=ih true;have h2:=ih false
   repeat' split
   all_goals simp only[List.length_cons];omega
def uR(t:List UInt8):Fk t<=t.length:=amV _ _
def Wx(b a:List UInt8):b.isPrefixOf a=(a.take b.length == b):=by
 rw[Bool.eq_iff_iff,List.isPrefixOf_iff_prefix,List.prefix_iff_eq_take,beq_iff_eq];exact eq_comm
end LexS
namespace LexS
def aiN(t:List UInt8)(ys:List (List UInt8))(h:(Mh t ys).1≠0)(hy:∀y∈ys,1<=y.length):1<=(Mh t ys).2/\(Mh t ys).2<=t.length:=by
 induction ys with
 | nil=>simp[Mh] at h
 | cons y ys ih =>
   rw[Mh] at h ⊢;by_cases hp:y.isPrefixOf t=true;rw[if_pos hp];exact⟨hy y (by simp),(List.isPrefixOf_iff_prefix.1 hp).length_le⟩;rw[if_neg hp] at h ⊢;exact ih h (λy' h'=>hy y' (by simp[h']))
def Uv(m:Nat)(t:List UInt8)(h:I1 m t=true):1<=BE m t:=by
 cases t with
 | nil=>simp[I1] at h
 | cons c t=>have h':cin m c=true:=h;rw[IP,if_pos h'];omega
def amB(c:UInt8)(m m':Nat)(h:cin m c=true)(hs:∀k,k=0\/k=1\/k=2\/k=4\/k=8\/k=16->(k &&& m)≠0->(k &&& m')≠0):cin m' c=true:=by
 unfold cin at h ⊢;rw[bne_iff_ne] at h ⊢;refine hs _ ?_ h;unfold P5
 repeat (split;simp)
 simp
def tA(t:List UInt8)(m m':Nat)(h:I1 m t=true)(hs:∀k,k=0\/k=1\/k=2\/k=4\/k=8\/k=16->(k &&& m)≠0->(k &&& m')≠0):I1 m' t=true:=by
 cases t with
 | nil=>simp[I1] at h
 | cons c t=>exact amB c m m' h hs
def anO(m:Nat)(t:List UInt8)(k:Nat)(h:I1 m (t.drop k)=true):k < t.length:=by
 rcases Nat.lt_or_ge k t.length with hk | hk
 exact hk;rw[List.drop_eq_nil_of_le hk] at h;simp[I1] at h
def hU(t:List UInt8)(h8:I1 8 t=true)(h:(IU t).1≠0):1<=(IU t).2/\(IU t).2<=t.length:=by
 have hd:=Uv 8 t h8;have hl:=Sh 8 t;unfold IU at h ⊢;simp only at h ⊢;by_cases h1:GI t=true;rw[if_pos h1] at h ⊢;by_cases h2:free (t.drop 10)=true;rw[if_pos h2];have:10<=t.length:=by unfold GI at h1;simp at h1;exact h1.1
 exact⟨by simp,this⟩;rw[if_neg h2] at h;simp at h;rw[if_neg h1] at h ⊢;by_cases h2:t.head?=some 48/\1 < BE 8 t;rw[if_pos h2] at h;simp at h;rw[if_neg h2] at h ⊢;by_cases h3:(t.drop (BE 8 t)).head?=some 46;rw[if_pos h3] at h ⊢;by_cases h4:10 < BE 8 t\/I1 8 (t.drop (BE 8 t+1))=false\/I1 8 (t.drop (BE 8 t+2))=false;rw[if_pos h4] at h;simp at h;rw[if_neg h4] at h ⊢;by_cases h5:free (t.drop (BE 8 t+3))=true;rw[if_pos h5]
 have h6:I1 8 (t.drop (BE 8 t+2))=true:=by
   cases hh:I1 8 (t.drop (BE 8 t+2)) with
   | true=>rfl
   | false=>exact absurd (.inr (.inr hh)) h4
 have:=anO 8 t _ h6;exact⟨by simp,by simp only;omega⟩;rw[if_neg h5] at h;simp at h;rw[if_neg h3] at h ⊢;by_cases h4:12 < BE 8 t;rw[if_pos h4] at h;simp at h;rw[if_neg h4] at h ⊢;by_cases h5:free (t.drop (BE 8 t))=true;rw[if_pos h5];exact⟨hd,hl⟩;rw[if_neg h5] at h;simp at h
def PJ(t:List UInt8)(h:(BI t).1≠0):1<=(BI t).2/\(BI t).2<=t.length:=by
 have hl:=Sh 30 t;unfold BI at h ⊢;by_cases h2:I1 2 t=true;have hd:=Uv 30 t (tA t 2 30 h2 (by intro k hk;rcases hk with rfl | rfl | rfl | rfl | rfl | rfl<;>decide))
 rw[if_pos h2] at h ⊢;by_cases hc:BE 30 t<=16/\BE 26 t=BE 30 t;rw[if_pos hc];exact⟨hd,hl⟩;rw[if_neg hc] at h;simp at h;rw[if_neg h2] at h ⊢;by_cases h4:I1 4 t=true;have hd:=Uv 30 t (tA t 4 30 h4 (by intro k hk;rcases hk with rfl | rfl | rfl | rfl | rfl | rfl<;>decide))
 rw[if_pos h4] at h ⊢;by_cases hc:BE 30 t=3/\BE 4 t=BE 30 t;rw[if_pos hc];exact⟨hd,hl⟩;rw[if_neg hc] at h;simp at h;rw[if_neg h4] at h ⊢;by_cases h8:I1 8 t=true;rw[if_pos h8] at h ⊢;exact hU t h8 h;rw[if_neg h8] at h ⊢;exact aiN t Gq h (by decide)
def Ie(s:List UInt8)(k:Nat):List Tok:=LF (s.length - k) k (s.drop k)
def Wp(n m o:Nat)(t:List UInt8)(hn:t.length<=n)(hm:t.length<=m):LF n o t=LF m o t:=by
 induction n generalizing m o t with
 | zero =>
   have:t=[]:=by cases t with | nil=>rfl | cons c t=>simp at hn
   subst this;cases m with
   | zero=>rfl
   | succ m=>simp[LF]
 | succ n ih =>
   cases m with
   | zero =>
     have:t=[]:=by cases t with | nil=>rfl | cons c t=>simp at hm
     subst this;simp[LF]
   | succ m =>
     rw[LF,LF];by_cases ht:t=[];rw[if_pos ht,if_pos ht];rw[if_neg ht,if_neg ht];by_cases hz:(BI t).1=0;rw[if_pos hz,if_pos hz];rw[if_neg hz,if_neg hz];have hp:=PJ t hz;refine congrArg _ (ih m _ _ ?_ ?_);simp only[List.length_drop];omega;simp only[List.length_drop];omega
def OI(s:List UInt8)(k:Nat)(h:s.length<=k):Ie s k=[]:=by
 unfold Ie;rw[show s.length - k=0 from by omega];rfl
def R0(s:List UInt8)(k:Nat)(h:k < s.length)(hz:(BI (s.drop k)).1=0):Ie s k=[(0,[],k)]:=by
 unfold Ie;obtain⟨n,hn⟩:∃n,s.length - k=n+1:=⟨s.length - k - 1,by omega⟩;rw[hn,LF,if_neg (by intro e;have:=congrArg List.length e;simp at this;omega),if_pos hz]
def OJ(s:List UInt8)(k:Nat)(h:k < s.length)(hz:(BI (s.drop k)).1≠0) :
   Ie s k=((BI (s.drop k)).1,(s.drop k).take (BI (s.drop k)).2,k)::Ie s (k+(BI (s.drop k)).2+Fk (s.drop (k+(BI (s.drop k)).2))):=by
 have hp:=PJ _ hz;rw[List.length_drop] at hp;unfold Ie;obtain⟨n,hn⟩:∃n,s.length - k=n+1:=⟨s.length - k - 1,by omega⟩;rw[hn,LF,if_neg (by intro e;have:=congrArg List.length e;simp at this;omega),if_neg hz];refine congrArg _ ?_;rw[List.drop_drop,List.drop_drop];refine Wp _ _ _ _ ?_ ?_;rw[List.length_drop];omega;rw[List.length_drop];omega
def Sw(s:List UInt8):Em s=Ie s (Fk s):=by
 unfold Em Ie;exact Wp _ _ _ _ (by rw[List.length_drop];omega) (by rw[List.length_drop];omega)
def KX:List Tok->List Tok->List Tok×Nat×Nat
 | acc,[]=>(acc,0,0)
 | acc,x::r=>if acc.length=2000 then ([],2,x.2.2) else if x.1=0 then ([],61,x.2.2) else KX (acc++[x]) r
def Ly(s:List UInt8):List Tok×Nat×Nat:=if 6000 < s.length then ([],2,0) else KX [] (Em s)
def ZN(l:List Tok):Prop:=l.length<=2000/\∀x∈l,x.1≠0
def RH(acc q r:List Tok)(h:ZN (acc++q)):KX acc (q++r)=KX (acc++q) r:=by
 induction q generalizing acc with
 | nil=>simp
 | cons x q ih =>
   rw[List.cons_append,KX];have h1:=h.1;rw[List.length_append,List.length_cons] at h1;rw[if_neg (by omega),if_neg (h.2 x (by simp))];have:=ih (acc++[x]) (by simpa using h)
   simpa using this
end LexS
