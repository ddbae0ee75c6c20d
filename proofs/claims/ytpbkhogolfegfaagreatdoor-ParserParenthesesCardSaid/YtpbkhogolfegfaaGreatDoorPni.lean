/- Part of a proof: see the last text. -/
import Derived.Test.YtpbkhogolfegfaaGreatDoorPnh
import Derived.Test.YtpbkhogolfegfaaGreatDoorProg
import Derived.KernelRfl
import Derived.WalkKit
import Derived.WalkLawsBesides
import Derived.WalkSpells
import Derived.Lib.Hide
import Derived.Laws.Rows
import Derived.Recover
import Derived.StillTailTactics
import Derived.Deep.RegionHeld3
set_option linter.unusedVariables false
set_option linter.unusedSimpArgs false
set_option linter.defProp false
noncomputable section
open Array renaming all_eq_true_iff_forall_mem->blT,getElem?_eq_some_iff->aOA,replicate->bkZ
open Bool renaming and_eq_true->bcA,and_eq_true_iff->bkY,false_eq_true->biT
open ByteArray renaming empty->V4
open Go.Act renaming eval->brE
open Go.Exit renaming thenS->boL
open Go.Instr renaming makeFunc->bsB
open Go.Lib renaming hid->bcI
open Go.Oper renaming upon->bsO
open Go.Region renaming ready->boA
open Go.Result renaming andThen_ok->biS
open Go.Sem renaming run_bind->biV
open Go.World renaming cell?->bkS,frozen?->bnP,size_alloc->bkU
open List renaming drop_drop->bjD,drop_succ_cons->bnL,isPrefixOf_iff_prefix->bkV,length->blU,length_cons->Yy,length_drop->biR,length_map->bjC,map_snd_zip->brM,mem_map->blE,setIfInBounds_toArray->bnD,set_cons_succ->bpH,set_cons_zero->bpG
open List.cons renaming sizeOf_spec->bnC
open Nat renaming add_comm->bmY,beq->bjO,eq_of_beq_eq_true->bkB,le_trans->bjH,lt_of_lt_of_le->bcC,lt_succ_self->bkM,not_lt_zero->bmN
open SizeOf renaming sizeOf->bpW
namespace Go.Proofs.YtpbkhogolfegfaaGreatDoor
open AI Go Go.RowKit
def aaO(x y z:Value)(w:World) :
   CallsD Tryz.prog 68 #[x,y,z] .returning w λe u' w'=>e=.returned (.tuple #[])/\u'=.returning/\w'=w:=by
 refine callsD_of_wpS Tryz.func68 rfl λc₀ cs hu=>?_;apply wpS_seq;apply wpS_region;simp[wpOpsS,go_sem,recoverD,hu,Tryz.ntmps68,boL];apply wpS_seq;apply wpS_region;simp[wpOpsS,go_sem,boL];refine wpS_cond (t:=false) (by simp[brE,bkZ]) ?_;simp only[biT,if_false];refine wpS_of_wp (wp_skip ?_);cases c₀;simp_all [bodyPostS,results,Tryz.results68]
def oE(a b:Int)(w:World):(Instr.typeAssert (.iface 45 (.agg #[.int .i64 a,.int .i64 b])) 20 45 true).run Tryz.prog w=.ok (.tuple #[.agg #[.int .i64 a,.int .i64 b],.bool true]) w:=by kernel_rfl
def lV:Array Value:=#[.int .i64 0,.string ⟨#[]⟩,.string ⟨#[]⟩,.int .i64 0,.int .i64 0,.int .i64 0,.int .i64 0,.int .i64 0,.slice none 0 0,.slice none 0 0,.int .i64 0]
def aKG{P:Program}{md:Region.Mode}{Q:Exit->Act->World->Prop}{S:World->Prop}{l:List Oper}{i:Nat}{oi:Oper}{v:Value}{fuel:Nat}{listed:Array Bool}{a:Act}{w:World}(hi:l[i]?=some oi)
   (hs:Region.noSelect l.toArray=true) (hf:Region.free md l.toArray listed i=true) (hr:(boA md l.toArray listed).contains i=true)
   (hQ:∀c a w,Q (.panic c) (a.put oi.dst v) w->Q (.panic c) a w) (hy:YieldsIf P l.toArray S oi v a) (hS:S w)
   (h:wpAnyH P md l.toArray Q S fuel (listed.setIfInBounds i true) (a.put oi.dst v) w):wpAnyH P md l.toArray Q S (fuel+1) listed a w :=
 wpAnyH_take (by simpa using hi) hs hf hr hQ hy hS h
def acV{P:Program}{md:Region.Mode}{Q:Exit->Act->World->Prop}{S:World->Prop}{l:List Oper}{i:Nat}{o:Oper}{fuel:Nat}{listed:Array Bool}{a:Act}{w:World}(hr:boA md l.toArray listed=[i])(ho:l[i]?=some o)
   (h:∀K':Act->World->Prop,Shut (∀a w,S w->(S w->wpAnyH P md l.toArray Q S fuel (listed.setIfInBounds i true) a w)->K' a w)->if Region.wanted o (yielded l.toArray a.tmps)=true then Oper.wp P o a w K' Q else K' (a.put o.dst undef) w) :
   wpAnyH P md l.toArray Q S (fuel+1) listed a w :=
 wpAnyH_ready hr (by simp) (AllReadyH.cons (by simpa using ho) h AllReadyH.nil)
def awM(P:Program)(w:World)(g:Nat)(t:TypeId)(old cells:Array Value)(hg:w.heap[g]?=some (.cells old t (0,0)))(ho:old.size=cells.size)(h1:cells.all (·.oneCell')=true):(storeCells ⟨g,0,none⟩ cells.toList).run P w=.ok () (w.setRow g cells):=by
 have:=run_storeCells_from (P:=P) g t cells.toList 0 old w hg (by simp;omega) (λv hv=>(blT.1 h1) v (by simpa using hv))
 simpa using this
def amT(n d o:Nat)(a b:Int)(w w':World):Prop :=
 w'.heap[n]?=some (.cells lV 29 (0,0))/\w'.heap[d]?=some (.cells #[.int .i64 a,.int .i64 b] 45 (0,0))/\w'.heap[o]?=some (.cells #[.bool false] 4 (0,0))/\Tv w w' (λk=>k=n\/k=d\/k=o)
set_option maxRecDepth 20000 in
set_option maxHeartbeats 4000000 in
def aaN(n d o:Nat)(a b:Int)(older:List PanicEntry)(w:World)(zn zd zo:Array Value)(hnd:n≠d)(hno:n≠o)(hdo:d≠o)
   (hn:w.heap[n]?=some (.cells zn 29 (0,0))) (hd:w.heap[d]?=some (.cells zd 45 (0,0))) (ho:w.heap[o]?=some (.cells zo 4 (0,0))) (kn:zn.size=11) (kd:zd.size=2) (ko:zo.size=1) :
   CallsD Tryz.prog 68 #[.pointer (some ⟨n,0,none⟩),.pointer (some ⟨d,0,none⟩),.pointer (some ⟨o,0,none⟩)] (.panicking ({ v:=.iface 45 (.agg #[.int .i64 a,.int .i64 b]),recovered:=false }::older)) w λe u' w' =>
     e=.returned (.tuple #[])/\u'=.panicking ({ v:=.iface 45 (.agg #[.int .i64 a,.int .i64 b]),recovered:=true }::older)/\amT n d o a b w w':=by
 have ln:n < w.heap.size:=(aOA.1 hn).1;have ld:d < w.heap.size:=(aOA.1 hd).1;have lo:o < w.heap.size:=(aOA.1 ho).1;have HN:=bcI hn;have HD:=bcI hd;have HO:=bcI ho;have KK:=bcI (And.intro kn (And.intro kd ko));clear hn hd ho kn kd ko;refine callsD_of_wpS Tryz.func68 rfl λc₀ cs hu=>?_;apply wpS_seq;apply wpS_region;simp[wpOpsS,go_sem,recoverD,hu,Tryz.ntmps68,boL];clear hu;have hta:=oE a b;apply wpS_seq;apply wpS_region;simp[wpOpsS,go_sem,boL];refine wpS_cond (t:=true) (by simp[brE,bkZ]) ?_;simp only[if_true];apply wpS_seq;apply wpS_region;simp[wpOpsS,go_sem,boL,oE];apply wpS_seq;apply wpS_seq;apply wpS_region;simp[wpOpsS,go_sem,boL];refine wpS_cond (t:=false) (by simp[brE,bkZ]) ?_;simp only[biT,if_false];refine wpS_of_wp (wp_skip ?_);simp only[boL];refine wpS_of_wp ?_;clear hta;have hf:=heap_alloc_new w (.cells #[.int .i64 a,.int .i64 b] 45);have HB:Tv w (w.alloc (.cells #[.int .i64 a,.int .i64 b] 45)) (λ_=>False):=O1 w _;generalize w.alloc (.cells #[.int .i64 a,.int .i64 b] 45)=w1 at hf HB ⊢;have hn1:w1.heap[n]?=some (.cells zn 29 (0,0)):=(HB.block n ln id).trans HN.out;have hd1:w1.heap[d]?=some (.cells zd 45 (0,0)):=(HB.block d ld id).trans HD.out;have ho1:w1.heap[o]?=some (.cells zo 4 (0,0)):=(HB.block o lo id).trans HO.out;clear HN HD HO;refine wp_region_held_drew (S:=λv=>v.heap[w.heap.size]?=some (.cells #[.int .i64 a,.int .i64 b] 45 (0,0))/\Tv w v (λk=>k=n\/k=d\/k=o)) (by kernel_rfl) ⟨hf,⟨HB.os,HB.tape,HB.output,HB.size,λk hk _=>HB.block k hk id⟩⟩ (λhHeld=>?_);have hw1:w1.drew.heap=w1.heap:=rfl;rw[<- hw1] at hn1 hd1 ho1;generalize w1.drew=w2 at hHeld hn1 hd1 ho1 ⊢;clear hw1 hf HB w1;refine aKG (i:=0) (v:=.agg lV) rfl (by kernel_rfl) (by kernel_rfl) (by kernel_rfl) (λ_ _ _ h=>h) (Or.inl ⟨by rfl,?_⟩) hHeld ?_
 · intro v hv;go_simp;rfl
 try simp only[Act.put,bnD,bpG,bpH]
 refine aKG (i:=1) (v:=.agg #[.int .i64 a,.int .i64 b]) rfl (by kernel_rfl) (by kernel_rfl) (by kernel_rfl) (λ_ _ _ h=>h) (Or.inl ⟨by rfl,?_⟩) hHeld ?_
 · intro v hv
   have g0:v.cell? ⟨w.heap.size,0,none⟩=some (.int .i64 a):=by simp[bkS,hv.1]
   have g1:v.cell? ⟨w.heap.size,1,none⟩=some (.int .i64 b):=by simp[bkS,hv.1]
   go_simp
 try simp only[Act.put,bnD,bpG,bpH]
 refine acV (i:=2) (by kernel_rfl) rfl (λK hK=>?_)
 go_simp
 have hne:w.heap.size≠n:=by omega
 have c1:=Hy w2 n lV;have s1:=setRow_heap w2 n _ lV _ _ hn1;have t1:(w2.setRow n lV).heap[d]?=some (.cells zd 45 (0,0)):=(c1.block d (bcC ld hHeld.2.size) (λe=>hnd e.symm)).trans hd1;have u1:(w2.setRow n lV).heap[o]?=some (.cells zo 4 (0,0)):=(c1.block o (bcC lo hHeld.2.size) (λe=>hno e.symm)).trans ho1;have f1:(w2.setRow n lV).heap[w.heap.size]?=some (.cells #[.int .i64 a,.int .i64 b] 45 (0,0)):=(c1.block _ (aOA.1 hHeld.1).1 hne).trans hHeld.1;have C1:Tv w (w2.setRow n lV) (λk=>k=n\/k=d\/k=o):=⟨c1.os.trans hHeld.2.os,c1.tape.trans hHeld.2.tape,c1.output.trans hHeld.2.output,bjH hHeld.2.size c1.size,λk hk hq=>(c1.block k (bcC hk hHeld.2.size) (λe=>hq (.inl e))).trans (hHeld.2.block k hk hq)⟩;rw[if_pos (by rfl),awM _ _ _ _ _ lV hn1 KK.out.1 (by kernel_rfl)];simp only[biS,bsO];refine hK.out _ _ ⟨f1,C1⟩ λ_=>?_;clear hK K hHeld hn1 hd1 ho1 c1;generalize w2.setRow n lV=w3 at s1 t1 u1 f1 C1 ⊢;refine acV (i:=3) (by kernel_rfl) rfl (λK hK=>?_)
 go_simp
 have c2:=Hy w3 d #[.int .i64 a,.int .i64 b];have s2:=setRow_heap w3 d _ #[.int .i64 a,.int .i64 b] _ _ t1;have t2:(w3.setRow d #[.int .i64 a,.int .i64 b]).heap[n]?=some (.cells lV 29 (0,0)):=(c2.block n (bcC ln C1.size) hnd).trans s1;have u2:(w3.setRow d #[.int .i64 a,.int .i64 b]).heap[o]?=some (.cells zo 4 (0,0)):=(c2.block o (bcC lo C1.size) (λe=>hdo e.symm)).trans u1;have f2:(w3.setRow d #[.int .i64 a,.int .i64 b]).heap[w.heap.size]?=some (.cells #[.int .i64 a,.int .i64 b] 45 (0,0)):=(c2.block _ (aOA.1 f1).1 (by omega)).trans f1;have C2:Tv w (w3.setRow d #[.int .i64 a,.int .i64 b]) (λk=>k=n\/k=d\/k=o):=⟨c2.os.trans C1.os,c2.tape.trans C1.tape,c2.output.trans C1.output,bjH C1.size c2.size,λk hk hq=>(c2.block k (bcC hk C1.size) (λe=>hq (.inr (.inl e)))).trans (C1.block k hk hq)⟩
 obtain⟨x0,x1,hzd⟩:∃x0 x1,zd=#[x0,x1]:=by
   obtain⟨l⟩:=zd;have hl:l.length=2:=KK.out.2.1
   match l,hl with
   | [x0,x1],_=>exact⟨x0,x1,rfl⟩
 have t1:=hzd▸t1;have p0:w3.cell? ⟨d,0,none⟩=some x0:=by simp[bkS,t1]
 have q0:w3.frozen? ⟨d,0,none⟩=false:=by simp[bnP,t1]
 have e0:w3.setCell ⟨d,0,none⟩ (.int .i64 a)=w3.setRow d #[.int .i64 a,x1]:=setCell_eq_setRow w3 _ 0 _ _ _ _ t1;have r0:=setRow_heap w3 d _ #[.int .i64 a,x1] _ _ t1;have p1:(w3.setRow d #[.int .i64 a,x1]).cell? ⟨d,1,none⟩=some x1:=by simp[bkS,r0]
 have q1:(w3.setRow d #[.int .i64 a,x1]).frozen? ⟨d,1,none⟩=false:=by simp[bnP,r0]
 have e1:(w3.setRow d #[.int .i64 a,x1]).setCell ⟨d,1,none⟩ (.int .i64 b)=(w3.setRow d #[.int .i64 a,x1]).setRow d #[.int .i64 a,.int .i64 b]:=setCell_eq_setRow _ _ 1 _ _ _ _ r0;simp only[p0,q0,e0,biT,if_false,biS,p1,q1,e1,setRow_setRow,bsO];refine hK.out _ _ ⟨f2,C2⟩ λ_=>?_;clear hK K s1 t1 u1 f1 C1 c2;generalize w3.setRow d #[.int .i64 a,.int .i64 b]=w4 at s2 t2 u2 f2 C2 ⊢;refine acV (i:=4) (by kernel_rfl) rfl (λK hK=>?_)
 go_simp
 obtain⟨z0,hz0⟩:∃z0,zo=#[z0]:=Array.size_eq_one_iff.1 KK.out.2.2;subst hz0;have c3:=Hy w4 o #[.bool false];have s3:=setRow_heap w4 o _ #[.bool false] _ _ u2;have e3:w4.setCell ⟨o,0,none⟩ (.bool false)=w4.setRow o #[.bool false]:=setCell_eq_setRow w4 _ 0 _ _ _ _ u2;have t3:(w4.setRow o #[.bool false]).heap[n]?=some (.cells lV 29 (0,0)):=(c3.block n (bcC ln C2.size) hno).trans t2;have u3:(w4.setRow o #[.bool false]).heap[d]?=some (.cells #[.int .i64 a,.int .i64 b] 45 (0,0)):=(c3.block d (bcC ld C2.size) hdo).trans s2;have f3:(w4.setRow o #[.bool false]).heap[w.heap.size]?=some (.cells #[.int .i64 a,.int .i64 b] 45 (0,0)):=(c3.block _ (aOA.1 f2).1 (by omega)).trans f2;have C3:Tv w (w4.setRow o #[.bool false]) (λk=>k=n\/k=d\/k=o):=⟨c3.os.trans C2.os,c3.tape.trans C2.tape,c3.output.trans C2.output,bjH C2.size c3.size,λk hk hq=>(c3.block k (bcC hk C2.size) (λe=>hq (.inr (.inr e)))).trans (C2.block k hk hq)⟩;have k0:w4.cell? ⟨o,0,none⟩=some z0:=by simp[bkS,u2]
 have k1:w4.frozen? ⟨o,0,none⟩=false:=by simp[bnP,u2]
 simp only[k0,k1,e3,biT,if_false,biS,bsO];refine hK.out _ _ ⟨f3,C3⟩ λ_=>?_;refine wpAnyH_done (by kernel_rfl) ?_ _;have hC:amT n d o a b w (w4.setRow o #[.bool false]):=⟨t3,u3,s3,C3⟩;clear t3 u3 s3 f3 C3 c3 e3 k0 k1 s2 t2 u2 f2 C2 hK KK;generalize w4.setRow o #[.bool false]=w5 at hC ⊢;cases c₀;simp_all [bodyPostS,results,Tryz.results68];rfl
def Jb(w:World):World:=((w.alloc (.cells lV 29)).alloc (.cells #[.int .i64 0,.int .i64 0] 45)).alloc (.cells #[.bool false] 4)
def axO(w:World):(Jb w).heap[w.heap.size]?=some (.cells lV 29 (0,0)):=by
 unfold Jb;rw[heap_alloc_old _ _ (by simp;omega),heap_alloc_old _ _ (by simp),heap_alloc_new]
def axP(w:World):(Jb w).heap[w.heap.size+1]?=some (.cells #[.int .i64 0,.int .i64 0] 45 (0,0)):=by
 unfold Jb;rw[heap_alloc_old _ _ (by simp),heap_alloc2_new]
def axQ(w:World):(Jb w).heap[w.heap.size+1+1]?=some (.cells #[.bool false] 4 (0,0)):=by
 unfold Jb;have:=heap_alloc_new ((w.alloc (.cells lV 29)).alloc (.cells #[.int .i64 0,.int .i64 0] 45)) (.cells #[.bool false] 4);rwa[bkU,bkU] at this
set_option maxRecDepth 20000 in
set_option maxHeartbeats 4000000 in
def axR(g:Nat)(hg:M5 Tryz.prog g=true)(fs cs:Array Value)(w:World)(R:Array Value->World->Prop)
   (hR:∀xs w',R xs w'->(xs.size=11/\xs.all (·.oneCell')=true)/\w'.heap[w.heap.size]?=(Jb w).heap[w.heap.size]?/\w'.heap[w.heap.size+1]?=(Jb w).heap[w.heap.size+1]?/\w'.heap[w.heap.size+1+1]?=(Jb w).heap[w.heap.size+1+1]?)
   (hC:Calls Tryz.prog g (fs++cs) (Jb w) λe w'=>∃xs,e=.returned (.agg xs)/\R xs w') :
   Calls Tryz.prog 35 #[.func (.func g) fs cs] w λe w2=>∃xs w',R xs w'/\e=.returned (.tuple #[.agg xs,.agg #[.int .i64 0,.int .i64 0],.bool true])/\Tv w' w2 (lE w (Jb w)):=by
 have hmf:∀(fn:Fn) (first cap:Array Value) (w:World),(bsB fn first cap).run Tryz.prog w=.ok (.func fn first cap) w:=λ_ _ _ _=>rfl
 have hen:=λargs w=>TI (w:=w) hg args;have HC:=bcI hC;have HR:=bcI hR;clear hC hR
 go_enter_defers Tryz.func35,Tryz.ntmps35
 go_wp2_with fail
 refine HC.out.mono ?_;clear HC;rintro e w1 ⟨xs,rfl,hr⟩;obtain⟨⟨hx,hone⟩,k0,k1,k2⟩:=HR.out xs w1 hr;clear HR;have HB:=bcI hr;clear hr
 have e0:w1.heap[w.heap.size]?=some (.cells #[.int .i64 0,.string ⟨#[]⟩,.string ⟨#[]⟩,.int .i64 0,.int .i64 0,.int .i64 0,.int .i64 0,.int .i64 0,.slice none 0 0,.slice none 0 0,.int .i64 0] 29 (0,0)):=by
   rw[k0];exact axO w
 have e1:w1.heap[w.heap.size+1]?=some (.cells #[.int .i64 0,.int .i64 0] 45 (0,0)):=by
   rw[k1];exact axP w
 have e2:w1.heap[w.heap.size+1+1]?=some (.cells #[.bool false] 4 (0,0)):=by
   rw[k2];exact axQ w
 have hl2:w.heap.size+1+1 < w1.heap.size:=(aOA.1 e2).1;obtain⟨wa,hwa⟩:∃wa,wa=w1.setRow w.heap.size xs:=⟨_,rfl⟩;have ca:=Hy w1 w.heap.size xs;rw[<- hwa] at ca
 have f1:wa.heap[w.heap.size+1]?=some (.cells #[.int .i64 0,.int .i64 0] 45 (0,0)):=by
   rw[ca.block _ (by omega) (by omega)];exact e1
 have f2:wa.heap[w.heap.size+1+1]?=some (.cells #[.bool false] 4 (0,0)):=by
   rw[ca.block _ (by omega) (by omega)];exact e2
 have f0:wa.heap[w.heap.size]?=some (.cells xs 29 (0,0)):=by
   rw[hwa];exact setRow_heap w1 _ _ _ _ _ e0
 have s0:wa.setCell ⟨w.heap.size+1,0,none⟩ (.int .i64 0)=wa.setRow (w.heap.size+1) #[.int .i64 0,.int .i64 0]:=setCell_eq_setRow wa _ 0 _ _ _ _ f1;obtain⟨wd,hwd⟩:∃wd,wd=wa.setCell ⟨w.heap.size+1,0,none⟩ (.int .i64 0):=⟨_,rfl⟩;have cd:=Hy wa (w.heap.size+1) #[.int .i64 0,.int .i64 0]
 have fd1:wd.heap[w.heap.size+1]?=some (.cells #[.int .i64 0,.int .i64 0] 45 (0,0)):=by
   rw[hwd,s0];exact setRow_heap wa _ _ _ _ _ f1
 have s1:wd.setCell ⟨w.heap.size+1,1,none⟩ (.int .i64 0)=wd.setRow (w.heap.size+1) #[.int .i64 0,.int .i64 0]:=setCell_eq_setRow wd _ 1 _ _ _ _ fd1;rw[<- s0,<- hwd] at cd;obtain⟨wb,hwb⟩:∃wb,wb=wd.setCell ⟨w.heap.size+1,1,none⟩ (.int .i64 0):=⟨_,rfl⟩;have cb:=Hy wd (w.heap.size+1) #[.int .i64 0,.int .i64 0];rw[<- s1,<- hwb] at cb;have hld:w.heap.size+1 < wd.heap.size:=(aOA.1 fd1).1;have d0:wa.cell? ⟨w.heap.size+1,0,none⟩=some (.int .i64 0):=by simp[bkS,f1]
 have d1:(wa.setCell ⟨w.heap.size+1,0,none⟩ (.int .i64 0)).cell? ⟨w.heap.size+1,1,none⟩=some (.int .i64 0):=by rw[<- hwd];simp[bkS,fd1]
 have z0:wa.frozen? ⟨w.heap.size+1,0,none⟩=false:=by simp[bnP,f1]
 have z1:(wa.setCell ⟨w.heap.size+1,0,none⟩ (.int .i64 0)).frozen? ⟨w.heap.size+1,1,none⟩=false:=by rw[<- hwd];simp[bnP,fd1]
 have hla:w.heap.size+1+1 < wa.heap.size:=(aOA.1 f2).1
 have g0:wb.heap[w.heap.size]?=some (.cells xs 29 (0,0)):=by
   rw[cb.block _ (by omega) (by omega),cd.block _ (by omega) (by omega)];exact f0
 have g1:wb.heap[w.heap.size+1]?=some (.cells #[.int .i64 0,.int .i64 0] 45 (0,0)):=by
   rw[hwb,s1];exact setRow_heap wd _ _ _ _ _ fd1
 have g2:wb.heap[w.heap.size+1+1]?=some (.cells #[.bool false] 4 (0,0)):=by
   rw[cb.block _ (by have:=cd.size;omega) (by omega),cd.block _ (by omega) (by omega)];exact f2
 have c2:((wa.setCell ⟨w.heap.size+1,0,none⟩ (.int .i64 0)).setCell ⟨w.heap.size+1,1,none⟩ (.int .i64 0)).cell? ⟨w.heap.size+1+1,0,none⟩=some (.bool false):=by rw[<- hwd,<- hwb];simp[bkS,g2]
 have z2:((wa.setCell ⟨w.heap.size+1,0,none⟩ (.int .i64 0)).setCell ⟨w.heap.size+1,1,none⟩ (.int .i64 0)).frozen? ⟨w.heap.size+1+1,0,none⟩=false:=by rw[<- hwd,<- hwb];simp[bnP,g2]
 have hsz:(Tryz.prog.info? 29).map (·.size)=some xs.size:=by rw[hx];kernel_rfl
 have E0:=bcI e0;have HS:=bcI hsz;have HX:=bcI hx;have HO:=bcI hone;have HWA:=bcI hwa;have HWB:=bcI hwb;have HWD:=bcI hwd;have CD:=bcI cd;have G0:=bcI g0;have G1:=bcI g1;have G2:=bcI g2;have CA:=bcI ca;have CB:=bcI cb;have HL:=bcI (And.intro hl2 hla);clear e0 e1 e2 f0 f1 f2 g0 g1 g2 hsz hx hone hwa hwb hwd s0 s1 fd1 hld ca cb cd k0 k1 k2 hl2 hla
 go_wp2_with (refine wpList_store_row rfl 29 _ _ rfl w.heap.size xs rfl rfl 29 _ E0.out HS.out (by rw[HX.out];rfl) HO.out ?_;rw[<- HWA.out])
 rw[<- HWD.out,<- HWB.out];have s2:wb.setCell ⟨w.heap.size+1+1,0,none⟩ (.bool true)=wb.setRow (w.heap.size+1+1) #[.bool true]:=setCell_eq_setRow wb _ 0 _ _ _ _ G2.out;have cc:=Hy wb (w.heap.size+1+1) #[.bool true];have h2:=setRow_heap wb (w.heap.size+1+1) _ #[.bool true] _ _ G2.out;rw[s2];generalize wb.setRow (w.heap.size+1+1) #[.bool true]=wc at cc h2;have hl:=HL.out;have hlb:=CB.out.size;have hld:=CD.out.size;have h0:wc.heap[w.heap.size]?=some (.cells xs 29 (0,0)):=by rw[cc.block _ (by omega) (by omega)];exact G0.out
 have h1:wc.heap[w.heap.size+1]?=some (.cells #[.int .i64 0,.int .i64 0] 45 (0,0)):=by rw[cc.block _ (by omega) (by omega)];exact G1.out
 refine leaves_cons (f:=68) (args:=#[.pointer (some ⟨w.heap.size,0,none⟩),.pointer (some ⟨w.heap.size+1,0,none⟩),.pointer (some ⟨w.heap.size+1+1,0,none⟩)]) (by simp) (by simp[go_sem]) ?_;refine(aaO _ _ _ _).mono ?_;rintro e u' w2 ⟨rfl,rfl,rfl⟩;show Leaves _ _ _ _ [] .returning _;have l0:=run_loadVar_row (P:=Tryz.prog) w2 w.heap.size _ 29 xs _ _ h0 Tryz.underlying29 rfl HS.out;have l1:=run_loadVar_row (P:=Tryz.prog) w2 (w.heap.size+1) _ 45 #[.int .i64 0,.int .i64 0] _ _ h1 Tryz.underlying45 rfl (by kernel_rfl);have l2:w2.cell? ⟨w.heap.size+1+1,0,none⟩=some (.bool true):=by simp[bkS,h2]
 refine⟨.tuple #[.agg xs,.agg #[.int .i64 0,.int .i64 0],.bool true],?_,xs,w1,HB.out,rfl,?_⟩
 · have l3:(loadVar 4 ⟨w.heap.size+1+1,0,none⟩).run Tryz.prog w2=.ok (.bool true) w2:=by simp[go_sem,l2]
   rw[Wz,Tryz.results35];simp[alK,asAddr,biV,l0,l1,l3]
 · have hk:∀k,w1.heap.size > k->¬lE w (Jb w) k->k≠w.heap.size/\k≠w.heap.size+1/\k≠w.heap.size+1+1:=by
     intro k _ hn;have hs:(Jb w).heap.size=w.heap.size+1+1+1:=by unfold Jb;simp
     refine⟨λe=>hn ?_,λe=>hn ?_,λe=>hn ?_⟩<;>subst e<;>refine⟨?_,?_⟩<;>omega
   have ca:=CA.out;have cd:=CD.out;have cb:=CB.out;refine⟨cc.os.trans (cb.os.trans (cd.os.trans ca.os)),cc.tape.trans (cb.tape.trans (cd.tape.trans ca.tape)),cc.output.trans (cb.output.trans (cd.output.trans ca.output)),bjH ca.size (bjH hld (bjH hlb cc.size)),λk hk1 hk2=>?_⟩;obtain⟨n0,n1,n2⟩:=hk k hk1 hk2;rw[cc.block k (by have:=ca.size;omega) n2,cb.block k (by have:=ca.size;omega) n1,cd.block k (by have:=ca.size;omega) n1,ca.block k hk1 n0]
set_option maxRecDepth 20000 in
set_option maxHeartbeats 4000000 in
def aFN(g:Nat)(hg:M5 Tryz.prog g=true)(fs cs:Array Value)(w:World)(R:Int->Int->World->Prop)
   (hR:∀a b w',R a b w'->w'.heap[w.heap.size]?=(Jb w).heap[w.heap.size]?/\w'.heap[w.heap.size+1]?=(Jb w).heap[w.heap.size+1]?/\w'.heap[w.heap.size+1+1]?=(Jb w).heap[w.heap.size+1+1]?)
   (hC:Calls Tryz.prog g (fs++cs) (Jb w) λe w'=>∃a b,e=.panicked [{ v:=.iface 45 (.agg #[.int .i64 a,.int .i64 b]),recovered:=false }]/\R a b w') :
   Calls Tryz.prog 35 #[.func (.func g) fs cs] w λe w2=>∃a b w',R a b w'/\e=.returned (.tuple #[.agg lV,.agg #[.int .i64 a,.int .i64 b],.bool false])/\Tv w' w2 (lE w (Jb w)):=by
 have hmf:∀(fn:Fn) (first cap:Array Value) (w:World),(bsB fn first cap).run Tryz.prog w=.ok (.func fn first cap) w:=λ_ _ _ _=>rfl
 have hen:=λargs w=>TI (w:=w) hg args;have HC:=bcI hC;have HR:=bcI hR;clear hC hR
 go_enter_defers Tryz.func35,Tryz.ntmps35
 go_wp2_with fail
 refine HC.out.mono ?_;clear HC;rintro e w1 ⟨a,b,rfl,hr⟩;obtain⟨k0,k1,k2⟩:=HR.out a b w1 hr;clear HR;have e0:w1.heap[w.heap.size]?=some (.cells lV 29 (0,0)):=by rw[k0];exact axO w
 have e1:w1.heap[w.heap.size+1]?=some (.cells #[.int .i64 0,.int .i64 0] 45 (0,0)):=by rw[k1];exact axP w
 have e2:w1.heap[w.heap.size+1+1]?=some (.cells #[.bool false] 4 (0,0)):=by rw[k2];exact axQ w
 refine leaves_cons (f:=68) (args:=#[.pointer (some ⟨w.heap.size,0,none⟩),.pointer (some ⟨w.heap.size+1,0,none⟩),.pointer (some ⟨w.heap.size+1+1,0,none⟩)]) (by simp) (by simp[go_sem]) ?_;refine(aaN w.heap.size (w.heap.size+1) (w.heap.size+1+1) a b [] w1 _ _ _ (by omega) (by omega) (by omega) e0 e1 e2 rfl rfl rfl).mono ?_;rintro e u' w2 ⟨rfl,rfl,h0,h1,h2,hc⟩;show Leaves _ _ _ _ [] .returning _;have l0:=run_loadVar_row (P:=Tryz.prog) w2 w.heap.size _ 29 lV _ _ h0 Tryz.underlying29 rfl (by kernel_rfl);have l1:=run_loadVar_row (P:=Tryz.prog) w2 (w.heap.size+1) _ 45 #[.int .i64 a,.int .i64 b] _ _ h1 Tryz.underlying45 rfl (by kernel_rfl);have l2:w2.cell? ⟨w.heap.size+1+1,0,none⟩=some (.bool false):=by simp[bkS,h2]
 refine⟨.tuple #[.agg lV,.agg #[.int .i64 a,.int .i64 b],.bool false],?_,a,b,w1,hr,rfl,?_⟩
 · have l3:(loadVar 4 ⟨w.heap.size+1+1,0,none⟩).run Tryz.prog w2=.ok (.bool false) w2:=by simp[go_sem,l2]
   rw[Wz,Tryz.results35];simp[alK,asAddr,biV,l0,l1,l3]
 · refine⟨hc.os,hc.tape,hc.output,hc.size,λk hk1 hk2=>hc.block k hk1 (λe=>hk2 ?_)⟩
   have hs:(Jb w).heap.size=w.heap.size+1+1+1:=by unfold Jb;simp
   rcases e with rfl | rfl | rfl<;>refine⟨?_,?_⟩<;>omega
def baI:CR->Option CR
 | .ret (.agg cs)=>(match bjO cs.length 11 with
   | true=>(match cs.all one with
     | true=>some (.ret (.E9 [.agg cs,.agg [.sc (.int .i64 0),.sc (.int .i64 0)],.sc (.bool true)]))
     | false=>none)
   | false=>none)
 | .pan (.ifc t (.agg [.sc (.int .i64 a),.sc (.int .i64 b)]))=>(match bjO t 45 with
   | true=>some (.ret (.E9 [.agg [.sc (.int .i64 0),.sc (.string V4),.sc (.string V4),.sc (.int .i64 0),.sc (.int .i64 0),.sc (.int .i64 0),.sc (.int .i64 0),.sc (.int .i64 0),.sl .lost 0 [],.sl .lost 0 [],.sc (.int .i64 0)],.agg [.sc (.int .i64 a),.sc (.int .i64 b)],.sc (.bool false)]))
   | false=>none)
 | _=>none
def UU{G:AK}{g:FuncId}(hg:M5 Tryz.prog g=true){first caps:List AV}{s s':AS}{r r':CR}(h:Sound Tryz.prog G (.call g (first++[]++caps) s r s'))(hk:baI r=some r'):Sound Tryz.prog G (.call 35 [.fn (.func g) first caps] s r' s'):=by
 unfold baI at hk;split at hk
 · rename_i cs
   split at hk
   · rename_i hn
     split at hk
     · rename_i ho
       cases hk;intro cx w vs hs ha;cases ha with
       | cons h1 t =>
       cases t;cases h1 with
       | fn hf hc =>
       rename_i us vs
       have k:Tv w (Jb w) (λ_=>False):=by
         have k1:=O1 w (.cells #[.int .i64 0,.string ⟨#[]⟩,.string ⟨#[]⟩,.int .i64 0,.int .i64 0,.int .i64 0,.int .i64 0,.int .i64 0,.slice none 0 0,.slice none 0 0,.int .i64 0] 29);exact⟨rfl,rfl,rfl,by unfold Jb;simp;omega,λq hq _=>by unfold Jb;rw[heap_alloc_old _ _ (by simp;omega),heap_alloc_old _ _ (by simp;omega),heap_alloc_old _ _ hq]⟩
       have hsv:=aiL hs k;have hm:=Yd (cx:=cx) k;have hC:=h (cx.lQ w (Jb w)) (Jb w) (us++vs) hsv (by simpa using (hf.Dk hm).append (hc.Dk hm))
       have e1:(us++vs).toArray=us.toArray++vs.toArray:=by simp
       rw[e1] at hC;refine(axR g hg us.toArray vs.toArray w (λxs w'=>∃c',Ext (cx.lQ w (Jb w)) (Jb w) c' w'/\St G c' w' s'/\Cv c' w' cs xs.toList) ?_ (hC.mono ?_)).mono ?_
       · rintro xs w' ⟨c',hx,_,hr⟩
         have hl:=hr.len;have hsz:(Jb w).heap.size=w.heap.size+1+1+1:=by unfold Jb;simp
         refine⟨⟨by have:=bkB hn;rw[<- Array.length_toList];omega,?_⟩,OU hs hx ⟨by omega,by omega⟩,OU hs hx ⟨by omega,by omega⟩,OU hs hx ⟨by omega,by omega⟩⟩;rw[blT];intro v hv;exact bT hr ho v (by simpa using hv)
       · rintro e w' ⟨c',hx,hs',u,rfl,hu⟩
         cases hu with
         | agg hr=>exact⟨_,rfl,c',hx,hs',by simpa using hr⟩
       · rintro e w2 ⟨xs,w',⟨c',hx,hs',hr⟩,rfl,k2⟩
         have m2:=WH hx k2;refine⟨c'.Zf cx,jA hs k hx k2,oI hs hx hs' k2,_,rfl,?_⟩;have hr2:=hr.Dk m2
         have ha:Rp (c'.Zf cx) w2 (.agg cs) (.agg xs):=by
           have:=Rp.agg hr2;simpa using this
         exact .E9 (vs:=[.agg xs,.agg #[.int .i64 0,.int .i64 0],.bool true]) (.cons ha (.cons (.agg (vs:=[.int .i64 0,.int .i64 0]) (.cons (.sc rfl) (.cons (.sc rfl) .nil))) (.cons (.sc rfl) .nil)))
     · cases hk
   · cases hk
 · rename_i ty a b
   split at hk
   · rename_i hty
     have hty:=bkB hty;subst hty;cases hk;intro cx w vs hs ha;cases ha with
     | cons h1 t =>
     cases t;cases h1 with
     | fn hf hc =>
     rename_i us vs;have k:Tv w (Jb w) (λ_=>False):=⟨rfl,rfl,rfl,by unfold Jb;simp;omega,λq hq _=>by unfold Jb;rw[heap_alloc_old _ _ (by simp;omega),heap_alloc_old _ _ (by simp;omega),heap_alloc_old _ _ hq]⟩;have hsv:=aiL hs k;have hm:=Yd (cx:=cx) k;have hC:=h (cx.lQ w (Jb w)) (Jb w) (us++vs) hsv (by simpa using (hf.Dk hm).append (hc.Dk hm))
     have e1:(us++vs).toArray=us.toArray++vs.toArray:=by simp
     rw[e1] at hC;refine(aFN g hg us.toArray vs.toArray w (λa' b' w'=>a'=a/\b'=b/\∃c',Ext (cx.lQ w (Jb w)) (Jb w) c' w'/\St G c' w' s') ?_ (hC.mono ?_)).mono ?_
     · rintro a' b' w' ⟨_,_,c',hx,_⟩
       have hsz:(Jb w).heap.size=w.heap.size+1+1+1:=by unfold Jb;simp
       exact⟨OU hs hx ⟨by omega,by omega⟩,OU hs hx ⟨by omega,by omega⟩,OU hs hx ⟨by omega,by omega⟩⟩
     · rintro e w' ⟨c',hx,hs',u,rfl,hu⟩
       cases hu with
       | ifc hu =>
         cases hu with
         | agg hr =>
           cases hr with
           | cons r1 hr =>
             cases hr with
             | cons r2 hr =>
               cases hr;cases r1;cases r2;exact⟨a,b,rfl,rfl,rfl,c',hx,hs'⟩
     · rintro e w2 ⟨a',b',w',⟨rfl,rfl,c',hx,hs'⟩,rfl,k2⟩
       refine⟨c'.Zf cx,jA hs k hx k2,oI hs hx hs' k2,_,rfl,?_⟩;refine .E9 (vs:=[.agg lV,.agg #[.int .i64 a',.int .i64 b'],.bool false]) (.cons ?_ (.cons (.agg (vs:=[.int .i64 a',.int .i64 b']) (.cons (.sc rfl) (.cons (.sc rfl) .nil))) (.cons (.sc rfl) .nil)));exact .agg (vs:=lV.toList) (.cons (.sc rfl) (.cons (.sc rfl) (.cons (.sc rfl) (.cons (.sc rfl) (.cons (.sc rfl) (.cons (.sc rfl) (.cons (.sc rfl) (.cons (.sc rfl) (.cons (.sl0 trivial) (.cons (.sl0 trivial) (.cons (.sc rfl) .nil)))))))))))
   · cases hk
 · cases hk
end Go.Proofs.YtpbkhogolfegfaaGreatDoor
namespace AI
open Go Go.RowKit
mutual
def rnV(ρ σ:Nat->Nat):AV->AV
 | .ptr i o=>.ptr (ρ i) o
 | .mp i=>.mp (ρ i)
 | .msl i o n=>.msl (ρ i) o n
 | .sl (.row r z) n cs=>.sl (.row (σ r) z) n cs
 | .agg cs=>.agg (X1 ρ σ cs)
 | .E9 cs=>.E9 (X1 ρ σ cs)
 | .fn f a b=>.fn f (X1 ρ σ a) (X1 ρ σ b)
 | a=>a
def X1(ρ σ:Nat->Nat):List AV->List AV
 | []=>[]
 | a::l=>rnV ρ σ a::X1 ρ σ l
end
def xY(ρ σ:Nat->Nat)(n:Nat):(∀a,bpW a < n->plain a=true->rnV ρ σ a=a)/\∀l,bpW l < n->Bz l=true->X1 ρ σ l=l:=by
 induction n with
 | zero=>exact⟨λ_ h=>absurd h (bmN _),λ_ h=>absurd h (bmN _)⟩
 | succ n ih =>
   obtain⟨h1,h2⟩:=ih;refine⟨λa hn hp=>?_,λl hn hp=>?_⟩;unfold rnV;split;cases hp;cases hp;cases hp;simp only[plain,bcA] at hp;cases hp.1;simp only[AV.agg.sizeOf_spec] at hn;simp only[plain] at hp;rw[h2 _ (by omega) hp];simp only[AV.E9.sizeOf_spec] at hn;simp only[plain] at hp;rw[h2 _ (by omega) hp];simp only[AV.fn.sizeOf_spec] at hn;simp only[plain,bcA] at hp;rw[h2 _ (by omega) hp.1,h2 _ (by omega) hp.2];rfl
   · cases l with
     | nil=>rfl
     | cons a l =>
       simp only[bnC] at hn;simp only[Bz,bcA] at hp;rw[X1,h1 a (by omega) hp.1,h2 l (by omega) hp.2]
def aSL{ρ σ:Nat->Nat}{a:AV}(h:plain a=true):rnV ρ σ a=a:=(xY ρ σ _).1 a (bkM _) h
def aDN{ρ σ:Nat->Nat}{l:List AV}(h:Bz l=true):X1 ρ σ l=l:=(xY ρ σ _).2 l (bkM _) h
def xX(ρ σ:Nat->Nat):Ao->Ao
 | .cells cs=>.cells (X1 ρ σ cs)
 | b=>b
class Rc(a:AV)(q:outParam (Nat->Nat->Bool)):Prop where
 h:∀k j ρ σ,q k j=true->Rn k j ρ σ a (rnV ρ σ a)
class RcL(l:List AV)(q:outParam (Nat->Nat->Bool)):Prop where
 h:∀k j ρ σ,q k j=true->WX k j ρ σ l (X1 ρ σ l)
class RcB(b:Ao)(q:outParam (Nat->Nat->Bool)):Prop where
 h:∀k j ρ σ,q k j=true->tY k j ρ σ b (xX ρ σ b)
class RcH(l:List (Nat×Ao))(q:outParam (Nat->Nat->Bool)):Prop where
 h:∀k j ρ σ,q k j=true->∀e,e∈l->tY k j ρ σ e.2 (xX ρ σ e.2)
class RcS(s:AS)(q:outParam (Nat->Nat->Bool)):Prop where
 h:∀k j ρ σ,q k j=true->∀e,e∈s.h->tY k j ρ σ e.2 (xX ρ σ e.2)
def pE{i k:Nat}(h:Nat.blt i k=true):i < k:=Nat.le_of_ble_eq_true h
instance (priority:=low) {a:AV} [i:tD a]:Rc a qT:=⟨λ_ _ _ _ _=>by rw[aSL i.h];exact .pl i.h⟩
instance {i o:Nat}:Rc (.ptr i o) (qN i):=⟨λ_ _ _ _ h=>.ptr (pE h)⟩
instance {i:Nat}:Rc (.mp i) (qN i):=⟨λ_ _ _ _ h=>.mp (pE h)⟩
instance {i o n:Nat}:Rc (.msl i o n) (qN i):=⟨λ_ _ _ _ h=>.msl (pE h)⟩
instance {r z n:Nat} {cs:List AV} [i:Ll cs]:Rc (.sl (.row r z) n cs) (λ_ m=>Nat.blt r m):=⟨λ_ _ _ _ h=>.row (pE h) i.h⟩
instance {cs:List AV} {q} [i:RcL cs q]:Rc (.agg cs) q:=⟨λk j ρ σ h=>.agg (i.h k j ρ σ h)⟩
instance {cs:List AV} {q} [i:RcL cs q]:Rc (.E9 cs) q:=⟨λk j ρ σ h=>.E9 (i.h k j ρ σ h)⟩
instance {f:Fn} {a b:List AV} {q r} [i:RcL a q] [j:RcL b r]:Rc (.fn f a b) (qA q r):=⟨λk j' ρ σ h=>by
 have h:=bkY.1 h;exact .fn (i.h k j' ρ σ h.1) (j.h k j' ρ σ h.2)⟩
instance (priority:=low) {l:List AV} [i:Ll l]:RcL l qT:=⟨λ_ _ _ _ _=>by rw[aDN i.h];exact .pl i.h⟩
instance:RcL [] qT:=⟨λ_ _ _ _ _=>.nil⟩
instance {a:AV} {l:List AV} {q r} [i:Rc a q] [j:RcL l r]:RcL (a::l) (qA q r):=⟨λk j' ρ σ h=>by
 have h:=bkY.1 h;exact .cons (i.h k j' ρ σ h.1) (j.h k j' ρ σ h.2)⟩
instance {cs:List AV} {q} [i:RcL cs q]:RcB (.cells cs) q:=⟨λk j ρ σ h=>.cells (i.h k j ρ σ h)⟩
instance:RcH [] qT:=⟨λ_ _ _ _ _ _ h=>by cases h⟩
instance {i:Nat} {b:Ao} {l:List (Nat×Ao)} {q r} [x:RcB b q] [y:RcH l r]:RcH ((i,b)::l) (qA q r):=⟨λk j ρ σ h e he=>by
 have h:=bkY.1 h;cases he with
 | head=>exact x.h k j ρ σ h.1
 | tail _ he=>exact y.h k j ρ σ h.2 e he⟩
instance {h:List (Nat×Ao)} {n m:Nat} {F:List (Nat×Nat)} {q} [x:RcH h q]:RcS ⟨h,n,F,m⟩ q:=⟨x.h⟩
mutual
def aRP(id:Nat):AV->Bool
 | .ptr i _=>bjO i id
 | .mp i=>bjO i id
 | .msl i _ _=>bjO i id
 | .agg cs=>T6 id cs
 | .fn _ a b=>cond (T6 id a) true (T6 id b)
 | _=>false
def T6(id:Nat):List AV->Bool
 | []=>false
 | a::l=>cond (aRP id a) true (T6 id l)
end
def bD{a b:Bool}(h:cond a true b=true):a=true\/b=true:=by cases a<;>simp_all
def aCB(id n:Nat):(∀a,bpW a < n->aRP id a=true->Occ id a)/\∀l,bpW l < n->T6 id l=true->UZ id l:=by
 induction n with
 | zero=>exact⟨λ_ h=>absurd h (bmN _),λ_ h=>absurd h (bmN _)⟩
 | succ n ih =>
   obtain⟨h1,h2⟩:=ih;refine⟨λa hn h=>?_,λl hn h=>?_⟩
   · cases a<;>simp only[aRP] at h<;>try (cases h;done)
     simp only[AV.agg.sizeOf_spec] at hn;exact .agg (h2 _ (by omega) h);cases beq_true h;exact .msl;cases beq_true h;exact .ptr;simp only[AV.fn.sizeOf_spec] at hn;rcases bD h with h | h
     exact .fn1 (h2 _ (by omega) h);exact .fn2 (h2 _ (by omega) h);cases beq_true h;exact .mp
   · cases l with
     | nil=>cases h
     | cons a l =>
       simp only[bnC] at hn;simp only[T6] at h;rcases bD h with h | h
       exact .here (h1 _ (by omega) h);exact .there (h2 _ (by omega) h)
def gA{id:Nat}{l:List AV}(h:T6 id l=true):UZ id l:=(aCB id _).2 l (bkM _) h
def ayV(p:Nat->Bool)(id:Nat):List (Nat×Ao)->Bool
 | []=>false
 | e::l=>cond (match e.2 with | .cells cs=>cond (T6 id cs) (p e.1) false | _=>false) true (ayV p id l)
def alI(args:List AV)(pre:List (Nat×Ao)):Nat->Nat->Bool
 | 0,id=>T6 id args
 | n+1,id=>cond (T6 id args) true (ayV (alI args pre n) id pre)
def aDD{args:List AV}{pre:List (Nat×Ao)}:∀(n id:Nat),alI args pre n id=true->Rch args pre id:=by
 intro n
 induction n with
 | zero=>intro id h;simp only[alI] at h;exact .arg (gA h)
 | succ n ih =>
   intro id h;simp only[alI] at h;rcases bD h with h | h
   exact .arg (gA h)
   · have key:∀l:List (Nat×Ao),(∀e,e∈l->e∈pre)->ayV (alI args pre n) id l=true->Rch args pre id:=by
       intro l
       induction l with
       | nil=>intro _ h;cases h
       | cons e l ihl =>
         intro hm h;simp only[ayV] at h;rcases bD h with h | h
         · split at h
           · rename_i cs he
             cases ho:T6 id cs with
             | false=>rw[ho] at h;cases h
             | true =>
               rw[ho] at h;obtain⟨p,hp⟩:=List.getElem?_of_mem (hm e (.head _));have:e=(e.1,.cells cs):=by rw[<- he]
               exact .box (ih _ h) (by rw[hp,this]) (gA ho)
           cases h
         exact ihl (λe he=>hm e (.tail _ he)) h
     exact key pre (λ_ h=>h) h
def aSI(args:List AV)(pre:List (Nat×Ao)):List Nat->Bool
 | []=>true
 | i::l=>cond (alI args pre 3 i) (aSI args pre l) false
def ndB:List Nat->Bool
 | []=>true
 | i::l=>cond (inB i l) false (ndB l)
where
 inB (i:Nat):List Nat->Bool
   | []=>false
   | j::l=>cond (bjO i j) true (inB i l)
def afO{i:Nat}:∀{l:List Nat},ndB.inB i l=false->i∉l
 | [],_=>by simp
 | j::l,h=>by
   simp only[ndB.inB] at h;cases hb:bjO i j with
   | true=>rw[hb] at h;cases h
   | false =>
     rw[hb] at h;have:=beq_false hb;simp only[List.mem_cons,not_or];exact⟨this,afO h⟩
def acI:∀{l:List Nat},ndB l=true->l.Nodup
 | [],_=>.nil
 | i::l,h=>by
   simp only[ndB] at h;cases hb:ndB.inB i l with
   | true=>rw[hb] at h;cases h
   | false=>rw[hb] at h;exact List.nodup_cons.2 ⟨afO hb,acI h⟩
def tK(us:List Nat)(i:Nat):Nat:=match us[i]? with
 | some e=>e
 | none=>0
def hM(h:List (Nat×Ao)):List Ao:=(h.map (·.2)).reverse
def lG(us vs:List Nat)(h:List (Nat×Ao)):List (Nat×Ao):=us.zip ((hM h).map (xX (tK us) (tK vs)))
def tpU(vs:List Nat)(F:List (Nat×Nat)):List (Nat×Nat):=vs.zip (F.map (·.2))
def mX{β:Type}{us:List Nat}{l:List β}(h:us.length=l.length):JS (us.zip l)=tK us:=by
 funext i;unfold JS tK;cases hu:us[i]? with
 | none =>
   have hz:(us.zip l)[i]?=none:=List.getElem?_eq_none (by have:=List.getElem?_eq_none_iff.1 hu;rw[List.length_zip];omega);rw[hz]
 | some u =>
   have hi:=(List.getElem?_eq_some_iff.1 hu).1;have hl:l[i]?=some l[i]:=List.getElem?_eq_getElem (by omega);have hz:(us.zip l)[i]?=some (u,l[i]):=by rw[List.getElem?_zip_eq_some];exact⟨hu,hl⟩
   rw[hz]
def Pd{β:Type}{us:List Nat}{l:List β}(h:us.length=l.length):keys (us.zip l)=us:=by
 unfold keys;exact List.map_fst_zip (by omega)
def hU{k j:Nat}{ρ σ:Nat->Nat}:∀{us:List Nat} {M:List Ao},us.length=M.length->(∀b,b∈M->tY k j ρ σ b (xX ρ σ b))->ZW k j ρ σ M (us.zip (M.map (xX ρ σ)))
 | [],[],_,_=>.nil
 | [],_::_,h,_=>by cases h
 | _::_,[],h,_=>by cases h
 | u::us,b::M,h,hb=>.cons (hb b (.head _)) (hU (by simpa using h) λb hm=>hb b (.tail _ hm))
class PlR(r:CR):Prop where
 h:∀k j ρ σ,RnR k j ρ σ r r
instance {v:AV} [i:tD v]:PlR (.ret v):=⟨λ_ _ _ _=>.pl i.h⟩
instance {v:AV} [i:tD v]:PlR (.pan v):=⟨λ_ _ _ _=>.pl i.h⟩
instance {α δ:Type} {enc:α->AV} {Xn:δ->AV} [i:∀a,tD (enc a)] [j:∀d,tD (Xn d)] {y:α⊕δ}:PlR (crS enc Xn y):=⟨λ_ _ _ _=>aDM (λa=>(i a).h) (λd=>(j d).h) y⟩
section
variable {P:Program} {G:AK} [gp:GP G] {f:FuncId} {args:List AV} {s0 s1:AS} {r:CR} {qa qb qc:Nat->Nat->Bool}
def gU[ra:RcL args qa][rb:RcS s0 qb][rc:RcS s1 qc][rr:PlR r](hS:Sound P G (.call f args s0 r s1))(us vs:List Nat)
   (e0:(⟨Ih (hM s0.h) 0 [],us.length,sO (s0.F.map (·.2)) 0,vs.length⟩:AS)=s0:=by kernel_rfl) (e1:(⟨Ih (hM s1.h) 0 [],us.length,sO (s1.F.map (·.2)) 0,vs.length⟩:AS)=s1:=by kernel_rfl)
   (hc:cond (cond (qa us.length vs.length) (cond (qb us.length vs.length) (qc us.length vs.length) false) false) (cond (cond (ndB us) (ndB vs) false) (cond (cond (bjO (hM s0.h).length us.length) (bjO (hM s1.h).length us.length) false) (cond (cond (bjO s0.F.length vs.length) (bjO s1.F.length vs.length) false) (aSI (X1 (tK us) (tK vs) args) (lG us vs s0.h) us) false) false) false) false=true:=by kernel_rfl) :
   Cd.ok P G (.Ru f (X1 (tK us) (tK vs) args) r (lG us vs s0.h) (tpU vs s0.F) (lG us vs s1.h) (tpU vs s1.F)):=by
 have Yn:∀{a b:Bool},cond a b false=true->a=true/\b=true:=λ{a b} h=>by cases a<;>simp_all
 obtain⟨hq,hc⟩:=Yn hc;obtain⟨hqa,hq⟩:=Yn hq;obtain⟨hqb,hqc⟩:=Yn hq;obtain⟨hn,hc⟩:=Yn hc;obtain⟨hnu,hnv⟩:=Yn hn;obtain⟨hl,hc⟩:=Yn hc;obtain⟨hl0,hl1⟩:=Yn hl;obtain⟨hf,hrc⟩:=Yn hc;obtain⟨hf0,hf1⟩:=Yn hf;have hl0:=beq_true hl0;have hl1:=beq_true hl1;have hf0:=beq_true hf0;have hf1:=beq_true hf1;have lm0:us.length=((hM s0.h).map (xX (tK us) (tK vs))).length:=by rw[bjC,hl0]
 have lm1:us.length=((hM s1.h).map (xX (tK us) (tK vs))).length:=by rw[bjC,hl1]
 have lt0:vs.length=(s0.F.map (·.2)).length:=by rw[bjC,hf0]
 have lt1:vs.length=(s1.F.map (·.2)).length:=by rw[bjC,hf1]
 have kp:JS (lG us vs s0.h)=tK us:=mX lm0;have kt:JS (tpU vs s0.F)=tK vs:=mX lt0
 have YA:∀{s:AS} {b:Ao},b∈hM s.h->∃e,e∈s.h/\e.2=b:=λ{s b} h=>by
   unfold hM at h;rw[List.mem_reverse,blE] at h;exact h
 refine aNP gp.h (M:=hM s0.h) (M2:=hM s1.h) (T:=s0.F.map (·.2)) (T2:=s1.F.map (·.2)) (k:=us.length) (j:=vs.length) _ _ _ _ (by rw[e0,e1];exact hS) hl0 (by rw[bjC];exact hf0) (by rw[bjC];exact hf1) ?_ ?_ ?_ ?_ ?_ ?_ ?_ ?_ ?_ (rr.h _ _ _ _) ?_;exact(Pd lm1).trans (Pd lm0).symm;exact(Pd lt1).trans (Pd lt0).symm;show(keys (lG us vs s0.h)).Nodup;rw[show keys (lG us vs s0.h)=us from Pd lm0];exact acI hnu;show(keys (tpU vs s0.F)).Nodup;rw[show keys (tpU vs s0.F)=vs from Pd lt0];exact acI hnv;exact brM (by omega);exact brM (by omega);rw[kp,kt];refine hU hl0.symm λb hb=>?_;obtain⟨e,he,rfl⟩:=YA hb;exact rb.h _ _ _ _ hqb e he;rw[kp,kt];refine hU hl1.symm λb hb=>?_;obtain⟨e,he,rfl⟩:=YA hb;exact rc.h _ _ _ _ hqc e he;rw[kp,kt];exact ra.h _ _ _ _ hqa
 · intro e he
   have key:∀l:List Nat,aSI (X1 (tK us) (tK vs) args) (lG us vs s0.h) l=true->∀i,i∈l->Rch (X1 (tK us) (tK vs) args) (lG us vs s0.h) i:=by
     intro l
     induction l with
     | nil=>intro _ i hi;cases hi
     | cons x l ih =>
       intro h i hi;obtain⟨h1,h2⟩:=Yn (show cond _ _ false=true from h);cases hi with
       | head=>exact aDD _ _ h1
       | tail _ hi=>exact ih h2 i hi
   refine key us hrc e.1 ?_;have:e.1∈keys (lG us vs s0.h):=blE.2 ⟨e,he,rfl⟩;rw[show keys (lG us vs s0.h)=us from Pd lm0] at this;exact this
end
end AI
namespace LexS
def KX(n:Nat):Nat :=
 if n=32\/n=9\/n=10\/n=13 then 1
 else if 97<=n/\n<=122 then 2
 else if 65<=n/\n<=90 then 4
 else if 48<=n/\n<=57 then 8
 else if n=95 then 16
 else 0
def cin(m:Nat)(c:UInt8):Bool:=(KX c.toNat &&& m) != 0
def Bf(m:Nat)(t:List UInt8):Nat:=(t.takeWhile (cin m)).length
def F7(m:Nat)(t:List UInt8):Bool:=match t with
 | []=>false
 | c::_=>cin m c
def IK(b:Bool):List UInt8->Nat
 | []=>0
 | c::t =>
   if b then (if c=10 then 1+IK false t else 1+IK true t)
   else if cin 1 c then 1+IK false t
   else if c=47/\t.head?=some 47 then 1+IK true t
   else 0
def Gc(t:List UInt8):Nat:=IK false t
def FM(t:List UInt8)(i:Nat):Bool :=
 if i=4\/i=7 then t[i]? == some 45 else F7 8 (t.drop i)
def EN(t:List UInt8):Bool:=decide (10<=t.length)&&(List.range 10).all (FM t)
def free(t:List UInt8):Bool:=!(F7 30 t||t.head? == some 46)
def IX(t:List UInt8):Nat×Nat :=
 let d:=Bf 8 t
 if EN t then (if free (t.drop 10) then (5,10) else (0,0))
 else if t.head?=some 48/\1 < d then (0,0)
 else if (t.drop d).head?=some 46 then
   (if 10 < d\/F7 8 (t.drop (d+1))=false\/F7 8 (t.drop (d+2))=false then (0,0)
    else if free (t.drop (d+3)) then (4,d+3) else (0,0))
 else if 12 < d then (0,0)
 else if free (t.drop d) then (3,d) else (0,0)
def Fw:List (List UInt8):=[[61,61],[33,61],[60,61],[62,61],[60],[62],[43],[45],[42],[47],[40],[41],[123],[125],[58],[59],[44]]
def Nv(t:List UInt8):List (List UInt8)->Nat×Nat
 | []=>(0,0)
 | y::ys=>if y.isPrefixOf t then (6,y.length) else Nv t ys
def Bt(t:List UInt8):Nat×Nat :=
 if F7 2 t then (if Bf 30 t<=16/\Bf 26 t=Bf 30 t then (1,Bf 30 t) else (0,0))
 else if F7 4 t then (if Bf 30 t=3/\Bf 4 t=Bf 30 t then (2,Bf 30 t) else (0,0))
 else if F7 8 t then IX t
 else Nv t Fw
abbrev Tok:=Nat×List UInt8×Nat
def MC:Nat->Nat->List UInt8->List Tok
 | 0,_,_=>[]
 | n+1,o,t =>
   if t=[] then []
   else if (Bt t).1=0 then [(0,[],o)]
   else ((Bt t).1,t.take (Bt t).2,o) ::
     MC n (o+(Bt t).2+Gc (t.drop (Bt t).2)) ((t.drop (Bt t).2).drop (Gc (t.drop (Bt t).2)))
def Ez(s:List UInt8):List Tok:=MC s.length (Gc s) (s.drop (Gc s))
end LexS
namespace LexS
def Y6(m:Nat):Bf m []=0:=rfl
def D2(m:Nat)(c:UInt8)(t:List UInt8):Bf m (c::t)=if cin m c then 1+Bf m t else 0:=by
 unfold Bf;rw[List.takeWhile_cons];by_cases h:cin m c=true;simp[h];omega;simp[h]
def alU(m:Nat)(t:List UInt8):F7 m (t.drop (Bf m t))=false:=by
 induction t with
 | nil=>rfl
 | cons c t ih =>
   rw[D2];by_cases h:cin m c=true;rw[if_pos h,bmY,bnL];exact ih;rw[if_neg h,List.drop_zero];simp[F7,h]
def MW(m:Nat)(t:List UInt8):Bf m t<=t.length:=by
 unfold Bf;exact(List.takeWhile_prefix _).length_le
def ajX(t:List UInt8):IK false t=Bf 1 t+IK false (t.drop (Bf 1 t)):=by
 induction t with
 | nil=>rfl
 | cons c t ih =>
   rw[D2];by_cases h:cin 1 c=true;rw[if_pos h,bmY 1,bnL,IK];simp only[h,biT,if_false,if_true];omega;rw[if_neg h];simp
def Zv(t:List UInt8)(h:[47,47].isPrefixOf t=true):IK false t=IK true t:=by
 obtain⟨u,rfl⟩:∃u,t=47::47::u:=by
   obtain⟨u,hu⟩:=bkV.1 h;exact⟨u,by simpa using hu.symm⟩
 rw[IK]
 conv=>rhs;rw[IK]
 simp[cin,KX]
def vN(t:List UInt8)(h1:F7 1 t=false)(h:[47,47].isPrefixOf t=false):IK false t=0:=by
 cases t with
 | nil=>rfl
 | cons c t =>
   rw[IK];have h1':cin 1 c=false:=h1;simp only[h1',biT,if_false];rw[if_neg];rintro⟨rfl,h2⟩;cases t with
   | nil=>simp at h2
   | cons d t=>simp at h2;subst h2;simp[List.isPrefixOf] at h
def vM(t:List UInt8):IK true (10::t)=IK false (10::t):=by
 rw[IK,IK];simp[cin,KX]
def aqE(c:UInt8)(t:List UInt8)(h:c≠10):IK true (c::t)=1+IK true t:=by
 rw[IK];simp[h]
def aAG(b:Bool)(t:List UInt8):IK b t<=t.length:=by
 induction t generalizing b with
 | nil=>simp[IK]
 | cons c t ih =>
   rw[IK];have h1:=ih true;have h2:=ih false
   repeat' split
   all_goals simp only[Yy];omega
def cB(t:List UInt8):Gc t<=t.length:=aAG _ _
def NI(b a:List UInt8):b.isPrefixOf a=(a.take b.length == b):=by
 rw[Bool.eq_iff_iff,bkV,List.prefix_iff_eq_take,beq_iff_eq];exact eq_comm
end LexS
namespace LexS
def awT(t:List UInt8)(ys:List (List UInt8))(h:(Nv t ys).1≠0)(hy:∀y∈ys,1<=y.length):1<=(Nv t ys).2/\(Nv t ys).2<=t.length:=by
 induction ys with
 | nil=>simp[Nv] at h
 | cons y ys ih =>
   rw[Nv] at h ⊢;by_cases hp:y.isPrefixOf t=true;rw[if_pos hp];exact⟨hy y (by simp),(bkV.1 hp).length_le⟩;rw[if_neg hp] at h ⊢;exact ih h (λy' h'=>hy y' (by simp[h']))
def Xx(m:Nat)(t:List UInt8)(h:F7 m t=true):1<=Bf m t:=by
 cases t with
 | nil=>simp[F7] at h
 | cons c t=>have h':cin m c=true:=h;rw[D2,if_pos h'];omega
def azH(c:UInt8)(m m':Nat)(h:cin m c=true)(hs:∀k,k=0\/k=1\/k=2\/k=4\/k=8\/k=16->(k &&& m)≠0->(k &&& m')≠0):cin m' c=true:=by
 unfold cin at h ⊢;rw[bne_iff_ne] at h ⊢;refine hs _ ?_ h;unfold KX
 repeat (split;simp)
 simp
def afP(t:List UInt8)(m m':Nat)(h:F7 m t=true)(hs:∀k,k=0\/k=1\/k=2\/k=4\/k=8\/k=16->(k &&& m)≠0->(k &&& m')≠0):F7 m' t=true:=by
 cases t with
 | nil=>simp[F7] at h
 | cons c t=>exact azH c m m' h hs
def aBE(m:Nat)(t:List UInt8)(k:Nat)(h:F7 m (t.drop k)=true):k < t.length:=by
 rcases Nat.lt_or_ge k t.length with hk | hk
 exact hk;rw[List.drop_eq_nil_of_le hk] at h;simp[F7] at h
def aqB(t:List UInt8)(h8:F7 8 t=true)(h:(IX t).1≠0):1<=(IX t).2/\(IX t).2<=t.length:=by
 have hd:=Xx 8 t h8;have hl:=MW 8 t;unfold IX at h ⊢;simp only at h ⊢;by_cases h1:EN t=true;rw[if_pos h1] at h ⊢;by_cases h2:free (t.drop 10)=true;rw[if_pos h2];have:10<=t.length:=by unfold EN at h1;simp at h1;exact h1.1
 exact⟨by simp,this⟩;rw[if_neg h2] at h;simp at h;rw[if_neg h1] at h ⊢;by_cases h2:t.head?=some 48/\1 < Bf 8 t;rw[if_pos h2] at h;simp at h;rw[if_neg h2] at h ⊢;by_cases h3:(t.drop (Bf 8 t)).head?=some 46;rw[if_pos h3] at h ⊢;by_cases h4:10 < Bf 8 t\/F7 8 (t.drop (Bf 8 t+1))=false\/F7 8 (t.drop (Bf 8 t+2))=false;rw[if_pos h4] at h;simp at h;rw[if_neg h4] at h ⊢;by_cases h5:free (t.drop (Bf 8 t+3))=true;rw[if_pos h5]
 have h6:F7 8 (t.drop (Bf 8 t+2))=true:=by
   cases hh:F7 8 (t.drop (Bf 8 t+2)) with
   | true=>rfl
   | false=>exact absurd (.inr (.inr hh)) h4
 have:=aBE 8 t _ h6;exact⟨by simp,by simp only;omega⟩;rw[if_neg h5] at h;simp at h;rw[if_neg h3] at h ⊢;by_cases h4:12 < Bf 8 t;rw[if_pos h4] at h;simp at h;rw[if_neg h4] at h ⊢;by_cases h5:free (t.drop (Bf 8 t))=true;rw[if_pos h5];exact⟨hd,hl⟩;rw[if_neg h5] at h;simp at h
def Ui(t:List UInt8)(h:(Bt t).1≠0):1<=(Bt t).2/\(Bt t).2<=t.length:=by
 have hl:=MW 30 t;unfold Bt at h ⊢;by_cases h2:F7 2 t=true;have hd:=Xx 30 t (afP t 2 30 h2 (by intro k hk;rcases hk with rfl | rfl | rfl | rfl | rfl | rfl<;>decide))
 rw[if_pos h2] at h ⊢;by_cases hc:Bf 30 t<=16/\Bf 26 t=Bf 30 t;rw[if_pos hc];exact⟨hd,hl⟩;rw[if_neg hc] at h;simp at h;rw[if_neg h2] at h ⊢;by_cases h4:F7 4 t=true;have hd:=Xx 30 t (afP t 4 30 h4 (by intro k hk;rcases hk with rfl | rfl | rfl | rfl | rfl | rfl<;>decide))
 rw[if_pos h4] at h ⊢;by_cases hc:Bf 30 t=3/\Bf 4 t=Bf 30 t;rw[if_pos hc];exact⟨hd,hl⟩;rw[if_neg hc] at h;simp at h;rw[if_neg h4] at h ⊢;by_cases h8:F7 8 t=true;rw[if_pos h8] at h ⊢;exact aqB t h8 h;rw[if_neg h8] at h ⊢;exact awT t Fw h (by decide)
def FJ(s:List UInt8)(k:Nat):List Tok:=MC (s.length - k) k (s.drop k)
def ZV(n m o:Nat)(t:List UInt8)(hn:t.length<=n)(hm:t.length<=m):MC n o t=MC m o t:=by
 induction n generalizing m o t with
 | zero =>
   have:t=[]:=by cases t with | nil=>rfl | cons c t=>simp at hn
   subst this;cases m with
   | zero=>rfl
   | succ m=>simp[MC]
 | succ n ih =>
   cases m with
   | zero =>
     have:t=[]:=by cases t with | nil=>rfl | cons c t=>simp at hm
     subst this;simp[MC]
   | succ m =>
     rw[MC,MC];by_cases ht:t=[];rw[if_pos ht,if_pos ht];rw[if_neg ht,if_neg ht];by_cases hz:(Bt t).1=0;rw[if_pos hz,if_pos hz];rw[if_neg hz,if_neg hz];have hp:=Ui t hz;refine congrArg _ (ih m _ _ ?_ ?_);simp only[biR];omega;simp only[biR];omega
def UA(s:List UInt8)(k:Nat)(h:s.length<=k):FJ s k=[]:=by
 unfold FJ;rw[show s.length - k=0 from by omega];rfl
def UB(s:List UInt8)(k:Nat)(h:k < s.length)(hz:(Bt (s.drop k)).1=0):FJ s k=[(0,[],k)]:=by
 unfold FJ;obtain⟨n,hn⟩:∃n,s.length - k=n+1:=⟨s.length - k - 1,by omega⟩;rw[hn,MC,if_neg (by intro e;have:=congrArg blU e;simp at this;omega),if_pos hz]
def QP(s:List UInt8)(k:Nat)(h:k < s.length)(hz:(Bt (s.drop k)).1≠0) :
   FJ s k=((Bt (s.drop k)).1,(s.drop k).take (Bt (s.drop k)).2,k)::FJ s (k+(Bt (s.drop k)).2+Gc (s.drop (k+(Bt (s.drop k)).2))):=by
 have hp:=Ui _ hz;rw[biR] at hp;unfold FJ;obtain⟨n,hn⟩:∃n,s.length - k=n+1:=⟨s.length - k - 1,by omega⟩;rw[hn,MC,if_neg (by intro e;have:=congrArg blU e;simp at this;omega),if_neg hz];refine congrArg _ ?_;rw[bjD,bjD];refine ZV _ _ _ _ ?_ ?_;rw[biR];omega;rw[biR];omega
def Zo(s:List UInt8):Ez s=FJ s (Gc s):=by
 unfold Ez FJ;exact ZV _ _ _ _ (by rw[biR];omega) (by rw[biR];omega)
def Ev:List Tok->List Tok->List Tok×Nat×Nat
 | acc,[]=>(acc,0,0)
 | acc,x::r=>if acc.length=2000 then ([],2,x.2.2) else if x.1=0 then ([],61,x.2.2) else Ev (acc++[x]) r
def Mf(s:List UInt8):List Tok×Nat×Nat:=if 6000 < s.length then ([],2,0) else Ev [] (Ez s)
def SV(l:List Tok):Prop:=l.length<=2000/\∀x∈l,x.1≠0
def ZG(acc q r:List Tok)(h:SV (acc++q)):Ev acc (q++r)=Ev (acc++q) r:=by
 induction q generalizing acc with
 | nil=>simp
 | cons x q ih =>
   rw[List.cons_append,Ev];have h1:=h.1;rw[List.length_append,Yy] at h1;rw[if_neg (by omega),if_neg (h.2 x (by simp))];have:=ih (acc++[x]) (by simpa using h)
   simpa using this
end LexS
