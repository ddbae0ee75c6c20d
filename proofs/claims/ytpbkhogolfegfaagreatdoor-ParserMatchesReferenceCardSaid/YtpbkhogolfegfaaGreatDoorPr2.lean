/- Part of a proof: see the last text. -/
import Derived.Test.YtpbkhogolfegfaaGreatDoorPr1
import Derived.Test.YtpbkhogolfegfaaGreatDoorProg
import Derived.WalkKit
import Derived.WalkLawsBesides
import Derived.WalkSpells
import Derived.Lib.Hide
import Derived.Laws.Rows
import Derived.Recover
import Derived.StillTailTactics
import Derived.Deep.RegionHeld3
import Derived.Test.YtpbkhogolfegfaaGreatDoorChecked
set_option linter.all false
noncomputable section
open Array renaming all_eq_true_iff_forall_mem->blE,getElem?_eq_none->bmM,getElem?_eq_some_iff->aPB,length_toList->biR,replicate->bkJ
open Bool renaming and_eq_true->bhB,and_eq_true_iff->bkH,false_eq_true->biF
open ByteArray renaming empty->gT
open Go.Act renaming eval->brL
open Go.Ending renaming returned->bnL
open Go.Exit renaming thenS->bnZ
open Go.Instr renaming makeFunc->bsR
open Go.Lib renaming hid->bhH
open Go.Oper renaming upon->btE
open Go.Region renaming ready->bnR
open Go.Result renaming andThen_ok->biD
open Go.Sem renaming run_bind->biG
open Go.World renaming cell?->bjZ,cell?_of_block->bmB,frozen?->bnF,size_alloc->bkD
open Int renaming eq_ofNat_of_zero_le->blA,toNat_natCast->biN
open List renaming drop_drop->biU,drop_succ_cons->bnC,ext_getElem?->blO,getElem?_append_left->bhD,getElem?_eq_getElem->aBD,getElem?_eq_none->bjE,getElem?_eq_some_iff->aBC,getElem?_of_mem->bmD,getElem?_set_ne->bjB,isPrefixOf_iff_prefix->bkE,length->bmC,length_cons->bhE,length_drop->bhI,length_map->biE,map_snd_zip->brW,mem_append->biI,mem_cons_of_mem->biB,mem_cons_self->biK,mem_iff_getElem?->bkN,mem_map->bkR,mem_of_getElem?->aWR,prefix_append->blW,setIfInBounds_toArray->bmU,set_append_right->blH,set_cons_succ->bpA,set_cons_zero->boZ,set_set->brN,takeWhile_cons->bmG,takeWhile_prefix->bqM
open List.cons renaming sizeOf_spec->bmS
open Nat renaming add_comm->bmP,beq->biS,eq_of_beq_eq_true->bjK,le_of_lt->boP,le_trans->biP,lt_of_lt_of_le->beL,lt_succ_self->bjQ,not_lt_zero->bmA,zero_add->bhC
open Option.some renaming inj->biA,injEq->atS
open SizeOf renaming sizeOf->bpS
namespace Go.Proofs.YtpbkhogolfegfaaGreatDoor
open AI Go Go.RowKit
def abZ(x y z:Value)(w:World) :
   CallsD Tryz.prog 68 #[x,y,z] .returning w λe u' w'=>e=.returned (.tuple #[])/\u'=.returning/\w'=w:=by
 refine callsD_of_wpS Tryz.func68 rfl λc₀ cs hu=>?_;apply wpS_seq;apply wpS_region;simp[wpOpsS,go_sem,recoverD,hu,Tryz.ntmps68,bnZ];apply wpS_seq;apply wpS_region;simp[wpOpsS,go_sem,bnZ];refine wpS_cond (t:=false) (by simp[brL,bkJ]) ?_;simp only[biF,if_false];refine wpS_of_wp (wp_skip ?_);cases c₀;simp_all [bodyPostS,results,Tryz.results68]
def pD(a b:Int)(w:World):(Instr.typeAssert (.iface 45 (.agg #[.int .i64 a,.int .i64 b])) 20 45 true).run Tryz.prog w=.ok (.tuple #[.agg #[.int .i64 a,.int .i64 b],.bool true]) w:=by kernel_rfl
def SZ:Array Value:=#[.int .i64 0,.string ⟨#[]⟩,.string ⟨#[]⟩,.int .i64 0,.int .i64 0,.int .i64 0,.int .i64 0,.int .i64 0,.slice none 0 0,.slice none 0 0,.int .i64 0]
def aKK{P:Program}{md:Region.Mode}{Q:Exit->Act->World->Prop}{S:World->Prop}{l:List Oper}{i:Nat}{oi:Oper}{v:Value}{fuel:Nat}{listed:Array Bool}{a:Act}{w:World}(hi:l[i]?=some oi)
   (hs:Region.noSelect l.toArray=true) (hf:Region.free md l.toArray listed i=true) (hr:(bnR md l.toArray listed).contains i=true)
   (hQ:∀c a w,Q (.panic c) (a.put oi.dst v) w->Q (.panic c) a w) (hy:YieldsIf P l.toArray S oi v a) (hS:S w)
   (h:wpAnyH P md l.toArray Q S fuel (listed.setIfInBounds i true) (a.put oi.dst v) w):wpAnyH P md l.toArray Q S (fuel+1) listed a w :=
 wpAnyH_take (by simpa using hi) hs hf hr hQ hy hS h
def adX{P:Program}{md:Region.Mode}{Q:Exit->Act->World->Prop}{S:World->Prop}{l:List Oper}{i:Nat}{o:Oper}{fuel:Nat}{listed:Array Bool}{a:Act}{w:World}(hr:bnR md l.toArray listed=[i])(ho:l[i]?=some o)
   (h:∀K':Act->World->Prop,Shut (∀a w,S w->(S w->wpAnyH P md l.toArray Q S fuel (listed.setIfInBounds i true) a w)->K' a w)->if Region.wanted o (yielded l.toArray a.tmps)=true then Oper.wp P o a w K' Q else K' (a.put o.dst undef) w):
   wpAnyH P md l.toArray Q S (fuel+1) listed a w :=
 wpAnyH_ready hr (by simp) (AllReadyH.cons (by simpa using ho) h AllReadyH.nil)
def awS(P:Program)(w:World)(g:Nat)(t:TypeId)(old cells:Array Value)(hg:w.heap[g]?=some (.cells old t (0,0)))(ho:old.size=cells.size)(h1:cells.all (·.oneCell')=true):(storeCells ⟨g,0,none⟩ cells.toList).run P w=.ok () (w.setRow g cells):=by
 have:=run_storeCells_from (P:=P) g t cells.toList 0 old w hg (by simp;omega) (λv hv=>(blE.1 h1) v (by simpa using hv))
 simpa using this
def anX(n d o:Nat)(a b:Int)(w w':World):Prop :=
 w'.heap[n]?=some (.cells SZ 29 (0,0))/\w'.heap[d]?=some (.cells #[.int .i64 a,.int .i64 b] 45 (0,0))/\w'.heap[o]?=some (.cells #[.bool false] 4 (0,0))/\Ut w w' (λk=>k=n\/k=d\/k=o)
set_option maxRecDepth 20000 in
set_option maxHeartbeats 4000000 in
def abY(n d o:Nat)(a b:Int)(older:List PanicEntry)(w:World)(zn zd zo:Array Value)(hnd:n≠d)(hno:n≠o)(hdo:d≠o)
   (hn:w.heap[n]?=some (.cells zn 29 (0,0))) (hd:w.heap[d]?=some (.cells zd 45 (0,0))) (ho:w.heap[o]?=some (.cells zo 4 (0,0))) (kn:zn.size=11) (kd:zd.size=2) (ko:zo.size=1):
   CallsD Tryz.prog 68 #[.pointer (some ⟨n,0,none⟩),.pointer (some ⟨d,0,none⟩),.pointer (some ⟨o,0,none⟩)] (.panicking ({ v:=.iface 45 (.agg #[.int .i64 a,.int .i64 b]),recovered:=false }::older)) w λe u' w'=>
    e=.returned (.tuple #[])/\u'=.panicking ({ v:=.iface 45 (.agg #[.int .i64 a,.int .i64 b]),recovered:=true }::older)/\anX n d o a b w w':=by
 have ln:n < w.heap.size:=(aPB.1 hn).1;have ld:d < w.heap.size:=(aPB.1 hd).1;have lo:o < w.heap.size:=(aPB.1 ho).1;have HN:=bhH hn;have HD:=bhH hd;have HO:=bhH ho;have KK:=bhH (And.intro kn (And.intro kd ko));clear hn hd ho kn kd ko;refine callsD_of_wpS Tryz.func68 rfl λc₀ cs hu=>?_;apply wpS_seq;apply wpS_region;simp[wpOpsS,go_sem,recoverD,hu,Tryz.ntmps68,bnZ];clear hu;have hta:=pD a b;apply wpS_seq;apply wpS_region;simp[wpOpsS,go_sem,bnZ];refine wpS_cond (t:=true) (by simp[brL,bkJ]) ?_;simp only[if_true];apply wpS_seq;apply wpS_region;simp[wpOpsS,go_sem,bnZ,pD];apply wpS_seq;apply wpS_seq;apply wpS_region;simp[wpOpsS,go_sem,bnZ];refine wpS_cond (t:=false) (by simp[brL,bkJ]) ?_;simp only[biF,if_false];refine wpS_of_wp (wp_skip ?_);simp only[bnZ];refine wpS_of_wp ?_;clear hta;have hf:=heap_alloc_new w (.cells #[.int .i64 a,.int .i64 b] 45);have HB:Ut w (w.alloc (.cells #[.int .i64 a,.int .i64 b] 45)) (λ_=>False):=PU w _;generalize w.alloc (.cells #[.int .i64 a,.int .i64 b] 45)=w1 at hf HB ⊢;have hn1:w1.heap[n]?=some (.cells zn 29 (0,0)):=(HB.block n ln id).trans HN.out;have hd1:w1.heap[d]?=some (.cells zd 45 (0,0)):=(HB.block d ld id).trans HD.out;have ho1:w1.heap[o]?=some (.cells zo 4 (0,0)):=(HB.block o lo id).trans HO.out;clear HN HD HO;refine wp_region_held_drew (S:=λv=>v.heap[w.heap.size]?=some (.cells #[.int .i64 a,.int .i64 b] 45 (0,0))/\Ut w v (λk=>k=n\/k=d\/k=o)) (by kernel_rfl) ⟨hf,⟨HB.os,HB.tape,HB.output,HB.size,λk hk _=>HB.block k hk id⟩⟩ (λhHeld=>?_);have hw1:w1.drew.heap=w1.heap:=rfl;rw[<- hw1] at hn1 hd1 ho1;generalize w1.drew=w2 at hHeld hn1 hd1 ho1 ⊢;clear hw1 hf HB w1;refine aKK (i:=0) (v:=.agg SZ) rfl (by kernel_rfl) (by kernel_rfl) (by kernel_rfl) (λ_ _ _ h=>h) (Or.inl ⟨by rfl,?_⟩) hHeld ?_
 ·intro v hv;go_simp;rfl
 try simp only[Act.put,bmU,boZ,bpA]
 refine aKK (i:=1) (v:=.agg #[.int .i64 a,.int .i64 b]) rfl (by kernel_rfl) (by kernel_rfl) (by kernel_rfl) (λ_ _ _ h=>h) (Or.inl ⟨by rfl,?_⟩) hHeld ?_
 ·intro v hv
  have g0:v.cell? ⟨w.heap.size,0,none⟩=some (.int .i64 a):=by simp[bjZ,hv.1]
  have g1:v.cell? ⟨w.heap.size,1,none⟩=some (.int .i64 b):=by simp[bjZ,hv.1]
  go_simp
 try simp only[Act.put,bmU,boZ,bpA]
 refine adX (i:=2) (by kernel_rfl) rfl (λK hK=>?_)
 go_simp
 have hne:w.heap.size≠n:=by omega
 have c1:=IM w2 n SZ;have s1:=setRow_heap w2 n _ SZ _ _ hn1;have t1:(w2.setRow n SZ).heap[d]?=some (.cells zd 45 (0,0)):=(c1.block d (beL ld hHeld.2.size) (λe=>hnd e.symm)).trans hd1;have u1:(w2.setRow n SZ).heap[o]?=some (.cells zo 4 (0,0)):=(c1.block o (beL lo hHeld.2.size) (λe=>hno e.symm)).trans ho1;have f1:(w2.setRow n SZ).heap[w.heap.size]?=some (.cells #[.int .i64 a,.int .i64 b] 45 (0,0)):=(c1.block _ (aPB.1 hHeld.1).1 hne).trans hHeld.1;have C1:Ut w (w2.setRow n SZ) (λk=>k=n\/k=d\/k=o):=⟨c1.os.trans hHeld.2.os,c1.tape.trans hHeld.2.tape,c1.output.trans hHeld.2.output,biP hHeld.2.size c1.size,λk hk hq=>(c1.block k (beL hk hHeld.2.size) (λe=>hq (.inl e))).trans (hHeld.2.block k hk hq)⟩;rw[if_pos (by rfl),awS _ _ _ _ _ SZ hn1 KK.out.1 (by kernel_rfl)];simp only[biD,btE];refine hK.out _ _ ⟨f1,C1⟩ λ_=>?_;clear hK K hHeld hn1 hd1 ho1 c1;generalize w2.setRow n SZ=w3 at s1 t1 u1 f1 C1 ⊢;refine adX (i:=3) (by kernel_rfl) rfl (λK hK=>?_)
 go_simp
 have c2:=IM w3 d #[.int .i64 a,.int .i64 b];have s2:=setRow_heap w3 d _ #[.int .i64 a,.int .i64 b] _ _ t1;have t2:(w3.setRow d #[.int .i64 a,.int .i64 b]).heap[n]?=some (.cells SZ 29 (0,0)):=(c2.block n (beL ln C1.size) hnd).trans s1;have u2:(w3.setRow d #[.int .i64 a,.int .i64 b]).heap[o]?=some (.cells zo 4 (0,0)):=(c2.block o (beL lo C1.size) (λe=>hdo e.symm)).trans u1;have f2:(w3.setRow d #[.int .i64 a,.int .i64 b]).heap[w.heap.size]?=some (.cells #[.int .i64 a,.int .i64 b] 45 (0,0)):=(c2.block _ (aPB.1 f1).1 (by omega)).trans f1;have C2:Ut w (w3.setRow d #[.int .i64 a,.int .i64 b]) (λk=>k=n\/k=d\/k=o):=⟨c2.os.trans C1.os,c2.tape.trans C1.tape,c2.output.trans C1.output,biP C1.size c2.size,λk hk hq=>(c2.block k (beL hk C1.size) (λe=>hq (.inr (.inl e)))).trans (C1.block k hk hq)⟩
 obtain⟨x0,x1,hzd⟩:∃x0 x1,zd=#[x0,x1]:=by
  obtain⟨l⟩:=zd;have hl:l.length=2:=KK.out.2.1
  match l,hl with|[x0,x1],_=>exact⟨x0,x1,rfl⟩
 have t1:=hzd▸t1;have p0:w3.cell? ⟨d,0,none⟩=some x0:=by simp[bjZ,t1]
 have q0:w3.frozen? ⟨d,0,none⟩=false:=by simp[bnF,t1]
 have e0:w3.setCell ⟨d,0,none⟩ (.int .i64 a)=w3.setRow d #[.int .i64 a,x1]:=setCell_eq_setRow w3 _ 0 _ _ _ _ t1;have r0:=setRow_heap w3 d _ #[.int .i64 a,x1] _ _ t1;have p1:(w3.setRow d #[.int .i64 a,x1]).cell? ⟨d,1,none⟩=some x1:=by simp[bjZ,r0]
 have q1:(w3.setRow d #[.int .i64 a,x1]).frozen? ⟨d,1,none⟩=false:=by simp[bnF,r0]
 have e1:(w3.setRow d #[.int .i64 a,x1]).setCell ⟨d,1,none⟩ (.int .i64 b)=(w3.setRow d #[.int .i64 a,x1]).setRow d #[.int .i64 a,.int .i64 b]:=setCell_eq_setRow _ _ 1 _ _ _ _ r0;simp only[p0,q0,e0,biF,if_false,biD,p1,q1,e1,setRow_setRow,btE];refine hK.out _ _ ⟨f2,C2⟩ λ_=>?_;clear hK K s1 t1 u1 f1 C1 c2;generalize w3.setRow d #[.int .i64 a,.int .i64 b]=w4 at s2 t2 u2 f2 C2 ⊢;refine adX (i:=4) (by kernel_rfl) rfl (λK hK=>?_)
 go_simp
 obtain⟨z0,hz0⟩:∃z0,zo=#[z0]:=Array.size_eq_one_iff.1 KK.out.2.2;subst hz0;have c3:=IM w4 o #[.bool false];have s3:=setRow_heap w4 o _ #[.bool false] _ _ u2;have e3:w4.setCell ⟨o,0,none⟩ (.bool false)=w4.setRow o #[.bool false]:=setCell_eq_setRow w4 _ 0 _ _ _ _ u2;have t3:(w4.setRow o #[.bool false]).heap[n]?=some (.cells SZ 29 (0,0)):=(c3.block n (beL ln C2.size) hno).trans t2;have u3:(w4.setRow o #[.bool false]).heap[d]?=some (.cells #[.int .i64 a,.int .i64 b] 45 (0,0)):=(c3.block d (beL ld C2.size) hdo).trans s2;have f3:(w4.setRow o #[.bool false]).heap[w.heap.size]?=some (.cells #[.int .i64 a,.int .i64 b] 45 (0,0)):=(c3.block _ (aPB.1 f2).1 (by omega)).trans f2;have C3:Ut w (w4.setRow o #[.bool false]) (λk=>k=n\/k=d\/k=o):=⟨c3.os.trans C2.os,c3.tape.trans C2.tape,c3.output.trans C2.output,biP C2.size c3.size,λk hk hq=>(c3.block k (beL hk C2.size) (λe=>hq (.inr (.inr e)))).trans (C2.block k hk hq)⟩;have k0:w4.cell? ⟨o,0,none⟩=some z0:=by simp[bjZ,u2]
 have k1:w4.frozen? ⟨o,0,none⟩=false:=by simp[bnF,u2]
 simp only[k0,k1,e3,biF,if_false,biD,btE];refine hK.out _ _ ⟨f3,C3⟩ λ_=>?_;refine wpAnyH_done (by kernel_rfl) ?_ _;have hC:anX n d o a b w (w4.setRow o #[.bool false]):=⟨t3,u3,s3,C3⟩;clear t3 u3 s3 f3 C3 c3 e3 k0 k1 s2 t2 u2 f2 C2 hK KK;generalize w4.setRow o #[.bool false]=w5 at hC ⊢;cases c₀;simp_all [bodyPostS,results,Tryz.results68];rfl
def JL(w:World):World:=((w.alloc (.cells SZ 29)).alloc (.cells #[.int .i64 0,.int .i64 0] 45)).alloc (.cells #[.bool false] 4)
def axW(w:World):(JL w).heap[w.heap.size]?=some (.cells SZ 29 (0,0)):=by unfold JL;rw[heap_alloc_old _ _ (by simp;omega),heap_alloc_old _ _ (by simp),heap_alloc_new]
def axX(w:World):(JL w).heap[w.heap.size+1]?=some (.cells #[.int .i64 0,.int .i64 0] 45 (0,0)):=by unfold JL;rw[heap_alloc_old _ _ (by simp),heap_alloc2_new]
def axY(w:World):(JL w).heap[w.heap.size+1+1]?=some (.cells #[.bool false] 4 (0,0)):=by unfold JL;have:=heap_alloc_new ((w.alloc (.cells SZ 29)).alloc (.cells #[.int .i64 0,.int .i64 0] 45)) (.cells #[.bool false] 4);rwa[bkD,bkD] at this
set_option maxRecDepth 20000 in
set_option maxHeartbeats 4000000 in
def axZ(g:Nat)(hg:N9 Tryz.prog g=true)(fs cs:Array Value)(w:World)(R:Array Value->World->Prop)
   (hR:∀xs w',R xs w'->(xs.size=11/\xs.all (·.oneCell')=true)/\w'.heap[w.heap.size]?=(JL w).heap[w.heap.size]?/\w'.heap[w.heap.size+1]?=(JL w).heap[w.heap.size+1]?/\w'.heap[w.heap.size+1+1]?=(JL w).heap[w.heap.size+1+1]?)
   (hC:Calls Tryz.prog g (fs++cs) (JL w) λe w'=>∃xs,e=.returned (.agg xs)/\R xs w'):
   Calls Tryz.prog 35 #[.func (.func g) fs cs] w λe w2=>∃xs w',R xs w'/\e=.returned (.tuple #[.agg xs,.agg #[.int .i64 0,.int .i64 0],.bool true])/\Ut w' w2 (mD w (JL w)):=by
 have hmf:∀(fn:Fn)(first cap:Array Value)(w:World),(bsR fn first cap).run Tryz.prog w=.ok (.func fn first cap) w:=λ_ _ _ _=>rfl
 have hen:=λargs w=>UI (w:=w) hg args;have HC:=bhH hC;have HR:=bhH hR;clear hC hR
 go_enter_defers Tryz.func35,Tryz.ntmps35
 go_wp2_with fail
 refine HC.out.mono ?_;clear HC;rintro e w1 ⟨xs,rfl,hr⟩;obtain⟨⟨hx,hone⟩,k0,k1,k2⟩:=HR.out xs w1 hr;clear HR;have HB:=bhH hr;clear hr
 have e0:w1.heap[w.heap.size]?=some (.cells #[.int .i64 0,.string ⟨#[]⟩,.string ⟨#[]⟩,.int .i64 0,.int .i64 0,.int .i64 0,.int .i64 0,.int .i64 0,.slice none 0 0,.slice none 0 0,.int .i64 0] 29 (0,0)):=by rw[k0];exact axW w
 have e1:w1.heap[w.heap.size+1]?=some (.cells #[.int .i64 0,.int .i64 0] 45 (0,0)):=by rw[k1];exact axX w
 have e2:w1.heap[w.heap.size+1+1]?=some (.cells #[.bool false] 4 (0,0)):=by rw[k2];exact axY w
 have hl2:w.heap.size+1+1 < w1.heap.size:=(aPB.1 e2).1;obtain⟨wa,hwa⟩:∃wa,wa=w1.setRow w.heap.size xs:=⟨_,rfl⟩;have ca:=IM w1 w.heap.size xs;rw[<- hwa] at ca
 have f1:wa.heap[w.heap.size+1]?=some (.cells #[.int .i64 0,.int .i64 0] 45 (0,0)):=by rw[ca.block _ (by omega) (by omega)];exact e1
 have f2:wa.heap[w.heap.size+1+1]?=some (.cells #[.bool false] 4 (0,0)):=by rw[ca.block _ (by omega) (by omega)];exact e2
 have f0:wa.heap[w.heap.size]?=some (.cells xs 29 (0,0)):=by rw[hwa];exact setRow_heap w1 _ _ _ _ _ e0
 have s0:wa.setCell ⟨w.heap.size+1,0,none⟩ (.int .i64 0)=wa.setRow (w.heap.size+1) #[.int .i64 0,.int .i64 0]:=setCell_eq_setRow wa _ 0 _ _ _ _ f1;obtain⟨wd,hwd⟩:∃wd,wd=wa.setCell ⟨w.heap.size+1,0,none⟩ (.int .i64 0):=⟨_,rfl⟩;have cd:=IM wa (w.heap.size+1) #[.int .i64 0,.int .i64 0]
 have fd1:wd.heap[w.heap.size+1]?=some (.cells #[.int .i64 0,.int .i64 0] 45 (0,0)):=by rw[hwd,s0];exact setRow_heap wa _ _ _ _ _ f1
 have s1:wd.setCell ⟨w.heap.size+1,1,none⟩ (.int .i64 0)=wd.setRow (w.heap.size+1) #[.int .i64 0,.int .i64 0]:=setCell_eq_setRow wd _ 1 _ _ _ _ fd1;rw[<- s0,<- hwd] at cd;obtain⟨wb,hwb⟩:∃wb,wb=wd.setCell ⟨w.heap.size+1,1,none⟩ (.int .i64 0):=⟨_,rfl⟩;have cb:=IM wd (w.heap.size+1) #[.int .i64 0,.int .i64 0];rw[<- s1,<- hwb] at cb;have hld:w.heap.size+1 < wd.heap.size:=(aPB.1 fd1).1;have d0:wa.cell? ⟨w.heap.size+1,0,none⟩=some (.int .i64 0):=by simp[bjZ,f1]
 have d1:(wa.setCell ⟨w.heap.size+1,0,none⟩ (.int .i64 0)).cell? ⟨w.heap.size+1,1,none⟩=some (.int .i64 0):=by rw[<- hwd];simp[bjZ,fd1]
 have z0:wa.frozen? ⟨w.heap.size+1,0,none⟩=false:=by simp[bnF,f1]
 have z1:(wa.setCell ⟨w.heap.size+1,0,none⟩ (.int .i64 0)).frozen? ⟨w.heap.size+1,1,none⟩=false:=by rw[<- hwd];simp[bnF,fd1]
 have hla:w.heap.size+1+1 < wa.heap.size:=(aPB.1 f2).1
 have g0:wb.heap[w.heap.size]?=some (.cells xs 29 (0,0)):=by rw[cb.block _ (by omega) (by omega),cd.block _ (by omega) (by omega)];exact f0
 have g1:wb.heap[w.heap.size+1]?=some (.cells #[.int .i64 0,.int .i64 0] 45 (0,0)):=by rw[hwb,s1];exact setRow_heap wd _ _ _ _ _ fd1
 have g2:wb.heap[w.heap.size+1+1]?=some (.cells #[.bool false] 4 (0,0)):=by rw[cb.block _ (by have:=cd.size;omega) (by omega),cd.block _ (by omega) (by omega)];exact f2
 have c2:((wa.setCell ⟨w.heap.size+1,0,none⟩ (.int .i64 0)).setCell ⟨w.heap.size+1,1,none⟩ (.int .i64 0)).cell? ⟨w.heap.size+1+1,0,none⟩=some (.bool false):=by rw[<- hwd,<- hwb];simp[bjZ,g2]
 have z2:((wa.setCell ⟨w.heap.size+1,0,none⟩ (.int .i64 0)).setCell ⟨w.heap.size+1,1,none⟩ (.int .i64 0)).frozen? ⟨w.heap.size+1+1,0,none⟩=false:=by rw[<- hwd,<- hwb];simp[bnF,g2]
 have hsz:(Tryz.prog.info? 29).map (·.size)=some xs.size:=by rw[hx];kernel_rfl
 have E0:=bhH e0;have HS:=bhH hsz;have HX:=bhH hx;have HO:=bhH hone;have HWA:=bhH hwa;have HWB:=bhH hwb;have HWD:=bhH hwd;have CD:=bhH cd;have G0:=bhH g0;have G1:=bhH g1;have G2:=bhH g2;have CA:=bhH ca;have CB:=bhH cb;have HL:=bhH (And.intro hl2 hla);clear e0 e1 e2 f0 f1 f2 g0 g1 g2 hsz hx hone hwa hwb hwd s0 s1 fd1 hld ca cb cd k0 k1 k2 hl2 hla
 go_wp2_with (refine wpList_store_row rfl 29 _ _ rfl w.heap.size xs rfl rfl 29 _ E0.out HS.out (by rw[HX.out];rfl) HO.out ?_;rw[<- HWA.out])
 rw[<- HWD.out,<- HWB.out];have s2:wb.setCell ⟨w.heap.size+1+1,0,none⟩ (.bool true)=wb.setRow (w.heap.size+1+1) #[.bool true]:=setCell_eq_setRow wb _ 0 _ _ _ _ G2.out;have cc:=IM wb (w.heap.size+1+1) #[.bool true];have h2:=setRow_heap wb (w.heap.size+1+1) _ #[.bool true] _ _ G2.out;rw[s2];generalize wb.setRow (w.heap.size+1+1) #[.bool true]=wc at cc h2;have hl:=HL.out;have hlb:=CB.out.size;have hld:=CD.out.size;have h0:wc.heap[w.heap.size]?=some (.cells xs 29 (0,0)):=by rw[cc.block _ (by omega) (by omega)];exact G0.out
 have h1:wc.heap[w.heap.size+1]?=some (.cells #[.int .i64 0,.int .i64 0] 45 (0,0)):=by rw[cc.block _ (by omega) (by omega)];exact G1.out
 refine leaves_cons (f:=68) (args:=#[.pointer (some ⟨w.heap.size,0,none⟩),.pointer (some ⟨w.heap.size+1,0,none⟩),.pointer (some ⟨w.heap.size+1+1,0,none⟩)]) (by simp) (by simp[go_sem]) ?_;refine(abZ _ _ _ _).mono ?_;rintro e u' w2 ⟨rfl,rfl,rfl⟩;show Leaves _ _ _ _ [] .returning _;have l0:=run_loadVar_row (P:=Tryz.prog) w2 w.heap.size _ 29 xs _ _ h0 Tryz.underlying29 rfl HS.out;have l1:=run_loadVar_row (P:=Tryz.prog) w2 (w.heap.size+1) _ 45 #[.int .i64 0,.int .i64 0] _ _ h1 Tryz.underlying45 rfl (by kernel_rfl);have l2:w2.cell? ⟨w.heap.size+1+1,0,none⟩=some (.bool true):=by simp[bjZ,h2]
 refine⟨.tuple #[.agg xs,.agg #[.int .i64 0,.int .i64 0],.bool true],?_,xs,w1,HB.out,rfl,?_⟩
 ·have l3:(loadVar 4 ⟨w.heap.size+1+1,0,none⟩).run Tryz.prog w2=.ok (.bool true) w2:=by simp[go_sem,l2]
  rw[Xk,Tryz.results35];simp[amJ,asAddr,biG,l0,l1,l3]
 ·have hk:∀k,w1.heap.size > k->¬mD w (JL w) k->k≠w.heap.size/\k≠w.heap.size+1/\k≠w.heap.size+1+1:=by
   intro k _ hn;have hs:(JL w).heap.size=w.heap.size+1+1+1:=by unfold JL;simp
   refine⟨λe=>hn ?_,λe=>hn ?_,λe=>hn ?_⟩<;>subst e<;>refine⟨?_,?_⟩<;>omega
  have ca:=CA.out;have cd:=CD.out;have cb:=CB.out;refine⟨cc.os.trans (cb.os.trans (cd.os.trans ca.os)),cc.tape.trans (cb.tape.trans (cd.tape.trans ca.tape)),cc.output.trans (cb.output.trans (cd.output.trans ca.output)),biP ca.size (biP hld (biP hlb cc.size)),λk hk1 hk2=>?_⟩;obtain⟨n0,n1,n2⟩:=hk k hk1 hk2;rw[cc.block k (by have:=ca.size;omega) n2,cb.block k (by have:=ca.size;omega) n1,cd.block k (by have:=ca.size;omega) n1,ca.block k hk1 n0]
set_option maxRecDepth 20000 in
set_option maxHeartbeats 4000000 in
def aFR(g:Nat)(hg:N9 Tryz.prog g=true)(fs cs:Array Value)(w:World)(R:Int->Int->World->Prop)
   (hR:∀a b w',R a b w'->w'.heap[w.heap.size]?=(JL w).heap[w.heap.size]?/\w'.heap[w.heap.size+1]?=(JL w).heap[w.heap.size+1]?/\w'.heap[w.heap.size+1+1]?=(JL w).heap[w.heap.size+1+1]?)
   (hC:Calls Tryz.prog g (fs++cs) (JL w) λe w'=>∃a b,e=.panicked [{ v:=.iface 45 (.agg #[.int .i64 a,.int .i64 b]),recovered:=false }]/\R a b w'):
   Calls Tryz.prog 35 #[.func (.func g) fs cs] w λe w2=>∃a b w',R a b w'/\e=.returned (.tuple #[.agg SZ,.agg #[.int .i64 a,.int .i64 b],.bool false])/\Ut w' w2 (mD w (JL w)):=by
 have hmf:∀(fn:Fn)(first cap:Array Value)(w:World),(bsR fn first cap).run Tryz.prog w=.ok (.func fn first cap) w:=λ_ _ _ _=>rfl
 have hen:=λargs w=>UI (w:=w) hg args;have HC:=bhH hC;have HR:=bhH hR;clear hC hR
 go_enter_defers Tryz.func35,Tryz.ntmps35
 go_wp2_with fail
 refine HC.out.mono ?_;clear HC;rintro e w1 ⟨a,b,rfl,hr⟩;obtain⟨k0,k1,k2⟩:=HR.out a b w1 hr;clear HR;have e0:w1.heap[w.heap.size]?=some (.cells SZ 29 (0,0)):=by rw[k0];exact axW w
 have e1:w1.heap[w.heap.size+1]?=some (.cells #[.int .i64 0,.int .i64 0] 45 (0,0)):=by rw[k1];exact axX w
 have e2:w1.heap[w.heap.size+1+1]?=some (.cells #[.bool false] 4 (0,0)):=by rw[k2];exact axY w
 refine leaves_cons (f:=68) (args:=#[.pointer (some ⟨w.heap.size,0,none⟩),.pointer (some ⟨w.heap.size+1,0,none⟩),.pointer (some ⟨w.heap.size+1+1,0,none⟩)]) (by simp) (by simp[go_sem]) ?_;refine(abY w.heap.size (w.heap.size+1) (w.heap.size+1+1) a b [] w1 _ _ _ (by omega) (by omega) (by omega) e0 e1 e2 rfl rfl rfl).mono ?_;rintro e u' w2 ⟨rfl,rfl,h0,h1,h2,hc⟩;show Leaves _ _ _ _ [] .returning _;have l0:=run_loadVar_row (P:=Tryz.prog) w2 w.heap.size _ 29 SZ _ _ h0 Tryz.underlying29 rfl (by kernel_rfl);have l1:=run_loadVar_row (P:=Tryz.prog) w2 (w.heap.size+1) _ 45 #[.int .i64 a,.int .i64 b] _ _ h1 Tryz.underlying45 rfl (by kernel_rfl);have l2:w2.cell? ⟨w.heap.size+1+1,0,none⟩=some (.bool false):=by simp[bjZ,h2]
 refine⟨.tuple #[.agg SZ,.agg #[.int .i64 a,.int .i64 b],.bool false],?_,a,b,w1,hr,rfl,?_⟩
 ·have l3:(loadVar 4 ⟨w.heap.size+1+1,0,none⟩).run Tryz.prog w2=.ok (.bool false) w2:=by simp[go_sem,l2]
  rw[Xk,Tryz.results35];simp[amJ,asAddr,biG,l0,l1,l3]
 ·refine⟨hc.os,hc.tape,hc.output,hc.size,λk hk1 hk2=>hc.block k hk1 (λe=>hk2 ?_)⟩
  have hs:(JL w).heap.size=w.heap.size+1+1+1:=by unfold JL;simp
  rcases e with rfl | rfl | rfl<;>refine⟨?_,?_⟩<;>omega
def baS:CR->Option CR
 |.ret (.agg cs)=>(match biS cs.length 11 with
  |true=>(match cs.all one with|true=>some (.ret (.Gx [.agg cs,.agg [.sc (.int .i64 0),.sc (.int .i64 0)],.sc (.bool true)]))|false=>none)
  |false=>none)
 |.pan (.ifc t (.agg [.sc (.int .i64 a),.sc (.int .i64 b)]))=>(match biS t 45 with|true=>some (.ret (.Gx [.agg [.sc (.int .i64 0),.sc (.string gT),.sc (.string gT),.sc (.int .i64 0),.sc (.int .i64 0),.sc (.int .i64 0),.sc (.int .i64 0),.sc (.int .i64 0),.sl .lost 0 [],.sl .lost 0 [],.sc (.int .i64 0)],.agg [.sc (.int .i64 a),.sc (.int .i64 b)],.sc (.bool false)]))|false=>none)
 |_=>none
def VJ{G:AN}{g:FuncId}(hg:N9 Tryz.prog g=true){first caps:List AV}{s s':AS}{r r':CR}(h:Sound Tryz.prog G (.call g (first++[]++caps) s r s'))(hk:baS r=some r'):Sound Tryz.prog G (.call 35 [.fn (.func g) first caps] s r' s'):=by
 unfold baS at hk;split at hk
 ·rename_i cs
  split at hk
  ·rename_i hn
   split at hk
   ·rename_i ho
    cases hk;intro cx w vs hs ha;cases ha with
    |cons h1 t=>
    cases t;cases h1 with
    |fn hf hc=>
    rename_i us vs
    have k:Ut w (JL w) (λ_=>False):=by have k1:=PU w (.cells #[.int .i64 0,.string ⟨#[]⟩,.string ⟨#[]⟩,.int .i64 0,.int .i64 0,.int .i64 0,.int .i64 0,.int .i64 0,.slice none 0 0,.slice none 0 0,.int .i64 0] 29);exact⟨rfl,rfl,rfl,by unfold JL;simp;omega,λq hq _=>by unfold JL;rw[heap_alloc_old _ _ (by simp;omega),heap_alloc_old _ _ (by simp;omega),heap_alloc_old _ _ hq]⟩
    have hsv:=aiV hs k;have hm:=YM (cx:=cx) k;have hC:=h (cx.mM w (JL w)) (JL w) (us++vs) hsv (by simpa using (hf.DL hm).append (hc.DL hm))
    have e1:(us++vs).toArray=us.toArray++vs.toArray:=by simp
    rw[e1] at hC;refine(axZ g hg us.toArray vs.toArray w (λxs w'=>∃c',Ext (cx.mM w (JL w)) (JL w) c' w'/\St G c' w' s'/\Cw c' w' cs xs.toList) ?_ (hC.mono ?_)).mono ?_
    ·rintro xs w' ⟨c',hx,_,hr⟩
     have hl:=hr.len;have hsz:(JL w).heap.size=w.heap.size+1+1+1:=by unfold JL;simp
     refine⟨⟨by have:=bjK hn;rw[<- biR];omega,?_⟩,PN hs hx ⟨by omega,by omega⟩,PN hs hx ⟨by omega,by omega⟩,PN hs hx ⟨by omega,by omega⟩⟩;rw[blE];intro v hv;exact dK hr ho v (by simpa using hv)
    ·rintro e w' ⟨c',hx,hs',u,rfl,hu⟩
     cases hu with|agg hr=>exact⟨_,rfl,c',hx,hs',by simpa using hr⟩
    ·rintro e w2 ⟨xs,w',⟨c',hx,hs',hr⟩,rfl,k2⟩
     have m2:=Xp hx k2;refine⟨c'.ZS cx,kJ hs k hx k2,pG hs hx hs' k2,_,rfl,?_⟩;have hr2:=hr.DL m2
     have ha:Rp (c'.ZS cx) w2 (.agg cs) (.agg xs):=by have:=Rp.agg hr2;simpa using this
     exact .Gx (vs:=[.agg xs,.agg #[.int .i64 0,.int .i64 0],.bool true]) (.cons ha (.cons (.agg (vs:=[.int .i64 0,.int .i64 0]) (.cons (.sc rfl) (.cons (.sc rfl) .nil))) (.cons (.sc rfl) .nil)))
   ·cases hk
  ·cases hk
 ·rename_i ty a b
  split at hk
  ·rename_i hty
   have hty:=bjK hty;subst hty;cases hk;intro cx w vs hs ha;cases ha with
   |cons h1 t=>
   cases t;cases h1 with
   |fn hf hc=>
   rename_i us vs;have k:Ut w (JL w) (λ_=>False):=⟨rfl,rfl,rfl,by unfold JL;simp;omega,λq hq _=>by unfold JL;rw[heap_alloc_old _ _ (by simp;omega),heap_alloc_old _ _ (by simp;omega),heap_alloc_old _ _ hq]⟩;have hsv:=aiV hs k;have hm:=YM (cx:=cx) k;have hC:=h (cx.mM w (JL w)) (JL w) (us++vs) hsv (by simpa using (hf.DL hm).append (hc.DL hm))
   have e1:(us++vs).toArray=us.toArray++vs.toArray:=by simp
   rw[e1] at hC;refine(aFR g hg us.toArray vs.toArray w (λa' b' w'=>a'=a/\b'=b/\∃c',Ext (cx.mM w (JL w)) (JL w) c' w'/\St G c' w' s') ?_ (hC.mono ?_)).mono ?_
   ·rintro a' b' w' ⟨_,_,c',hx,_⟩
    have hsz:(JL w).heap.size=w.heap.size+1+1+1:=by unfold JL;simp
    exact⟨PN hs hx ⟨by omega,by omega⟩,PN hs hx ⟨by omega,by omega⟩,PN hs hx ⟨by omega,by omega⟩⟩
   ·rintro e w' ⟨c',hx,hs',u,rfl,hu⟩
    cases hu with
    |ifc hu=>
     cases hu with
     |agg hr=>
      cases hr with
      |cons r1 hr=>
       cases hr with
       |cons r2 hr=>
        cases hr;cases r1;cases r2;exact⟨a,b,rfl,rfl,rfl,c',hx,hs'⟩
   ·rintro e w2 ⟨a',b',w',⟨rfl,rfl,c',hx,hs'⟩,rfl,k2⟩
    refine⟨c'.ZS cx,kJ hs k hx k2,pG hs hx hs' k2,_,rfl,?_⟩;refine .Gx (vs:=[.agg SZ,.agg #[.int .i64 a',.int .i64 b'],.bool false]) (.cons ?_ (.cons (.agg (vs:=[.int .i64 a',.int .i64 b']) (.cons (.sc rfl) (.cons (.sc rfl) .nil))) (.cons (.sc rfl) .nil)));exact .agg (vs:=SZ.toList) (.cons (.sc rfl) (.cons (.sc rfl) (.cons (.sc rfl) (.cons (.sc rfl) (.cons (.sc rfl) (.cons (.sc rfl) (.cons (.sc rfl) (.cons (.sc rfl) (.cons (.sl0 trivial) (.cons (.sl0 trivial) (.cons (.sc rfl) .nil)))))))))))
  ·cases hk
 ·cases hk
end Go.Proofs.YtpbkhogolfegfaaGreatDoor
namespace AI
open Go Go.RowKit
mutual
def rnV(ρ σ:Nat->Nat):AV->AV
 |.ptr i o=>.ptr (ρ i) o
 |.mp i=>.mp (ρ i)
 |.Im i o n=>.Im (ρ i) o n
 |.sl (.row r z) n cs=>.sl (.row (σ r) z) n cs
 |.agg cs=>.agg (Vk ρ σ cs)
 |.Gx cs=>.Gx (Vk ρ σ cs)
 |.fn f a b=>.fn f (Vk ρ σ a) (Vk ρ σ b)
 |a=>a
def Vk(ρ σ:Nat->Nat):List AV->List AV
 |[]=>[]
 |a::l=>rnV ρ σ a::Vk ρ σ l
end
def zL(ρ σ:Nat->Nat)(n:Nat):(∀a,bpS a < n->plain a=true->rnV ρ σ a=a)/\∀l,bpS l < n->BC l=true->Vk ρ σ l=l:=by
 induction n with
 |zero=>exact⟨λ_ h=>absurd h (bmA _),λ_ h=>absurd h (bmA _)⟩
 |succ n ih=>
  obtain⟨h1,h2⟩:=ih;refine⟨λa hn hp=>?_,λl hn hp=>?_⟩;unfold rnV;split;cases hp;cases hp;cases hp;simp only[plain,bhB] at hp;cases hp.1;simp only[AV.agg.sizeOf_spec] at hn;simp only[plain] at hp;rw[h2 _ (by omega) hp];simp only[AV.Gx.sizeOf_spec] at hn;simp only[plain] at hp;rw[h2 _ (by omega) hp];simp only[AV.fn.sizeOf_spec] at hn;simp only[plain,bhB] at hp;rw[h2 _ (by omega) hp.1,h2 _ (by omega) hp.2];rfl
  ·cases l with
   |nil=>rfl
   |cons a l=>
    simp only[bmS] at hn;simp only[BC,bhB] at hp;rw[Vk,h1 a (by omega) hp.1,h2 l (by omega) hp.2]
def aRG{ρ σ:Nat->Nat}{a:AV}(h:plain a=true):rnV ρ σ a=a:=(zL ρ σ _).1 a (bjQ _) h
def aDS{ρ σ:Nat->Nat}{l:List AV}(h:BC l=true):Vk ρ σ l=l:=(zL ρ σ _).2 l (bjQ _) h
def zK(ρ σ:Nat->Nat):Ay->Ay
 |.cells cs=>.cells (Vk ρ σ cs)
 |.bD T id cs=>.bD T (ρ id) (Vk ρ σ cs)
 |b=>b
class Rc(a:AV)(q:outParam (Nat->Nat->Bool)):Prop where
 h:∀k j ρ σ,q k j=true->Rn k j ρ σ a (rnV ρ σ a)
class RcL(l:List AV)(q:outParam (Nat->Nat->Bool)):Prop where
 h:∀k j ρ σ,q k j=true->VN k j ρ σ l (Vk ρ σ l)
class RcB(b:Ay)(q:outParam (Nat->Nat->Bool)):Prop where
 h:∀k j ρ σ,q k j=true->uW k j ρ σ b (zK ρ σ b)
class RcH(l:List (Nat×Ay))(q:outParam (Nat->Nat->Bool)):Prop where
 h:∀k j ρ σ,q k j=true->∀e,e∈l->uW k j ρ σ e.2 (zK ρ σ e.2)
class RcS(s:AS)(q:outParam (Nat->Nat->Bool)):Prop where
 h:∀k j ρ σ,q k j=true->∀e,e∈s.h->uW k j ρ σ e.2 (zK ρ σ e.2)
def aMS{i k:Nat}(h:Nat.blt i k=true):i < k:=Nat.le_of_ble_eq_true h
instance (priority:=low) {a:AV} [i:PlV a]:Rc a qT:=⟨λ_ _ _ _ _=>by rw[aRG i.h];exact .pl i.h⟩
instance {i o:Nat}:Rc (.ptr i o) (qN i):=⟨λ_ _ _ _ h=>.ptr (aMS h)⟩
instance {cs:List AV} {q} [i:RcL cs q]:Rc (.agg cs) q:=⟨λk j ρ σ h=>.agg (i.h k j ρ σ h)⟩
instance {f:Fn}{a b:List AV} {q r} [i:RcL a q] [j:RcL b r]:Rc (.fn f a b) (qA q r):=⟨λk j' ρ σ h=>by
 have h:=bkH.1 h;exact .fn (i.h k j' ρ σ h.1) (j.h k j' ρ σ h.2)⟩
instance (priority:=low) {l:List AV} [i:aX l]:RcL l qT:=⟨λ_ _ _ _ _=>by rw[aDS i.h];exact .pl i.h⟩
instance:RcL [] qT:=⟨λ_ _ _ _ _=>.nil⟩
instance {a:AV}{l:List AV} {q r} [i:Rc a q] [j:RcL l r]:RcL (a::l) (qA q r):=⟨λk j' ρ σ h=>by
 have h:=bkH.1 h;exact .cons (i.h k j' ρ σ h.1) (j.h k j' ρ σ h.2)⟩
instance {cs:List AV} {q} [i:RcL cs q]:RcB (.cells cs) q:=⟨λk j ρ σ h=>.cells (i.h k j ρ σ h)⟩
instance:RcH [] qT:=⟨λ_ _ _ _ _ _ h=>by cases h⟩
instance {i:Nat}{b:Ay}{l:List (Nat×Ay)} {q r} [x:RcB b q] [y:RcH l r]:RcH ((i,b)::l) (qA q r):=⟨λk j ρ σ h e he=>by
 have h:=bkH.1 h;cases he with|head=>exact x.h k j ρ σ h.1|tail _ he=>exact y.h k j ρ σ h.2 e he⟩
instance {h:List (Nat×Ay)}{n m:Nat}{F:List (Nat×Nat)} {q} [x:RcH h q]:RcS ⟨h,n,F,m⟩ q:=⟨x.h⟩
mutual
def aQJ(id:Nat):AV->Bool
 |.ptr i _=>biS i id
 |.mp i=>biS i id
 |.Im i _ _=>biS i id
 |.agg cs=>SC id cs
 |.fn _ a b=>cond (SC id a) true (SC id b)
 |_=>false
def SC(id:Nat):List AV->Bool
 |[]=>false
 |a::l=>cond (aQJ id a) true (SC id l)
end
def VA{a b:Bool}(h:cond a true b=true):a=true\/b=true:=by cases a<;>simp_all
def aCO(id n:Nat):(∀a,bpS a < n->aQJ id a=true->Occ id a)/\∀l,bpS l < n->SC id l=true->Ux id l:=by
 induction n with
 |zero=>exact⟨λ_ h=>absurd h (bmA _),λ_ h=>absurd h (bmA _)⟩
 |succ n ih=>
  obtain⟨h1,h2⟩:=ih;refine⟨λa hn h=>?_,λl hn h=>?_⟩
  ·cases a<;>simp only[aQJ] at h<;>try (cases h;done)
   simp only[AV.agg.sizeOf_spec] at hn;exact .agg (h2 _ (by omega) h);cases beq_true h;exact .Im;cases beq_true h;exact .ptr;simp only[AV.fn.sizeOf_spec] at hn;rcases VA h with h | h
   exact .fn1 (h2 _ (by omega) h);exact .fn2 (h2 _ (by omega) h);cases beq_true h;exact .mp
  ·cases l with
   |nil=>cases h
   |cons a l=>
    simp only[bmS] at hn;simp only[SC] at h;rcases VA h with h | h
    exact .here (h1 _ (by omega) h);exact .there (h2 _ (by omega) h)
def Yg{id:Nat}{l:List AV}(h:SC id l=true):Ux id l:=(aCO id _).2 l (bjQ _) h
def azL(p:Nat->Bool)(id:Nat):List (Nat×Ay)->Bool
 |[]=>false
 |e::l=>cond (match e.2 with | .cells cs=>cond (SC id cs) (p e.1) false | .bD _ _ cs=>cond (SC id cs) (p e.1) false | _=>false) true (azL p id l)
def amH(args:List AV)(pre:List (Nat×Ay)):Nat->Nat->Bool
 |0,id=>SC id args
 |n+1,id=>cond (SC id args) true (azL (amH args pre n) id pre)
def aDJ{args:List AV}{pre:List (Nat×Ay)}:∀(n id:Nat),amH args pre n id=true->Rch args pre id:=by
 intro n
 induction n with
 |zero=>intro id h;simp only[amH] at h;exact .arg (Yg h)
 |succ n ih=>
  intro id h;simp only[amH] at h;rcases VA h with h | h
  exact .arg (Yg h)
  ·have key:∀l:List (Nat×Ay),(∀e,e∈l->e∈pre)->azL (amH args pre n) id l=true->Rch args pre id:=by
    intro l
    induction l with
    |nil=>intro _ h;cases h
    |cons e l ihl=>
     intro hm h;simp only[azL] at h;rcases VA h with h | h
     ·split at h
      ·rename_i cs he
       cases ho:SC id cs with
       |false=>rw[ho] at h;cases h
       |true=>
        rw[ho] at h;obtain⟨p,hp⟩:=bmD (hm e (.head _));have:e=(e.1,.cells cs):=by rw[<- he]
        exact .box (ih _ h) (by rw[hp,this]) (Yg ho)
      ·rename_i T j cs he
       cases ho:SC id cs with
       |false=>rw[ho] at h;cases h
       |true=>
        rw[ho] at h;obtain⟨p,hp⟩:=bmD (hm e (.head _));have:e=(e.1,.bD T j cs):=by rw[<- he]
        exact .bD (ih _ h) (by rw[hp,this]) (Yg ho)
      cases h
     exact ihl (λe he=>hm e (.tail _ he)) h
   exact key pre (λ_ h=>h) h
def avJ(args:List AV)(pre:List (Nat×Ay)):List Nat->Bool
 |[]=>true
 |i::l=>cond (amH args pre 3 i) (avJ args pre l) false
def ndB:List Nat->Bool
 |[]=>true
 |i::l=>cond (inB i l) false (ndB l)
where
 inB (i:Nat):List Nat->Bool
   |[]=>false
   |j::l=>cond (biS i j) true (inB i l)
def agN{i:Nat}:∀{l:List Nat},ndB.inB i l=false->i∉l
 |[],_=>by simp
 |j::l,h=>by
  simp only[ndB.inB] at h;cases hb:biS i j with
  |true=>rw[hb] at h;cases h
  |false=>
   rw[hb] at h;have:=beq_false hb;simp only[List.mem_cons,not_or];exact⟨this,agN h⟩
def adK:∀{l:List Nat},ndB l=true->l.Nodup
 |[],_=>.nil
 |i::l,h=>by
  simp only[ndB] at h;cases hb:ndB.inB i l with|true=>rw[hb] at h;cases h|false=>rw[hb] at h;exact List.nodup_cons.2 ⟨agN hb,adK h⟩
def lN(us:List Nat)(i:Nat):Nat:=match us[i]? with|some e=>e|none=>0
def hM(h:List (Nat×Ay)):List Ay:=(h.map (·.2)).reverse
def bI(us vs:List Nat)(h:List (Nat×Ay)):List (Nat×Ay):=us.zip ((hM h).map (zK (lN us) (lN vs)))
def tpU(vs:List Nat)(F:List (Nat×Nat)):List (Nat×Nat):=vs.zip (F.map (·.2))
def nY{β:Type}{us:List Nat}{l:List β}(h:us.length=l.length):Kq (us.zip l)=lN us:=by
 funext i;unfold Kq lN;cases hu:us[i]? with
 |none=>
  have hz:(us.zip l)[i]?=none:=bjE (by have:=List.getElem?_eq_none_iff.1 hu;rw[List.length_zip];omega);rw[hz]
 |some u=>
  have hi:=(aBC.1 hu).1;have hl:l[i]?=some l[i]:=aBD (by omega);have hz:(us.zip l)[i]?=some (u,l[i]):=by rw[List.getElem?_zip_eq_some];exact⟨hu,hl⟩
  rw[hz]
def P4{β:Type}{us:List Nat}{l:List β}(h:us.length=l.length):keys (us.zip l)=us:=by unfold keys;exact List.map_fst_zip (by omega)
def jQ{k j:Nat}{ρ σ:Nat->Nat}:∀{us:List Nat}{M:List Ay},us.length=M.length->(∀b,b∈M->uW k j ρ σ b (zK ρ σ b))->aY k j ρ σ M (us.zip (M.map (zK ρ σ)))
 |[],[],_,_=>.nil
 |[],_::_,h,_=>by cases h
 |_::_,[],h,_=>by cases h
 |u::us,b::M,h,hb=>.cons (hb b (.head _)) (jQ (by simpa using h) λb hm=>hb b (.tail _ hm))
class PlR(r:CR):Prop where
 h:∀k j ρ σ,RnR k j ρ σ r r
instance {v:AV} [i:PlV v]:PlR (.ret v):=⟨λ_ _ _ _=>.pl i.h⟩
instance {v:AV} [i:PlV v]:PlR (.pan v):=⟨λ_ _ _ _=>.pl i.h⟩
section
variable {P:Program}{G:AN}[gp:GP G]{f:FuncId}{args:List AV}{s0 s1:AS}{r:CR}{qa qb qc:Nat->Nat->Bool}
def gU[ra:RcL args qa][rb:RcS s0 qb][rc:RcS s1 qc][rr:PlR r](hS:Sound P G (.call f args s0 r s1))(us vs:List Nat)
   (e0:(⟨Hq (hM s0.h) 0 [],us.length,ZP (s0.F.map (·.2)) 0,vs.length⟩:AS)=s0:=by kernel_rfl) (e1:(⟨Hq (hM s1.h) 0 [],us.length,ZP (s1.F.map (·.2)) 0,vs.length⟩:AS)=s1:=by kernel_rfl)
   (hc:cond (cond (qa us.length vs.length) (cond (qb us.length vs.length) (qc us.length vs.length) false) false) (cond (cond (ndB us) (ndB vs) false) (cond (cond (biS (hM s0.h).length us.length) (biS (hM s1.h).length us.length) false) (cond (cond (biS s0.F.length vs.length) (biS s1.F.length vs.length) false) (avJ (Vk (lN us) (lN vs) args) (bI us vs s0.h) us) false) false) false) false=true:=by kernel_rfl):
   Cd.ok P G (.Sn f (Vk (lN us) (lN vs) args) r (bI us vs s0.h) (tpU vs s0.F) (bI us vs s1.h) (tpU vs s1.F)):=by
 have Y1:∀{a b:Bool},cond a b false=true->a=true/\b=true:=λ{a b} h=>by cases a<;>simp_all
 obtain⟨hq,hc⟩:=Y1 hc;obtain⟨hqa,hq⟩:=Y1 hq;obtain⟨hqb,hqc⟩:=Y1 hq;obtain⟨hn,hc⟩:=Y1 hc;obtain⟨hnu,hnv⟩:=Y1 hn;obtain⟨hl,hc⟩:=Y1 hc;obtain⟨hl0,hl1⟩:=Y1 hl;obtain⟨hf,hrc⟩:=Y1 hc;obtain⟨hf0,hf1⟩:=Y1 hf;have hl0:=beq_true hl0;have hl1:=beq_true hl1;have hf0:=beq_true hf0;have hf1:=beq_true hf1;have lm0:us.length=((hM s0.h).map (zK (lN us) (lN vs))).length:=by rw[biE,hl0]
 have lm1:us.length=((hM s1.h).map (zK (lN us) (lN vs))).length:=by rw[biE,hl1]
 have lt0:vs.length=(s0.F.map (·.2)).length:=by rw[biE,hf0]
 have lt1:vs.length=(s1.F.map (·.2)).length:=by rw[biE,hf1]
 have kp:Kq (bI us vs s0.h)=lN us:=nY lm0;have kt:Kq (tpU vs s0.F)=lN vs:=nY lt0
 have Sw:∀{s:AS}{b:Ay},b∈hM s.h->∃e,e∈s.h/\e.2=b:=λ{s b} h=>by
  unfold hM at h;rw[List.mem_reverse,bkR] at h;exact h
 refine aNT gp.h (M:=hM s0.h) (M2:=hM s1.h) (T:=s0.F.map (·.2)) (T2:=s1.F.map (·.2)) (k:=us.length) (j:=vs.length) _ _ _ _ (by rw[e0,e1];exact hS) hl0 (by rw[biE];exact hf0) (by rw[biE];exact hf1) ?_ ?_ ?_ ?_ ?_ ?_ ?_ ?_ ?_ (rr.h _ _ _ _) ?_;exact(P4 lm1).trans (P4 lm0).symm;exact(P4 lt1).trans (P4 lt0).symm;show(keys (bI us vs s0.h)).Nodup;rw[show keys (bI us vs s0.h)=us from P4 lm0];exact adK hnu;show(keys (tpU vs s0.F)).Nodup;rw[show keys (tpU vs s0.F)=vs from P4 lt0];exact adK hnv;exact brW (by omega);exact brW (by omega);rw[kp,kt];refine jQ hl0.symm λb hb=>?_;obtain⟨e,he,rfl⟩:=Sw hb;exact rb.h _ _ _ _ hqb e he;rw[kp,kt];refine jQ hl1.symm λb hb=>?_;obtain⟨e,he,rfl⟩:=Sw hb;exact rc.h _ _ _ _ hqc e he;rw[kp,kt];exact ra.h _ _ _ _ hqa
 ·intro e he
  have key:∀l:List Nat,avJ (Vk (lN us) (lN vs) args) (bI us vs s0.h) l=true->∀i,i∈l->Rch (Vk (lN us) (lN vs) args) (bI us vs s0.h) i:=by
   intro l
   induction l with
   |nil=>intro _ i hi;cases hi
   |cons x l ih=>
    intro h i hi;obtain⟨h1,h2⟩:=Y1 (show cond _ _ false=true from h);cases hi with|head=>exact aDJ _ _ h1|tail _ hi=>exact ih h2 i hi
  refine key us hrc e.1 ?_;have:e.1∈keys (bI us vs s0.h):=bkR.2 ⟨e,he,rfl⟩;rw[show keys (bI us vs s0.h)=us from P4 lm0] at this;exact this
end
end AI
namespace AI
open Go Go.RowKit
section
variable {P:Program}{G:AN}{α β γ δ ε:Type}{l:List (PC P G)}{Z:α->Prop}
def tB2{m:Option (β×γ)}{k:β×γ->Option α}(h:∀a b (_:m=some (a,b)),T l (k (a,b)) Z):T l (m.bind k) Z:=tB λy e=>h y.1 y.2 e
def tB3{m:Option (β×γ×δ)}{k:β×γ×δ->Option α}(h:∀a b c (_:m=some (a,b,c)),T l (k (a,b,c)) Z):T l (m.bind k) Z:=tB λy e=>h y.1 y.2.1 y.2.2 e
def Jw{m:Option (β×γ×δ×ε)}{k:β×γ×δ×ε->Option α}(h:∀a b c d (_:m=some (a,b,c,d)),T l (k (a,b,c,d)) Z):T l (m.bind k) Z:=tB λy e=>h y.1 y.2.1 y.2.2.1 y.2.2.2 e
def pu[gp:GP G]{args:List AV}{qa qb qc:Nat->Nat->Bool}{s0 s1:AS}{f:FuncId}{v:AV}[ra:RcL args qa][rb:RcS s0 qb][rc:RcS s1 qc][rr:PlR (.ret v)](hS:Sound P G (.call f args s0 (.ret v) s1))
   (e0:(⟨Hq (hM s0.h) 0 [],[0].length,ZP (s0.F.map (·.2)) 0,([]:List Nat).length⟩:AS)=s0:=by kernel_rfl) (e1:(⟨Hq (hM s1.h) 0 [],[0].length,ZP (s1.F.map (·.2)) 0,([]:List Nat).length⟩:AS)=s1:=by kernel_rfl)
   (hc:cond (cond (qa [0].length ([]:List Nat).length) (cond (qb [0].length ([]:List Nat).length) (qc [0].length ([]:List Nat).length) false) false) (cond (cond (ndB [0]) (ndB []) false) (cond (cond (biS (hM s0.h).length [0].length) (biS (hM s1.h).length [0].length) false) (cond (cond (biS s0.F.length ([]:List Nat).length) (biS s1.F.length ([]:List Nat).length) false) (avJ (Vk (lN [0]) (lN []) args) (bI [0] [] s0.h) [0]) false) false) false) false=true:=by kernel_rfl):PC P G:=Mb (gU hS [0] [] e0 e1 hc)
def JW[gp:GP G]{args:List AV}{qa qb qc:Nat->Nat->Bool}{s0 s1:AS}{f:FuncId}{v:AV}[ra:RcL args qa][rb:RcS s0 qb][rc:RcS s1 qc][rr:PlR (.pan v)](hS:Sound P G (.call f args s0 (.pan v) s1))
   (e0:(⟨Hq (hM s0.h) 0 [],[0].length,ZP (s0.F.map (·.2)) 0,([]:List Nat).length⟩:AS)=s0:=by kernel_rfl) (e1:(⟨Hq (hM s1.h) 0 [],[0].length,ZP (s1.F.map (·.2)) 0,([]:List Nat).length⟩:AS)=s1:=by kernel_rfl)
   (hc:cond (cond (qa [0].length ([]:List Nat).length) (cond (qb [0].length ([]:List Nat).length) (qc [0].length ([]:List Nat).length) false) false) (cond (cond (ndB [0]) (ndB []) false) (cond (cond (biS (hM s0.h).length [0].length) (biS (hM s1.h).length [0].length) false) (cond (cond (biS s0.F.length ([]:List Nat).length) (biS s1.F.length ([]:List Nat).length) false) (avJ (Vk (lN [0]) (lN []) args) (bI [0] [] s0.h) [0]) false) false) false) false=true:=by kernel_rfl):PC P G:=Hc (gU hS [0] [] e0 e1 hc)
variable {b:Bool}{A:Option α}{y:α}{c:Code}{fr:List AV}{s:AS}{Q:α->AX->List AV->AS->Prop}{fn:Func}{m:Nat}{v x:AV}{q:Nat->Nat->Bool}
def tG(h:∀e:b=true,T (l++[pb e]) A λr=>W P G (XS P G) H0 c fr s (Q r))(k:Y0 P fn m (Q y) v:=by exact .body)[tg:Tg v x][un:Un v q](hf:∀e:b=false,oO P fn x (q 0 0) (Su P G 300 c [] (pHs (l++[pb e])) fr s)=some (Ug (l++[pb e]),x,true):=by intro e;kernel_rfl):T l (cond b A (some y)) λr=>W P G (XS P G) H0 c fr s (Q r):=tC h λe=>tA rU k (hf e)
def IW(h:∀e:b=false,T (l++[pb e]) A λr=>W P G (XS P G) H0 c fr s (Q r))(k:Y0 P fn m (Q y) v:=by exact .body)[tg:Tg v x][un:Un v q](hf:∀e:b=true,oO P fn x (q 0 0) (Su P G 300 c [] (pHs (l++[pb e])) fr s)=some (Ug (l++[pb e]),x,true):=by intro e;kernel_rfl):T l (cond b (some y) A) λr=>W P G (XS P G) H0 c fr s (Q r):=tC (λe=>tA rU k (hf e)) h
end
def r8{a1 a2 a3 a4 a5 a6 a7 a8:AV}{aq bs:List AV}(h:Wn aq bs):Wn (a1::a2::a3::a4::a5::a6::a7::a8::aq) (a1::a2::a3::a4::a5::a6::a7::a8::bs):=.r (.r (.r (.r (.r (.r (.r (.r h)))))))
end AI
namespace AI
open Go Go.RowKit
inductive Tf(F:List (Nat×Nat))(r:Nat):AV->Prop where
 |sc {v:Value}:Tf F r (.sc v)
 |any:Tf F r .any
 |ptr {id off:Nat}:Tf F r (.ptr id off)
 |full:Tf F r (.sl .full 0 [])
 |sl {n:Nat}{cs:List AV} (h:∀a∈cs,∃v,a=.sc v) (hs:cs=[]\/∃(i:Nat)(s:ByteArray),cs[i]?=some (.sc (.string s))):Tf F r (.sl .lost n cs)
 |row {r2 sz n:Nat}{cs:List AV} (h:∀a∈cs,∃v,a=.sc v) (hr:r2≠r) (hF:DV r2 F=some n):Tf F r (.sl (.row r2 sz) n cs)
structure Thw(G:AN)(c c':Cx)(w:World)(s:AS)(r g:Nat):Prop where
 st:St G c w s
 gr:∃n cap sz,c.rows[r]?=some (.Sk g n cap sz)
 Ce:∀(id k:Nat),c.Ce[id]?=some (some k)->c'.Ce[id]?=some (some k)
 cH:∀(g2 i:Nat)(v:Value),MD c w g2 i v->g2≠g->MD c' w g2 i v
 int:∀(i:Nat)(v:Value),MD c w g i v->∃k z,v=.int k z
 Ia:c'.rows.length=c.rows.length
 rows:∀r2,r2≠r->c'.rows[r2]?=c.rows[r2]?
section
variable {G:AN}{c c':Cx}{w:World}{s:AS}{r g:Nat}
def Thw.cells(t:Thw G c c' w s r g){g2:Nat}(hg:g2≠g):∀{cs:List AV}{o:Nat},(∀a∈cs,∃v,a=.sc v)->A0 c w g2 o cs->A0 c' w g2 o cs
 |[],_,_,_=>.nil
 |a::cs,o,h,hc=>by
  cases hc with
  |cons hv h1 h2=>
   obtain⟨v,rfl⟩:=h a (biK ..);cases h1 with|sc h3=>exact .cons (t.cH _ _ _ hv hg) (.sc h3) (t.cells hg (λb hb=>h b (biB _ hb)) h2)
def Tf.ok(t:Thw G c c' w s r g){a:AV}(h:Tf s.F r a){v:Value}(hr:Rp c w a v):Rp c' w a v:=by
 cases h with
 |sc=>cases hr with | sc h=>exact .sc h
 |any=>cases hr with | any h=>exact .any h
 |ptr=>cases hr with | ptr h=>exact .ptr (t.Ce _ _ h)
 |full=>
  cases hr with|sl0 h=>exact .sl0 h|Lt hn hc ho=>exact .Lt hn .nil ho
 |@sl n cs h hs=>
  cases hr with
  |sl0 _=>exact .sl0 trivial
  |Lt hn hc _=>
   rename_i cap g2 o;cases cs with
   |nil=>exact .Lt hn .nil trivial
   |cons c0 cs=>
    refine .Lt hn (t.cells (λe=>?_) h hc) trivial;rcases hs with hs | ⟨i,b,hb⟩
    cases hs;obtain⟨u,hu,h5⟩:=hc.get hb;subst e;obtain⟨k,z,rfl⟩:=t.int _ _ hu;cases h5
 |row h hne hF=>
  cases hr with
  |sl0 h0=>exact .sl0 ⟨h0.1,by rw[t.Ia];exact h0.2⟩
  |Lt hn hc ho=>
   obtain⟨h1,h2,h3,h4,h5⟩:=ho;refine .Lt hn (t.cells (λe=>?_) h hc) ⟨h1,h2,by rw[t.Ia];exact h3,by rw[t.rows _ hne];exact h4,by rw[t.rows _ hne];exact h5⟩;rcases t.st.IZ _ _ hF with ⟨h6,_⟩ | ⟨g',cap',OI,h6⟩
   exact h4 h6;have h7:=(h5 _ _ _ _ h6).2 rfl;obtain⟨n0,PT,kC,h8⟩:=t.gr;rw[h7.1,e] at h6;exact hne (t.st.Ie _ _ _ _ _ _ _ _ _ h6 h8)
def Tf.okL(t:Thw G c c' w s r g):∀{l:List AV}{vs:List Value},(∀a∈l,Tf s.F r a)->Cw c w l vs->Cw c' w l vs
 |[],_,_,h=>by cases h;exact .nil
 |a::l,_,h,hr=>by
  cases hr with|cons h1 h2=>exact .cons ((h a (biK ..)).ok t h1) (Tf.okL t (λb hb=>h b (biB _ hb)) h2)
end
def aDZ{c c':Cx}{w:World}{l:List AV}{vs:List Value}(h:∀a∈l,∃k z,a=.sc (.int k z))(hr:Cw c w l vs):Cw c' w l vs:=by
 induction l generalizing vs with
 |nil=>cases hr;exact .nil
 |cons a l ih=>
  cases hr with
  |cons h1 h2=>
   obtain⟨k,z,rfl⟩:=h a (biK ..);cases h1 with|sc h3=>exact .cons (.sc h3) (ih (λb hb=>h b (biB _ hb)) h2)
def Cw.aEH{c:Cx}{w:World}{aq:List AV}{vs:List Value}(h:Cw c w aq vs){i:Nat}{b:AV}{v:Value}(hv:vs[i]?=some v)(hb:Rp c w b v):Cw c w (aq.set i b) vs:=by
 have:=h.set hb i
 have e:vs.set i v=vs:=by apply blO;intro j;rw[List.getElem?_set];by_cases hij:i=j;subst hij;rw[if_pos rfl,hv];split;rfl;rename_i hlt;rw[bjE (by omega)] at hv;cases hv;rw[if_neg hij]
 rwa[e] at this
section
variable {P:Program}{G:AN}{Q:QE}{c0:Cx}{w0:World}
abbrev EX(c0:Cx)(w0:World):EW:=λc w=>Ext c0 w0 c w
def EX.GY:Sg (EX c0 w0):=λ_ _ _ _ h hx=>h.trans hx
def WE.bgA{s00:AS}(hs0:St G c0 w0 s00)(h0:c0.rows=[]){code:Code}{h:List (Nat×Ay)}{nx nr r n sz t:Nat}{F:List (Nat×Nat)}{cs fr:List AV}
   (hb:∀id b,look id h=some b->∃ds,b=.cells ds/\∀a∈ds,Tf F r a) (hF:DV r F=some n) (hne:cs≠[]) (hi:∀a∈cs,∃k z,a=.sc (.int k z)) (ht:fr[t]?=some (.sl (.row r sz) n cs)) (Ob:∀a∈fr.set t .any,Tf F r a)
   (j:WE P G (EX c0 w0) code (fr.set t (.Im nx 0 n)) ⟨(nx,.cells cs)::h,nx+1,[],nr⟩ Q):WE P G (EX c0 w0) code fr ⟨h,nx,F,nr⟩ Q:=by
 intro cx w a K hE hs hf hd hK;obtain⟨v,hv,hrp⟩:=hf.get ht;cases hrp with
 |sl0 _=>exact absurd rfl hne
 |Lt hn hc ho=>
  rename_i cap g o;obtain⟨rfl,h2,h3,h4,h5⟩:=ho;rcases hs.IZ _ _ hF with ⟨h6,_⟩ | ⟨g',cap',OI,h6⟩
  exact absurd h6 h4;have h7:=(h5 _ _ _ _ h6).2 rfl;obtain⟨rfl,rfl,rfl⟩:=h7;obtain⟨L7,wT,RJ,wU,vs,T,hw,hsz⟩:=hs.row _ _ _ _ _ h6;have hlt:g' < w.heap.size:=hs.NE h6;have hold:∀k,MD cx w g' k=λv=>MD cx w g' k v:=λ_=>rfl;let c':Cx:={ cx with Ce:=cx.Ce++[some g'],rows:=cx.rows.set r .gone }
  have hrow:∀(r2:Nat) y,c'.rows[r2]?=some y->y=.gone\/(r2≠r/\cx.rows[r2]?=some y):=λr2 y hy=>by
   rcases M9 hy with ⟨_,h,_⟩ | h
   exact .inl h;exact .inr h
  have H8:∀(g2 i:Nat)(v:Value),MD cx w g2 i v->g2≠g'->MD c' w g2 i v:=λg2 i v hv hg=>⟨hv.1,λGz=>by
   rcases Gz with Gz | ⟨r2,n2,azV,sz2,hr2,hx⟩ | Gz
   rcases biI.1 Gz with h | h
   exact hv.2.1 (.inl h);simp at h;exact hg h;rcases hrow _ _ hr2 with h | ⟨_,h⟩
   cases h;exact hv.2.1 (.inr (.inl ⟨r2,n2,azV,sz2,h,hx⟩));exact hv.2.1 (.inr (.inr Gz)),hv.2.2⟩
  obtain⟨us,hus,acQ⟩:=hc.vals;have hul:=hus.len
  have hint:∀(i:Nat)(v:Value),MD cx w g' i v->∃k z,v=.int k z:=λi v hv=>by
   by_cases hi1:i < cs.length;obtain⟨u,h8,h9⟩:=hc.get (aBD hi1);rw[bhC] at h8;have e:u=v:=biA (h8.2.2.symm.trans hv.2.2);obtain⟨k,z,hz⟩:=hi _ (List.getElem_mem hi1);rw[hz] at h9;cases h9;exact⟨k,z,e.symm⟩;by_cases WQ:i < cap'*OI;exact absurd (.inr (.inl ⟨r,n,cap',OI,h6,by omega,WQ⟩)) hv.2.1;have:=hv.2.2;simp only[bjZ,hw] at this;rw[bmM (by omega)] at this;simp at this
  have tw:Thw G cx c' w ⟨h,nx,F,nr⟩ r g':=⟨hs,⟨n,cap',OI,h6⟩,λid k hk=>by
   show(cx.Ce++[some g'])[id]?=_;rw[bhD (aBC.1 hk).1];exact hk,H8,hint,by simp[c'],λr2 hr2=>by simp only[c'];rw[bjB (Ne.symm hr2)]⟩
  have hnx:nx=cx.Ce.length:=hs.len
  have bdW:∃ext,vs=(us++ext).toArray:=by
   refine⟨vs.toList.drop us.length,?_⟩;apply Array.ext';simp only
   have:us=vs.toList.take us.length:=by apply blO;intro i;rw[List.getElem?_take];split;rename_i hlt;have h8:=acQ i us[i] (aBD hlt);rw[bhC] at h8;have h9:=h8.2.2;simp only[bjZ,hw] at h9;rw[aBD hlt,<- h9];simp;rename_i hlt;exact bjE (by omega)
   show vs.toList=us++vs.toList.drop us.length;have h9:=List.take_append_drop us.length vs.toList;rw[<- this] at h9;exact h9.symm
  obtain⟨ext,hvs⟩:=bdW
  have rK:Ext c0 w0 c' w:=by
   have hx:Ext c0 w0 cx w:=hE
   have hg0:w0.heap.size<=g':=by
    rcases hx.Yx _ _ _ _ _ h6 with ⟨r0,n0,PT,kC,h9⟩ | h9
    rw[h0] at h9;simp at h9;exact h9
   refine⟨hx.Ce.trans (blW _ _),by rw[h0];exact Nat.zero_le _,λr y hr=>by rw[h0] at hr;simp at hr,λg i v hv=>H8 _ _ _ (hx.cH _ _ _ hv) (by have:=hv.1;omega),hx.below,hx.base,hx.bad,λg hg=>?_,λr2 g n2 azV sz2 hr2=>?_,hx.GY⟩;rcases biI.1 hg with h9 | h9
   exact hx.Yn g h9;simp at h9;subst h9;exact .inr hg0;rcases hrow _ _ hr2 with h9 | ⟨_,h9⟩
   cases h9;exact hx.Yx _ _ _ _ _ h9
  have Dc:St G c' w ⟨(nx,.cells cs)::h,nx+1,[],nr⟩:=by
   refine⟨by simp[c',hnx],⟨bjQ _,hs.desc⟩,λi j g h1 h2=>?_,λg hg=>?_,λid g b h1 h2=>?_,by rw[hs.Ia];simp[c'],λr2 g n2 azV sz2 hr2=>?_,λr n hr=>by simp[DV] at hr,λg hg=>?_,hs.Ng,λr1 r2 g n1 aUU sz1 n2 azV sz2 e1 e2=>?_,λg cs hg=>?_,hs.Sa,?_⟩
   have key:∀i,(cx.Ce++[some g'])[i]?=some (some g)->(cx.Ce[i]?=some (some g))\/(i=cx.Ce.length/\g=g'):=λi hi=>by
    by_cases hil:i < cx.Ce.length;rw[bhD hil] at hi;exact .inl hi;rw[List.getElem?_append_right (by omega)] at hi
    have:i - cx.Ce.length=0:=by by_cases h9:i - cx.Ce.length=0;exact h9;rw[bjE (by simp;omega)] at hi;cases hi
    rw[this] at hi;simp at hi;exact .inr ⟨by omega,hi.symm⟩
   rcases key i h1 with k1 | ⟨k1,e1⟩<;>rcases key j h2 with k2 | ⟨k2,e2⟩
   exact hs.nodup i j g k1 k2;subst e2;exact absurd (aWR k1) RJ;subst e1;exact absurd (aWR k2) RJ;omega;rcases biI.1 hg with h9 | h9
   exact hs.low g h9;simp at h9;subst h9;exact wT;simp only[AS.get,look] at h2;split at h2;rename_i hid;cases h2;have hid:=beq_true hid;subst hid;have:(cx.Ce++[some g'])[nx]?=some (some g'):=by rw[hnx];simp
   rw[this] at h1;cases h1;exact⟨_,hw,by rw[hvs];exact .FA ext (aDZ hi hus)⟩;have hid:=Yc hs.desc h2
   have h1':cx.Ce[id]?=some (some g):=by have h1:(cx.Ce++[some g'])[id]?=some (some g):=h1;rwa[bhD (by rw[<- hnx];exact hid)] at h1
   obtain⟨o,ho,rJ⟩:=hs.box id g b h1' h2;obtain⟨ds,rfl,hds⟩:=hb id b h2;refine⟨o,ho,?_⟩;cases rJ with|FA ext h8=>exact .FA ext (Tf.okL tw hds h8)
   rcases hrow _ _ hr2 with h9 | ⟨bdF,h9⟩
   cases h9;obtain⟨b1,b2,b3,b4,b5⟩:=hs.row _ _ _ _ _ h9;refine⟨b1,b2,λhm=>?_,b4,b5⟩;rcases biI.1 hm with hm | hm
   exact b3 hm;simp at hm;subst hm;exact bdF (hs.Ie _ _ _ _ _ _ _ _ _ h9 h6);rcases biI.1 hg with h9 | h9
   exact hs.NA g h9;simp at h9;subst h9;exact hlt;rcases hrow _ _ e1 with h9 | ⟨_,h9⟩
   cases h9;rcases hrow _ _ e2 with h8 | ⟨_,h8⟩
   cases h8;exact hs.Ie _ _ _ _ _ _ _ _ _ h9 h8;exact(hs0.Nh g cs hg).mono rK;exact hs0.ON.mono rK
  have aOJ:Cw c' w (fr.set t (.Im nx 0 n)) a.tmps.toList:=by have h8:Cw cx w (fr.set t .any) a.tmps.toList:=hf.aEH hv (.any rfl);have h9:=(Tf.okL tw Ob h8).aEH (i:=t) hv (Rp.Im (id:=nx) hn (show c'.Ce[nx]?=some (some g') by simp[c',hnx]));rwa[brN] at h9
  exact j c' w a K rK Dc aOJ hd hK
def awG:List Code->Code->Code
 |[],z=>z
 |k::ks,z=>.seq k (awG ks z)
def kis:List Code->List KI
 |[]=>[]
 |k::ks=>.code k::kis ks
def oZ{e:AX}(he:e≠.normal){Q0:AX->List AV->AS->Prop}:∀{ks:List Code}{fr:List AV}{s:AS},CY P G (kis ks) Q0 e fr s->Q0 e fr s
 |[],_,_,h=>h
 |k::ks,fr,s,h=>by
  have h:pA P G (XS P G) H0 k (CY P G (kis ks) Q0) e fr s:=h;unfold pA at h;split at h;exact absurd rfl he;exact oZ he h
def WE.ofK(hm:P.follows .mixedOrders=true){E:EW}(hk:Sg E){z:Code}{Q0:AX->List AV->AS->Prop}(hQ:∀e BM s',Q0 e BM s'->(e=.normal/\WE P G E z BM s' Q)\/(e≠.normal/\Q e BM s' E)) :
   ∀{ks:List Code}{c:Code}{fr:List AV}{s:AS},W P G (XS P G) H0 c fr s (CY P G (kis ks) Q0)->WE P G E (awG (c::ks) z) fr s Q
 |[],_,_,_,h=>.seq (.of hm hk h hQ)
 |k::ks,_,_,_,h=>.seq (.of hm hk h (λe BM s' hq=>by
  have hq:pA P G (XS P G) H0 k (CY P G (kis ks) Q0) e BM s':=hq;unfold pA at hq;split at hq;exact .inl ⟨rfl,WE.ofK hm hk hQ hq⟩;rename_i hne;have hne:e≠.normal:=λh=>hne h;rcases hQ _ _ _ (oZ hne hq) with ⟨h1,_⟩ | h1
  exact absurd h1 hne;exact .inr h1))
def aRU{f:FuncId}{fn:Func}{c:Code}{args:List AV}{s0 s2:AS}{v0:AV}(hf:P.funcs[f]?=some fn)(hb:fn.body=some c)(hr:s0.nr=0)
   (h:∀c0 w0,St G c0 w0 s0->c0.rows=[]->WE P G (EX c0 w0) c (args++List.replicate (fn.ntmps - args.length) (.sc undef)) s0 (λe BM s' E'=>N7 P fn s0.nx (QM G s0 (.ret v0) s2) e BM s'/\∀c w,E' c w->Ext c0 w0 c w)):
   Sound P G (.call f args s0 (.ret v0) s2):=by
 intro cx w vs hs GL;have hl:=GL.len;have iB:cx.rows=[]:=List.length_eq_zero_iff.1 (by rw[<- hs.Ia];exact hr);refine calls_of_wp hf hb (h cx w hs iB cx w _ _ (Ext.refl _ _) hs ?_ rfl ?_);simp only[Array.toList_append,Array.toList_replicate];rw[List.size_toArray,hl];exact GL.append (Cw.replicate (.sc rfl) _)
 ·rintro e BM s' E' ⟨hq,rF⟩ SS w' a' e' hE hs' Sv Nq
  have hx:=rF _ _ hE
  have key:∀a,Gy P s' fn BM=some a->Cw SS w' BM a'.tmps.toList->QM G s0 (.ret v0) s2 (.ret a) (s'.cut s0.nx)->∃u,(results fn a'.tmps).run P w'=.ok u w'/\aMB G cx w (.ret v0) s2 (.returned u) w':=λa ha hf5 hq=>by
   obtain⟨b,hb,Ob⟩:=hq;cases hb;obtain⟨u,h6,h7⟩:=Q4 hs' hf5 ha;obtain⟨c2,x2,XI,f2⟩:=Ob cx w SS w' [u] hx hs (hs'.cut _) (.cons h7 .nil);cases f2 with|cons f3 _=>exact⟨u,h6,c2,x2,XI,u,rfl,f3⟩
  cases e with
  |normal=>
   obtain⟨a,ha,hq⟩:=hq;obtain⟨rfl,hf5⟩:=Nq;exact⟨Sv,key a ha hf5 hq⟩
  |ret=>
   obtain⟨a,ha,hq⟩:=hq;obtain⟨rfl,hf5⟩:=Nq;exact⟨Sv,key a ha hf5 hq⟩
  |pan v=>obtain⟨a,ha,_⟩:=hq;cases ha
  |exit id=>exact hq.elim
end
end AI
namespace AI
open Go Go.RowKit
section
variable {P:Program}{G:AN}{α β:Type}{l:List (PC P G)}{Z:α->Prop}
def JQ(G:AN)(s0:AS)(n:Nat)(FL:List (Nat×AV))(bs:List Nat)(s2:AS):AX->List AV->AS->Prop:=λe BM s'=>e=.normal/\∃j,pQ G s0 BM s' (fr n FL bs j) s2
def pW{c:Code}{f0:List AV}{s:AS}{n:Nat}{FL:List (Nat×AV)}{bs:List Nat}{s2:AS}{Q:AX->List AV->AS->Prop}(h:W P G (XS P G) H0 c f0 s (JQ G s n FL bs s2))(k:∀j,Q .normal (fr n FL bs j) s2):W P G (XS P G) H0 c f0 s Q:=by obtain⟨e,BM,s',hj,rfl,j,hf⟩:=h;exact⟨_,_,_,.scope hj (λ_ h=>by cases h) (λcx w c' w' vs hx hs hs' Ob=>hf cx w c' w' vs hx hs hs' Ob),k j⟩
def aoE{c z:Code}{f0:List AV}{s:AS}{n:Nat}{FL:List (Nat×AV)}{bs:List Nat}{s2:AS}{Q:AX->List AV->AS->Prop}(h:W P G (XS P G) H0 c f0 s (JQ G s n FL bs s2))(k:∀j,W P G (XS P G) H0 z (fr n FL bs j) s2 Q):W P G (XS P G) H0 (.seq c z) f0 s Q:=aHT (pW h k)
def tV{M:Option α}(h:∀y (_:M=some y),T l (some y) Z):T l M Z:=λr e=>h r e r rfl
def tj{hr:HR}{s0 s2:AS}{n:Nat}{FL:List (Nat×AV)}{bs:List Nat}{y:α}(R:Kl P G l (JQ G s0 n FL bs s2) hr (Z y):=by exact rU)(h:ZF (fr n FL bs (jR bs hr)) hr=some (.normal,Ug l,fr n FL bs (jR bs hr),s2):=by kernel_rfl):T l (some y) Z:=λr e=>by
 cases e;unfold ZF at h;split at h;simp only[atS,Prod.mk.injEq] at h;obtain⟨rfl,rfl,h1,rfl⟩:=h;exact R _ _ _ _ rfl (Nu l) ⟨rfl,_,by rw[<- h1];exact pQ.wk⟩;cases h
def tJ{A:α->Prop}{Q:α->AX->List AV->AS->Prop}{M:Option β}{k:β->Option α}{f0:List AV}{s:AS}(c z:Code){code:Code}(n:Nat)(FL:β->List (Nat×AV))(bs:List Nat)(S:β->AS)(a:T l M λy=>W P G (XS P G) H0 c f0 s (JQ G s n (FL y) bs (S y)))
   (b:∀y,M=some y->∀j,T ([]:List (PC P G)) (k y) λr=>A r->W P G (XS P G) H0 z (fr n (FL y) bs j) (S y) (Q r)) (he:code=.seq c z:=by kernel_rfl):T l (M.bind k) λr=>A r->W P G (XS P G) H0 code f0 s (Q r):=by
 subst he;refine tB λy e r hr ha=>aoE (a y e) λj=>b y e j r hr ha
end
end AI
namespace AI
open Go Go.RowKit
section
variable {P:Program}{G:AN}{α β:Type}{l:List (PC P G)}{Z:α->Prop}
def tK{A:α->Prop}{Q:α->AX->List AV->AS->Prop}{M:Option α}{f0:List AV}{s:AS}(c z:Code){code:Code}(n:Nat)(FL:List (Nat×AV))(bs:List Nat)(S:AS)(a:T l (some ()) λ_=>W P G (XS P G) H0 c f0 s (JQ G s n FL bs S))
   (b:∀j,T ([]:List (PC P G)) M λr=>A r->W P G (XS P G) H0 z (fr n FL bs j) S (Q r)) (he:code=.seq c z:=by kernel_rfl):T l M λr=>A r->W P G (XS P G) H0 code f0 s (Q r):=by
 subst he;exact λr hr ha=>aoE (a () rfl) λj=>b j r hr ha
def tBk{A:α->Prop}{Q:α->AX->List AV->AS->Prop}{M:Option α}{f0:List AV}{s:AS}(id:Nat)(z:Code){code:Code}(b:T l M λr=>A r->W P G (XS P G) H0 z f0 s (Fe id (Q r)))(he:code=.block id z:=by kernel_rfl):T l M λr=>A r->W P G (XS P G) H0 code f0 s (Q r):=by subst he;exact λr hr ha=>cR (b r hr ha)
def rEb{c:Code}{id:Nat}{fr:List AV}{s:AS}{Q:AX->List AV->AS->Prop}:Kl P G l Q (Su P G 300 c [.WK id] (pHs l) fr s) (W P G (XS P G) H0 c fr s (Fe id Q)):=aZY (ks:=[.WK id]) 300 l
end
inductive Tg2:AV->Nat->Prop where
 |sc {v:Value}{id:Nat}:Tg2 (.sc v) id
 |any {id:Nat}:Tg2 .any id
 |ptr {i off id:Nat} (h:i≠id):Tg2 (.ptr i off) id
 |pl {a:AV}{id:Nat} (h:plain a=true):Tg2 a id
def Tg2.ok{c c':Cx}{w:World}{id:Nat}(hp:∀i k,i≠id->c.Ce[i]?=some (some k)->c'.Ce[i]?=some (some k))(hv:∀g i v,MD c w g i v->MD c' w g i v){a:AV}(h:Tg2 a id){v:Value}(hr:Rp c w a v):Rp c' w a v:=by
 cases h with
 |sc=>cases hr with | sc h=>exact .sc h
 |any=>cases hr with | any h=>exact .any h
 |ptr hne=>cases hr with | ptr h=>exact .ptr (hp _ _ hne h)
 |pl h=>exact hr.plain hv h
def Tg2.okL{c c':Cx}{w:World}{id:Nat}(hp:∀i k,i≠id->c.Ce[i]?=some (some k)->c'.Ce[i]?=some (some k))(hv:∀g i v,MD c w g i v->MD c' w g i v):∀{l:List AV}{vs:List Value},(∀a∈l,Tg2 a id)->Cw c w l vs->Cw c' w l vs
 |[],_,_,h=>by cases h;exact .nil
 |a::l,_,h,hr=>by
  cases hr with|cons h1 h2=>exact .cons ((h a (biK ..)).ok hp hv h1) (Tg2.okL hp hv (λb hb=>h b (biB _ hb)) h2)
def vT{c:Cx}{w:World}{g:Nat}{T:TypeId}{f:Nat×Nat}:∀{cs:List AV}{pre us ext:List Value},w.heap[g]?=some (.cells (pre++us++ext).toArray T f)->(∀i,¬c.jX g i)->Cw c w cs us->A0 c w g pre.length cs
 |[],_,_,_,_,_,_=>.nil
 |a::cs,pre,us,ext,hw,hs,hr=>by
  cases hr with
  |@cons _ v _ us h1 h2=>
   refine .cons ⟨(aPB.1 hw).1,hs _,?_⟩ h1 ?_;simp[bjZ,hw];have:=vT (pre:=pre++[v]) (us:=us) (ext:=ext) (by simpa using hw) hs h2
   simpa using this
section
variable {P:Program}{G:AN}{Q:QE}{c0:Cx}{w0:World}
def WE.freeze{s00:AS}(hs0:St G c0 w0 s00){code:Code}{h:List (Nat×Ay)}{nx nr id n t:Nat}{F:List (Nat×Nat)}{cs fr:List AV}(hid:s00.nx<=id)
   (hg:look id ((id,.cells cs)::h)=some (.cells cs)) (hb:∀i b,look i h=some b->i≠id/\∃ds,b=.cells ds/\∀a∈ds,Tg2 a id) (hi:BC cs=true) (ht:fr[t]?=some (.Im id 0 n)) (Ob:∀a∈fr.set t .any,Tg2 a id)
   (j:WE P G (EX c0 w0) code (fr.set t (.sl .lost n cs)) ⟨h,nx,F,nr⟩ Q):WE P G (EX c0 w0) code fr ⟨(id,.cells cs)::h,nx,F,nr⟩ Q:=by
 intro cx w a K hE hs hf hd hK;have hx:Ext c0 w0 cx w:=hE;obtain⟨v,hv,hrp⟩:=hf.get ht;cases hrp with
 |Im hn hp=>
  rename_i g cap;obtain⟨o,ho,rJ⟩:=hs.box id g _ hp hg;have hl0:c0.Ce.length<=id:=by rw[<- hs0.len];exact hid
  let c':Cx:={ cx with Ce:=cx.Ce.set id none }
  have bcU:id < cx.Ce.length:=(aBC.1 hp).1
  have Pn:∀i k,i≠id->cx.Ce[i]?=some (some k)->c'.Ce[i]?=some (some k):=λi k hne hk=>by
   show(cx.Ce.set id none)[i]?=_;rw[bjB (Ne.symm hne)];exact hk
  have agI:∀i k,c'.Ce[i]?=some (some k)->i≠id/\cx.Ce[i]?=some (some k):=λi k hk=>by
   have hk:(cx.Ce.set id none)[i]?=some (some k):=hk;by_cases e:id=i;subst e;rw[List.getElem?_set_self bcU] at hk;cases hk;rw[bjB e] at hk;exact⟨Ne.symm e,hk⟩
  have Sw:∀k,some k∈c'.Ce->some k∈cx.Ce/\k≠g:=λk hk=>by
   obtain⟨i,hi⟩:=bkN.1 hk;obtain⟨h1,h2⟩:=agI _ _ hi;exact⟨aWR h2,λe=>h1 (hs.nodup _ _ _ (e▸h2) hp)⟩
  have H8:∀g i v,MD cx w g i v->MD c' w g i v:=λg i v hv=>⟨hv.1,λGz=>by
   rcases Gz with Gz | Gz | Gz
   exact hv.2.1 (.inl (Sw _ Gz).1);exact hv.2.1 (.inr (.inl Gz));exact hv.2.1 (.inr (.inr Gz)),hv.2.2⟩
  have bgT:w0.heap.size<=g:=by
   rcases hx.Yn g (aWR hp) with h9 | h9
   obtain⟨i,hi9⟩:=bkN.1 h9;have h10:i < c0.Ce.length:=(aBC.1 hi9).1;have h11:cx.Ce[i]?=some (some g):=hx.get hi9;have:=hs.nodup _ _ _ h11 hp;omega;exact h9
  have aBG:∀i,¬c'.jX g i:=λi Gz=>by
   rcases Gz with Gz | ⟨r,n',cap',sz,hr,_⟩ | Gz
   exact(Sw _ Gz).2 rfl;exact(hs.row _ _ _ _ _ hr).2.2.1 (aWR hp);have Gz:cx.bad g i:=Gz;rw[hx.bad] at Gz;have:=hs0.Ng g i Gz;omega
  have rK:Ext c0 w0 c' w:=by refine⟨?_,hx.Ia,hx.rows,λg i v hv=>H8 _ _ _ (hx.cH _ _ _ hv),hx.below,hx.base,hx.bad,λk hk=>hx.Yn k (Sw k hk).1,hx.Yx,hx.GY⟩;obtain⟨t,ht⟩:=hx.Ce;show c0.Ce <+: cx.Ce.set id none;rw[<- ht,blH _ _ hl0];exact blW _ _
  have Dc:St G c' w ⟨h,nx,F,nr⟩:=by
   refine⟨by rw[hs.len];simp[c'],hs.desc.2.mono (boP hs.desc.1),λi j k h1 h2=>hs.nodup i j k (agI _ _ h1).2 (agI _ _ h2).2,λk hk=>hs.low k (Sw k hk).1,λi k b h1 h2=>?_,hs.Ia,λr k n' cap' sz hr=>?_,hs.IZ,λk hk=>hs.NA k (Sw k hk).1,hs.Ng,hs.Ie,λk cs hk=>(hs0.Nh k cs hk).mono rK,hs.Sa,hs0.ON.mono rK⟩;obtain⟨hne,ds,rfl,hds⟩:=hb i b h2
   obtain⟨o',Wj,bcH⟩:=hs.box i k (.cells ds) (agI _ _ h1).2 (by
    simp only[AS.get,look];split;rename_i e;exact absurd (beq_true e).symm hne;exact h2)
   refine⟨o',Wj,?_⟩;cases bcH with|FA ext h8=>exact .FA ext (Tg2.okL Pn H8 hds h8)
   obtain⟨b1,b2,b3,b4,b5⟩:=hs.row _ _ _ _ _ hr;exact⟨b1,b2,λhm=>b3 (Sw _ hm).1,b4,b5⟩
  have aWV:Rp c' w (.sl .lost n cs) (.slice (some ⟨g,0,none⟩) n cap):=by
   cases rJ with
   |@FA _ us T ext h8=>
    exact .Lt hn (vT (pre:=[]) (us:=us) (ext:=ext) (by simpa using ho) aBG (h8.plain H8 hi)) trivial
  have aOJ:Cw c' w (fr.set t (.sl .lost n cs)) a.tmps.toList:=by have h8:Cw cx w (fr.set t .any) a.tmps.toList:=hf.aEH hv (.any rfl);have h9:=(Tg2.okL Pn H8 Ob h8).aEH (i:=t) hv aWV;rwa[brN] at h9
  exact j c' w a K rK Dc aOJ hd hK
def WE.join(hm:P.follows .mixedOrders=true){E:EW}(hk:Sg E){c z:Code}{f0:List AV}{s:AS}{n:Nat}{FL:List (Nat×AV)}{bs:List Nat}{s2:AS}(h:W P G (XS P G) H0 c f0 s (JQ G s n FL bs s2))(k:∀j,WE P G E z (fr n FL bs j) s2 Q):WE P G E (.seq c z) f0 s Q :=
 .seq (.of hm hk (pW h (Q:=λe f s'=>e=.normal/\∃j,f=fr n FL bs j/\s'=s2) λj=>⟨rfl,j,rfl,rfl⟩) (by rintro e f s' ⟨rfl,j,rfl,rfl⟩;exact .inl ⟨rfl,k j⟩))
def WE.piece(hm:P.follows .mixedOrders=true){E:EW}(hk:Sg E){c:Code}{f0:List AV}{s:AS}{n:Nat}{FL:List (Nat×AV)}{bs:List Nat}{s2:AS}(h:W P G (XS P G) H0 c f0 s (JQ G s n FL bs s2))(k:∀j,Q .normal (fr n FL bs j) s2 E):WE P G E c f0 s Q :=
 .of hm hk (pW h (Q:=λe f s'=>e=.normal/\∃j,f=fr n FL bs j/\s'=s2) λj=>⟨rfl,j,rfl,rfl⟩) (by rintro e f s' ⟨rfl,j,rfl,rfl⟩;exact k j)
def pQ.rfl'{s0 s:AS}{f:List AV}:pQ G s0 f s f s:=λ_ _ c' _ _ hx _ hs' Ob=>⟨c',hx,hs',Ob⟩
end
section
variable {P:Program}{G:AN}{α:Type}{f:α->List AV}{C:List α->List AV}{k:Nat}
def Pg.ldF(h:Pg f C k){e:TypeId}(hd:(P.underlying e).map OP=some false)(hs:(P.info? e).map (·.size)=some 1){l:List α}{i j:Nat}{x:α}{v:AV}(hx:l[i]?=some x)(hv:(f x)[j]?=some v):Cd.ok P G (.ldB (.cells (C l)) e (0+i*k+j) v):=by
 intro s id hg;simp only[J9,hg];unfold apart;obtain⟨d,hu,hd⟩:=Option.map_eq_some_iff.1 hd;rw[hu];cases hi:P.info? e with
 |none=>rw[hi] at hs;cases hs
 |some m=>
  simp only;rw[hd,if_neg (by simp),h.eq,bhC,<- List.getElem?_drop,SK h.len hx,bhD (aBC.1 hv).1,hv]
def amL(hl:∀x,(f x).length=k){l:List α}{i j:Nat}{x y:α}{v:AV}(hx:l[i]?=some x)(hj:j < k)(hy:f y=(f x).set j v):(rows f l).set (i*k+j) v=rows f (l.set i y):=by
 have hlt:=(aBC.1 hx).1
 have h1:l=l.take i++x::l.drop (i+1):=by have:=(aBC.1 hx).2;rw[<- this];simp
 have h2:(rows f (l.take i)).length=i*k:=by rw[HU hl,List.length_take,Nat.min_eq_left (boP hlt)]
 rw[ZH y hlt]
 conv=>lhs;rw[h1]
 rw[Mu,Mu,Fq,Fq,blH _ _ (by omega),h2,Nat.add_sub_cancel_left,List.set_append_left _ _ (by rw[hl];exact hj),hy]
def Pg.stF(h:Pg f C k){e:TypeId}(hs:(P.info? e).map (·.size)=some 1){l:List α}{i j:Nat}{x:α}(hx:l[i]?=some x)(y:α){v:AV}(hj:j < k)(hy:f y=(f x).set j v)(hv:cellsOf v=[v])(h1:one v=true):Cd.ok P G (.stB (.cells (C l)) e (0+i*k+j) v (.cells (C (l.set i y)))):=by
 intro s id hg;have hlt:=(aBC.1 hx).1;have hle:i*k+k<=l.length*k:=by have:=Nat.mul_le_mul_right k hlt;rw[Nat.succ_mul] at this;exact this
 cases hi:P.info? e with
 |none=>rw[hi] at hs;cases hs
 |some m=>
  rw[hi] at hs;have hk:m.size=1:=by simpa using hs
  unfold Lf;rw[hi];simp only[hg];rw[hv,hk,h.eq,bhC,if_pos ⟨rfl,by simp[h1],by rw[HU h.len];omega⟩,h.eq,<- amL h.len hx hj hy,List.set_eq_take_append_cons_drop,if_pos (by rw[HU h.len];omega)];simp[IV]
end
end AI
namespace LexS
def O4(n:Nat):Nat :=
 if n=32\/n=9\/n=10\/n=13 then 1
 else if 97<=n/\n<=122 then 2
 else if 65<=n/\n<=90 then 4
 else if 48<=n/\n<=57 then 8
 else if n=95 then 16
 else 0
def cin(m:Nat)(c:UInt8):Bool:=(O4 c.toNat &&& m) != 0
def Bf(m:Nat)(t:List UInt8):Nat:=(t.takeWhile (cin m)).length
def JC(m:Nat)(t:List UInt8):Bool:=match t with|[]=>false|c::_=>cin m c
def Kh(b:Bool):List UInt8->Nat
 |[]=>0
 |c::t=>
  if b then (if c=10 then 1+Kh false t else 1+Kh true t)
  else if cin 1 c then 1+Kh false t
  else if c=47/\t.head?=some 47 then 1+Kh true t
  else 0
def HV(t:List UInt8):Nat:=Kh false t
def I5(t:List UInt8)(i:Nat):Bool :=
 if i=4\/i=7 then t[i]? == some 45 else JC 8 (t.drop i)
def Il(t:List UInt8):Bool:=decide (10<=t.length)&&(List.range 10).all (I5 t)
def free(t:List UInt8):Bool:=!(JC 30 t||t.head? == some 46)
def Ik(t:List UInt8):Nat×Nat :=
 let d:=Bf 8 t
 if Il t then (if free (t.drop 10) then (5,10) else (0,0))
 else if t.head?=some 48/\1 < d then (0,0)
 else if (t.drop d).head?=some 46 then
  (if 10 < d\/JC 8 (t.drop (d+1))=false\/JC 8 (t.drop (d+2))=false then (0,0)
   else if free (t.drop (d+3)) then (4,d+3) else (0,0))
 else if 12 < d then (0,0)
 else if free (t.drop d) then (3,d) else (0,0)
def G4:List (List UInt8):=[[61,61],[33,61],[60,61],[62,61],[60],[62],[43],[45],[42],[47],[40],[41],[123],[125],[58],[59],[44]]
def R5(t:List UInt8):List (List UInt8)->Nat×Nat
 |[]=>(0,0)
 |y::ys=>if y.isPrefixOf t then (6,y.length) else R5 t ys
def A7(t:List UInt8):Nat×Nat :=
 if JC 2 t then (if Bf 30 t<=16/\Bf 26 t=Bf 30 t then (1,Bf 30 t) else (0,0))
 else if JC 4 t then (if Bf 30 t=3/\Bf 4 t=Bf 30 t then (2,Bf 30 t) else (0,0))
 else if JC 8 t then Ik t
 else R5 t G4
abbrev Tok:=Nat×List UInt8×Nat
def Lu:Nat->Nat->List UInt8->List Tok
 |0,_,_=>[]
 |n+1,o,t=>
  if t=[] then []
  else if (A7 t).1=0 then [(0,[],o)]
  else ((A7 t).1,t.take (A7 t).2,o) ::
    Lu n (o+(A7 t).2+HV (t.drop (A7 t).2)) ((t.drop (A7 t).2).drop (HV (t.drop (A7 t).2)))
def FX(s:List UInt8):List Tok:=Lu s.length (HV s) (s.drop (HV s))
end LexS
namespace LexS
def ZI(m:Nat):Bf m []=0:=rfl
def FU(m:Nat)(c:UInt8)(t:List UInt8):Bf m (c::t)=if cin m c then 1+Bf m t else 0:=by unfold Bf;rw[bmG];by_cases h:cin m c=true;simp[h];omega;simp[h]
def amT(m:Nat)(t:List UInt8):JC m (t.drop (Bf m t))=false:=by
 induction t with
 |nil=>rfl
 |cons c t ih=>
  rw[FU];by_cases h:cin m c=true;rw[if_pos h,bmP,bnC];exact ih;rw[if_neg h,List.drop_zero];simp[JC,h]
def NY(m:Nat)(t:List UInt8):Bf m t<=t.length:=by unfold Bf;exact(bqM _).length_le
def akX(t:List UInt8):Kh false t=Bf 1 t+Kh false (t.drop (Bf 1 t)):=by
 induction t with
 |nil=>rfl
 |cons c t ih=>
  rw[FU];by_cases h:cin 1 c=true;rw[if_pos h,bmP 1,bnC,Kh];simp only[h,biF,if_false,if_true];omega;rw[if_neg h];simp
def Z5(t:List UInt8)(h:[47,47].isPrefixOf t=true):Kh false t=Kh true t:=by
 obtain⟨u,rfl⟩:∃u,t=47::47::u:=by obtain⟨u,hu⟩:=bkE.1 h;exact⟨u,by simpa using hu.symm⟩
 rw[Kh]
 conv=>rhs;rw[Kh]
 simp[cin,O4]
def wN(t:List UInt8)(h1:JC 1 t=false)(h:[47,47].isPrefixOf t=false):Kh false t=0:=by
 cases t with
 |nil=>rfl
 |cons c t=>
  rw[Kh];have h1':cin 1 c=false:=h1;simp only[h1',biF,if_false];rw[if_neg];rintro⟨rfl,h2⟩;cases t with|nil=>simp at h2|cons d t=>simp at h2;subst h2;simp[List.isPrefixOf] at h
def wM(t:List UInt8):Kh true (10::t)=Kh false (10::t):=by rw[Kh,Kh];simp[cin,O4]
def aqT(c:UInt8)(t:List UInt8)(h:c≠10):Kh true (c::t)=1+Kh true t:=by rw[Kh];simp[h]
def aAS(b:Bool)(t:List UInt8):Kh b t<=t.length:=by
 induction t generalizing b with
 |nil=>simp[Kh]
 |cons c t ih=>
  rw[Kh];have h1:=ih true;have h2:=ih false
  repeat' split
  all_goals simp only[bhE];omega
def VH(t:List UInt8):HV t<=t.length:=aAS _ _
def OR(b a:List UInt8):b.isPrefixOf a=(a.take b.length == b):=by rw[Bool.eq_iff_iff,bkE,List.prefix_iff_eq_take,beq_iff_eq];exact eq_comm
end LexS
namespace LexS
def awY(t:List UInt8)(ys:List (List UInt8))(h:(R5 t ys).1≠0)(hy:∀y∈ys,1<=y.length):1<=(R5 t ys).2/\(R5 t ys).2<=t.length:=by
 induction ys with
 |nil=>simp[R5] at h
 |cons y ys ih=>
  rw[R5] at h ⊢;by_cases hp:y.isPrefixOf t=true;rw[if_pos hp];exact⟨hy y (by simp),(bkE.1 hp).length_le⟩;rw[if_neg hp] at h ⊢;exact ih h (λy' h'=>hy y' (by simp[h']))
def X8(m:Nat)(t:List UInt8)(h:JC m t=true):1<=Bf m t:=by cases t with|nil=>simp[JC] at h|cons c t=>have h':cin m c=true:=h;rw[FU,if_pos h'];omega
def aAA(c:UInt8)(m m':Nat)(h:cin m c=true)(hs:∀k,k=0\/k=1\/k=2\/k=4\/k=8\/k=16->(k &&& m)≠0->(k &&& m')≠0):cin m' c=true:=by
 unfold cin at h ⊢;rw[bne_iff_ne] at h ⊢;refine hs _ ?_ h;unfold O4
 repeat (split;simp)
 simp
def agO(t:List UInt8)(m m':Nat)(h:JC m t=true)(hs:∀k,k=0\/k=1\/k=2\/k=4\/k=8\/k=16->(k &&& m)≠0->(k &&& m')≠0):JC m' t=true:=by cases t with|nil=>simp[JC] at h|cons c t=>exact aAA c m m' h hs
def aBN(m:Nat)(t:List UInt8)(k:Nat)(h:JC m (t.drop k)=true):k < t.length:=by
 rcases Nat.lt_or_ge k t.length with hk | hk
 exact hk;rw[List.drop_eq_nil_of_le hk] at h;simp[JC] at h
def aqN(t:List UInt8)(h8:JC 8 t=true)(h:(Ik t).1≠0):1<=(Ik t).2/\(Ik t).2<=t.length:=by
 have hd:=X8 8 t h8;have hl:=NY 8 t;unfold Ik at h ⊢;simp only at h ⊢;by_cases h1:Il t=true;rw[if_pos h1] at h ⊢;by_cases h2:free (t.drop 10)=true;rw[if_pos h2];have:10<=t.length:=by unfold Il at h1;simp at h1;exact h1.1
 exact⟨by simp,this⟩;rw[if_neg h2] at h;simp at h;rw[if_neg h1] at h ⊢;by_cases h2:t.head?=some 48/\1 < Bf 8 t;rw[if_pos h2] at h;simp at h;rw[if_neg h2] at h ⊢;by_cases h3:(t.drop (Bf 8 t)).head?=some 46;rw[if_pos h3] at h ⊢;by_cases h4:10 < Bf 8 t\/JC 8 (t.drop (Bf 8 t+1))=false\/JC 8 (t.drop (Bf 8 t+2))=false;rw[if_pos h4] at h;simp at h;rw[if_neg h4] at h ⊢;by_cases h5:free (t.drop (Bf 8 t+3))=true;rw[if_pos h5]
 have h6:JC 8 (t.drop (Bf 8 t+2))=true:=by cases hh:JC 8 (t.drop (Bf 8 t+2)) with|true=>rfl|false=>exact absurd (.inr (.inr hh)) h4
 have:=aBN 8 t _ h6;exact⟨by simp,by simp only;omega⟩;rw[if_neg h5] at h;simp at h;rw[if_neg h3] at h ⊢;by_cases h4:12 < Bf 8 t;rw[if_pos h4] at h;simp at h;rw[if_neg h4] at h ⊢;by_cases h5:free (t.drop (Bf 8 t))=true;rw[if_pos h5];exact⟨hd,hl⟩;rw[if_neg h5] at h;simp at h
def Vc(t:List UInt8)(h:(A7 t).1≠0):1<=(A7 t).2/\(A7 t).2<=t.length:=by
 have hl:=NY 30 t;unfold A7 at h ⊢;by_cases h2:JC 2 t=true;have hd:=X8 30 t (agO t 2 30 h2 (by intro k hk;rcases hk with rfl | rfl | rfl | rfl | rfl | rfl<;>decide))
 rw[if_pos h2] at h ⊢;by_cases hc:Bf 30 t<=16/\Bf 26 t=Bf 30 t;rw[if_pos hc];exact⟨hd,hl⟩;rw[if_neg hc] at h;simp at h;rw[if_neg h2] at h ⊢;by_cases h4:JC 4 t=true;have hd:=X8 30 t (agO t 4 30 h4 (by intro k hk;rcases hk with rfl | rfl | rfl | rfl | rfl | rfl<;>decide))
 rw[if_pos h4] at h ⊢;by_cases hc:Bf 30 t=3/\Bf 4 t=Bf 30 t;rw[if_pos hc];exact⟨hd,hl⟩;rw[if_neg hc] at h;simp at h;rw[if_neg h4] at h ⊢;by_cases h8:JC 8 t=true;rw[if_pos h8] at h ⊢;exact aqN t h8 h;rw[if_neg h8] at h ⊢;exact awY t G4 h (by decide)
def GW(s:List UInt8)(k:Nat):List Tok:=Lu (s.length - k) k (s.drop k)
def aW(n m o:Nat)(t:List UInt8)(hn:t.length<=n)(hm:t.length<=m):Lu n o t=Lu m o t:=by
 induction n generalizing m o t with
 |zero=>
  have:t=[]:=by cases t with | nil=>rfl | cons c t=>simp at hn
  subst this;cases m with|zero=>rfl|succ m=>simp[Lu]
 |succ n ih=>
  cases m with
  |zero=>
   have:t=[]:=by cases t with | nil=>rfl | cons c t=>simp at hm
   subst this;simp[Lu]
  |succ m=>
   rw[Lu,Lu];by_cases ht:t=[];rw[if_pos ht,if_pos ht];rw[if_neg ht,if_neg ht];by_cases hz:(A7 t).1=0;rw[if_pos hz,if_pos hz];rw[if_neg hz,if_neg hz];have hp:=Vc t hz;refine congrArg _ (ih m _ _ ?_ ?_);simp only[bhI];omega;simp only[bhI];omega
def aV(s:List UInt8)(k:Nat)(h:s.length<=k):GW s k=[]:=by unfold GW;rw[show s.length - k=0 from by omega];rfl
def Vu(s:List UInt8)(k:Nat)(h:k < s.length)(hz:(A7 (s.drop k)).1=0):GW s k=[(0,[],k)]:=by unfold GW;obtain⟨n,hn⟩:∃n,s.length - k=n+1:=⟨s.length - k - 1,by omega⟩;rw[hn,Lu,if_neg (by intro e;have:=congrArg bmC e;simp at this;omega),if_pos hz]
def Vv(s:List UInt8)(k:Nat)(h:k < s.length)(hz:(A7 (s.drop k)).1≠0) :
   GW s k=((A7 (s.drop k)).1,(s.drop k).take (A7 (s.drop k)).2,k)::GW s (k+(A7 (s.drop k)).2+HV (s.drop (k+(A7 (s.drop k)).2))):=by
 have hp:=Vc _ hz;rw[bhI] at hp;unfold GW;obtain⟨n,hn⟩:∃n,s.length - k=n+1:=⟨s.length - k - 1,by omega⟩;rw[hn,Lu,if_neg (by intro e;have:=congrArg bmC e;simp at this;omega),if_neg hz];refine congrArg _ ?_;rw[biU,biU];refine aW _ _ _ _ ?_ ?_;rw[bhI];omega;rw[bhI];omega
def pP(s:List UInt8):FX s=GW s (HV s):=by unfold FX GW;exact aW _ _ _ _ (by rw[bhI];omega) (by rw[bhI];omega)
def FC:List Tok->List Tok->List Tok×Nat×Nat
 |acc,[]=>(acc,0,0)
 |acc,x::r=>if acc.length=2000 then ([],2,x.2.2) else if x.1=0 then ([],61,x.2.2) else FC (acc++[x]) r
def Of(s:List UInt8):List Tok×Nat×Nat:=if 6000 < s.length then ([],2,0) else FC [] (FX s)
def vC(l:List Tok):Prop:=l.length<=2000/\∀x∈l,x.1≠0
def aE(acc q r:List Tok)(h:vC (acc++q)):FC acc (q++r)=FC (acc++q) r:=by
 induction q generalizing acc with
 |nil=>simp
 |cons x q ih=>
  rw[List.cons_append,FC];have h1:=h.1;rw[List.length_append,bhE] at h1;rw[if_neg (by omega),if_neg (h.2 x (by simp))];have:=ih (acc++[x]) (by simpa using h)
  simpa using this
end LexS
namespace Go.Proofs.YtpbkhogolfegfaaGreatDoor
open Go.RowKit LexS
def Jo:Array Value:=(G4.map λy=>Value.string ⟨y.toArray⟩).toArray
def Ph(w:World):Prop:=(∀i,i < 128->w.cell? ⟨3,i,none⟩=some (.int .u8 (O4 i)))/\(∀(j:Nat) v,Jo.toList[j]?=some v->w.cell? ⟨0,j,none⟩=some v)
def Ph.O4{w:World}(h:Ph w)(i:Nat)(hi:i < 128):w.cell? ⟨3,i,none⟩=some (.int .u8 (O4 i)):=by exact h.1 i hi
def Ph.GY{w w':World}(h:Ph w)(hk:w'.heap[(3:Nat)]?=w.heap[(3:Nat)]?/\w'.heap[(0:Nat)]?=w.heap[(0:Nat)]?):Ph w':=by
 refine⟨λi hi=>?_,λj v hj=>?_⟩
 ·rw[bmB (w:=w) hk.1];exact h.1 i hi
 ·rw[bmB (w:=w) hk.2];exact h.2 j v hj
def TB(n:Nat):Prop:=3 < n/\0 < n
def afT{w:World}{g i:Nat}{v:Value}(h:w.cell? ⟨g,i,none⟩=some v):g < w.heap.size:=by
 unfold bjZ at h;by_cases hg:g < w.heap.size
 ·exact hg
 ·rw[bmM (by simpa using hg)] at h
  cases h
def Ph.tb{w:World}(h:Ph w):TB w.heap.size:=⟨afT (h.1 0 (by decide)),afT (h.2 0 _ rfl)⟩
def YR{P:Program}{ops:Array Oper}{rest:List Oper}{o:Oper}{a:Act}{w:World}{Q:Exit->Act->World->Prop}(hgd:o.guard=none)(ty:TypeId)(x:Operand)(ho:o.op=.load ty x)
   (g:Nat) (hx:a.eval x=.pointer (some ⟨g,0,none⟩)) (cs:Array Value) (d:TypeDesc) (hg:∀(j:Nat) v,cs.toList[j]?=some v->w.cell? ⟨g,j,none⟩=some v)
   (hu:P.underlying ty=some d) (hd:(match d with | .struct _ | .array _ _=>true | _=>false)=true) (hi:(P.info? ty).map (·.size)=some cs.size)
   (h:wpList P ops Q rest (a.put o.dst (.agg cs)) w):wpList P ops Q (o::rest) a w:=by
 have hl:(loadCells ⟨g,0,none⟩ cs.toList.length).run P w=.ok cs.toList.toArray w :=
  run_loadCells_list (P:=P) w ⟨g,0,none⟩ cs.toList (λj v hv=>by
   have hadd:(⟨g,0,none⟩:Addr).add j=⟨g,j,none⟩:=by unfold Addr.add;split<;>simp_all
   rw[hadd];exact hg j v hv)
 have hrow:(loadVar ty ⟨g,0,none⟩).run P w=.ok (.agg cs) w:=by
  cases hq:P.info? ty with
  |none=>simp[hq] at hi
  |some i=>
   have hs:i.size=cs.size:=by simpa[hq] using hi
   have hagg:(isAgg ty).run P w=.ok true w:=by unfold isAgg;rw[biG,run_underlying hu w];cases d<;>simp_all
   simp only[biR,Array.toArray_toList] at hl;simp[loadVar,biG,hagg,Go.sizeOf,typeInfo,hq,hs,hl]
 refine wpList_plain hgd λ_ hK=>?_;unfold Oper.wp execOp;simp only[ho,hx,Instr.loadAt,Instr.sureAddr,biG,Sem.run_pure,biD,hrow];exact hK _ _ h
abbrev L(s:ByteArray):List UInt8:=s.data.toList
def S4(s:ByteArray)(k:Nat)(h:k < s.size):(L s).drop k=s[k]::(L s).drop (k+1):=by rw[List.drop_eq_getElem_cons (by simpa using h)];rfl
def fZ(s:ByteArray)(k:Nat)(h:s.size<=k):(L s).drop k=[]:=by rw[List.drop_eq_nil_iff];simpa using h
def okm(m:Nat):Bool:=m == 1||m == 2||m == 4||m == 8||m == 26||m == 30
def apQ(n:Nat):O4 n=0\/O4 n=1\/O4 n=2\/O4 n=4\/O4 n=8\/O4 n=16:=by
 unfold O4;repeat (split;simp)
 simp
def qM(n:Nat)(h:128<=n):O4 n=0:=by unfold O4;rw[if_neg (by omega),if_neg (by omega),if_neg (by omega),if_neg (by omega),if_neg (by omega)]
def aoQ(n m:Nat)(hm:okm m=true):(bits BinOp.and IntKind.u8 (O4 n:Int) (m:Int) != 0)=((O4 n &&& m) != 0):=by
 have hm':m=1\/m=2\/m=4\/m=8\/m=26\/m=30:=by simp[okm] at hm;omega
 rcases apQ n with h | h | h | h | h | h<;>rw[h]<;>rcases hm' with rfl | rfl | rfl | rfl | rfl | rfl<;>decide
set_option maxHeartbeats 400000 in
def JZ(s:ByteArray)(a:Int)(m:Nat)(w:World)(hT:Ph w)(h0:0<=a)(hm:okm m=true) :
   Calls Tryz.prog 152 #[.string s,.int .i64 a,.int .u8 m] w λe w'=>e=.returned (.bool (JC m ((L s).drop a.toNat)))/\w=w':=by
 obtain⟨k,rfl⟩:=blA h0;rw[biN];by_cases ha:k < s.size
 ·have e1:JC m ((L s).drop k)=cin m s[k]:=by rw[S4 s k ha];rfl
  have E1:=bhH e1;clear e1;have HM:=bhH hm;clear hm;by_cases h128:(s[k].toNat:Int) < 128
  ·have hc:=hT.O4 s[k].toNat (by omega)
   go_enter Tryz.func152,Tryz.ntmps152
   go_wp2
   go_ret
   refine⟨?_,rfl⟩;rw[E1.out];have:=aoQ s[k].toNat m HM.out;exact congrArg (λb=>bnL (.bool b)) this
  ·have e2:cin m s[k]=false:=by unfold cin;rw[qM _ (by omega)];simp
   have E2:=bhH e2;clear e2
   go_enter Tryz.func152,Tryz.ntmps152
   go_wp2
   go_ret
   exact⟨by rw[E1.out,E2.out];rfl,rfl⟩
 ·have e1:JC m ((L s).drop k)=false:=by rw[fZ s k (by omega)];rfl
  have E1:=bhH e1;clear e1
  go_enter Tryz.func152,Tryz.ntmps152
  go_wp2
  go_ret
  exact⟨by rw[E1.out];rfl,rfl⟩
def aaB(m:Nat)(s:ByteArray)(k:Nat)(h:JC m ((L s).drop k)=true):k+Bf m ((L s).drop k)=k+1+Bf m ((L s).drop (k+1))/\k < s.size:=by
 by_cases hk:k < s.size
 ·rw[S4 s k hk] at h ⊢
  have h':cin m s[k]=true:=h;refine⟨?_,hk⟩;unfold Bf;rw[bmG,if_pos h'];simp;omega
 ·rw[fZ s k (by omega)] at h;simp[JC] at h
def avS(m:Nat)(t:List UInt8)(h:JC m t=false):Bf m t=0:=by cases t with|nil=>rfl|cons c t=>unfold Bf;rw[bmG];have:cin m c=false:=h;simp[this]
def aaI(m:Nat)(t:List UInt8):Bf m t<=t.length:=by unfold Bf;exact(bqM _).length_le
set_option maxHeartbeats 400000 in
def TK(s:ByteArray)(a:Int)(m:Nat)(w:World)(hs:s.size<=9223372036854775806)(hT:Ph w)(h0:0<=a)(hm:okm m=true) :
   Calls Tryz.prog 150 #[.string s,.int .i64 a,.int .u8 m] w λe w'=>e=.returned (.int .i64 (a+Bf m ((L s).drop a.toNat):Int))/\w=w':=by
 obtain⟨k0,rfl⟩:=blA h0;rw[biN];have HM:=bhH hm;clear hm
 go_enter Tryz.func150,Tryz.ntmps150
 go_wp2_with fail
 go_loop [1] (λi=>∃k:Nat,Hid (k+Bf m ((L s).drop k)=k0+Bf m ((L s).drop k0))/\i=.int .i64 k) (λi=>s.size - (intOf i).toNat)
 case atStart=>exact⟨k0,bhH rfl,rfl⟩
 case round=>
  obtain⟨k,HK,rfl⟩:=hrel;cases hb:JC m ((L s).drop k) with
  |true=>
   obtain⟨e1,hlt⟩:=aaB m s k hb;have E1:=bhH e1;clear e1;have HB:=bhH hb;clear hb
   go_wp2_with fail
   refine(JZ s _ m _ hT (by omega) HM.out).mono ?_;rintro e w' ⟨rfl,rfl⟩;rw[biN,HB.out]
   go_wp2_with fail
   go_round
   case rel=>exact⟨k+1,bhH (by rw[<- HK.out,E1.out]),by go_num⟩
   case measure=>simp[intOf];omega
  |false=>
   have HB:=bhH hb;clear hb
   go_wp2_with fail
   refine(JZ s _ m _ hT (by omega) HM.out).mono ?_;rintro e w' ⟨rfl,rfl⟩;rw[biN,HB.out]
   go_wp2_with fail
   go_ret
   refine⟨?_,rfl⟩;have h1:=HK.out;rw[avS m _ HB.out] at h1;exact congrArg (λn:Int=>bnL (.int .i64 n)) (by omega)
end Go.Proofs.YtpbkhogolfegfaaGreatDoor
