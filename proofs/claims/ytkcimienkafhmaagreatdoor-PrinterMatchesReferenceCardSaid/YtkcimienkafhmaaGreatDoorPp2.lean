/- Part of a proof: see the last text. -/
import Derived.Test.YtkcimienkafhmaaGreatDoorPp1
import Derived.Test.YtkcimienkafhmaaGreatDoorProg
import Derived.WalkKit
import Derived.WalkLawsBesides
import Derived.WalkSpells
import Derived.Lib.Hide
import Derived.Laws.Rows
import Derived.Recover
import Derived.StillTailTactics
import Derived.Deep.RegionHeld3
import Derived.Lib.Builder
import Derived.Lib.UnsafeStr
import Derived.Laws.Externs
import Derived.Test.YtkcimienkafhmaaGreatDoorChecked
set_option linter.all false
noncomputable section
open Array renaming all_eq_true_iff_forall_mem->bdZ,getElem?_eq_none->beQ,getElem?_eq_some_iff->aHQ,length_toList->bbN,replicate->bdG
open Bool renaming and_eq_true->aUR,and_eq_true_iff->bcO,false_eq_true->bbC
open ByteArray renaming empty->VE
open Go.Act renaming eval->blA
open Go.Builtin renaming unsafeSliceData_->bfB,unsafeString_->bfM
open Go.Ending renaming returned->bgB
open Go.Exit renaming thenS->bgU
open Go.Instr renaming makeFunc->blD
open Go.Lib renaming cell_of_heap->bfR,hid->aUT,run_unsafeSliceData_row->bhL,run_unsafeString_none->bfU
open Go.Oper renaming upon->blS,upon_value->biT
open Go.Region renaming ready->bgO
open Go.Result renaming andThen->bjC,andThen_ok->baZ
open Go.Sem renaming run_bind->bbA
open Go.World renaming cell?->bcM,cell?_of_block->beY,frozen?->bfA,shape?->bkD,size_alloc->bdA
open Int renaming eq_ofNat_of_zero_le->bcD,toNat_natCast->aUW
open List renaming drop_drop->bbO,drop_succ_cons->bfE,getElem?_of_mem->beI,isPrefixOf_iff_prefix->bdB,length->bfG,length_cons->amN,length_drop->aUZ,length_map->bcQ,map_snd_zip->bkM,mem_map->bfI,setIfInBounds_toArray->bfN,set_cons_succ->bjV,set_cons_zero->bjU,takeWhile_cons->beM,takeWhile_prefix->biW
open List.cons renaming sizeOf_spec->bfL
open Nat renaming add_comm->bfH,beq->bcA,eq_of_beq_eq_true->bcI,le_refl->aHT,le_trans->bbM,lt_of_lt_of_le->aUS,lt_or_ge->bdS,lt_succ_self->bdH,not_lt_zero->beX
open SizeOf renaming sizeOf->biA
namespace Go.Proofs.YtkcimienkafhmaaGreatDoor
open AI Go Go.RowKit
def wW(x y z:Value)(w:World) :
   CallsD Tryz.prog 76 #[x,y,z] .returning w λe u' w'=>e=.returned (.tuple #[])/\u'=.returning/\w'=w:=by
 refine callsD_of_wpS Tryz.func76 rfl λc₀ cs hu=>?_;apply wpS_seq;apply wpS_region;simp[wpOpsS,go_sem,recoverD,hu,Tryz.ntmps76,bgU];apply wpS_seq;apply wpS_region;simp[wpOpsS,go_sem,bgU];refine wpS_cond (t:=false) (by simp[blA,bdG]) ?_;simp only[bbC,if_false];refine wpS_of_wp (wp_skip ?_);cases c₀;simp_all [bodyPostS,results,Tryz.results76]
def lK(a b:Int)(w:World):(Instr.typeAssert (.iface 56 (.agg #[.int .i64 a,.int .i64 b])) 20 56 true).run Tryz.prog w=.ok (.tuple #[.agg #[.int .i64 a,.int .i64 b],.bool true]) w:=by kernel_rfl
def jL:Array Value:=#[.int .i64 0,.string ⟨#[]⟩,.string ⟨#[]⟩,.int .i64 0,.int .i64 0,.int .i64 0,.int .i64 0,.int .i64 0,.slice none 0 0,.slice none 0 0,.int .i64 0]
def aEE{P:Program}{md:Region.Mode}{Q:Exit->Act->World->Prop}{S:World->Prop}{l:List Oper}{i:Nat}{oi:Oper}{v:Value}{fuel:Nat}{listed:Array Bool}{a:Act}{w:World}(hi:l[i]?=some oi)
   (hs:Region.noSelect l.toArray=true) (hf:Region.free md l.toArray listed i=true) (hr:(bgO md l.toArray listed).contains i=true)
   (hQ:∀c a w,Q (.panic c) (a.put oi.dst v) w->Q (.panic c) a w) (hy:YieldsIf P l.toArray S oi v a) (hS:S w)
   (h:wpAnyH P md l.toArray Q S fuel (listed.setIfInBounds i true) (a.put oi.dst v) w):wpAnyH P md l.toArray Q S (fuel+1) listed a w :=
 wpAnyH_take (by simpa using hi) hs hf hr hQ hy hS h
def zH{P:Program}{md:Region.Mode}{Q:Exit->Act->World->Prop}{S:World->Prop}{l:List Oper}{i:Nat}{o:Oper}{fuel:Nat}{listed:Array Bool}{a:Act}{w:World}(hr:bgO md l.toArray listed=[i])(ho:l[i]?=some o)
   (h:∀K':Act->World->Prop,Shut (∀a w,S w->(S w->wpAnyH P md l.toArray Q S fuel (listed.setIfInBounds i true) a w)->K' a w)->if Region.wanted o (yielded l.toArray a.tmps)=true then Oper.wp P o a w K' Q else K' (a.put o.dst undef) w):
   wpAnyH P md l.toArray Q S (fuel+1) listed a w :=
 wpAnyH_ready hr (by simp) (AllReadyH.cons (by simpa using ho) h AllReadyH.nil)
def arY(P:Program)(w:World)(g:Nat)(t:TypeId)(old cells:Array Value)(hg:w.heap[g]?=some (.cells old t (0,0)))(ho:old.size=cells.size)(h1:cells.all (·.oneCell')=true):(storeCells ⟨g,0,none⟩ cells.toList).run P w=.ok () (w.setRow g cells):=by
 have:=run_storeCells_from (P:=P) g t cells.toList 0 old w hg (by simp;omega) (λv hv=>(bdZ.1 h1) v (by simpa using hv))
 simpa using this
def aiX(n d o:Nat)(a b:Int)(w w':World):Prop :=
 w'.heap[n]?=some (.cells jL 27 (0,0))/\w'.heap[d]?=some (.cells #[.int .i64 a,.int .i64 b] 56 (0,0))/\w'.heap[o]?=some (.cells #[.bool false] 4 (0,0))/\S4 w w' (λk=>k=n\/k=d\/k=o)
set_option maxRecDepth 20000 in
set_option maxHeartbeats 4000000 in
def wV(n d o:Nat)(a b:Int)(older:List PanicEntry)(w:World)(zn zd zo:Array Value)(hnd:n≠d)(hno:n≠o)(hdo:d≠o)
   (hn:w.heap[n]?=some (.cells zn 27 (0,0))) (hd:w.heap[d]?=some (.cells zd 56 (0,0))) (ho:w.heap[o]?=some (.cells zo 4 (0,0))) (kn:zn.size=11) (kd:zd.size=2) (ko:zo.size=1):
   CallsD Tryz.prog 76 #[.pointer (some ⟨n,0,none⟩),.pointer (some ⟨d,0,none⟩),.pointer (some ⟨o,0,none⟩)] (.panicking ({ v:=.iface 56 (.agg #[.int .i64 a,.int .i64 b]),recovered:=false }::older)) w λe u' w'=>
    e=.returned (.tuple #[])/\u'=.panicking ({ v:=.iface 56 (.agg #[.int .i64 a,.int .i64 b]),recovered:=true }::older)/\aiX n d o a b w w':=by
 have ln:n < w.heap.size:=(aHQ.1 hn).1;have ld:d < w.heap.size:=(aHQ.1 hd).1;have lo:o < w.heap.size:=(aHQ.1 ho).1;have HN:=aUT hn;have HD:=aUT hd;have HO:=aUT ho;have KK:=aUT (And.intro kn (And.intro kd ko));clear hn hd ho kn kd ko;refine callsD_of_wpS Tryz.func76 rfl λc₀ cs hu=>?_;apply wpS_seq;apply wpS_region;simp[wpOpsS,go_sem,recoverD,hu,Tryz.ntmps76,bgU];clear hu;have hta:=lK a b;apply wpS_seq;apply wpS_region;simp[wpOpsS,go_sem,bgU];refine wpS_cond (t:=true) (by simp[blA,bdG]) ?_;simp only[if_true];apply wpS_seq;apply wpS_region;simp[wpOpsS,go_sem,bgU,lK];apply wpS_seq;apply wpS_seq;apply wpS_region;simp[wpOpsS,go_sem,bgU];refine wpS_cond (t:=false) (by simp[blA,bdG]) ?_;simp only[bbC,if_false];refine wpS_of_wp (wp_skip ?_);simp only[bgU];refine wpS_of_wp ?_;clear hta;have hf:=heap_alloc_new w (.cells #[.int .i64 a,.int .i64 b] 56);have HB:S4 w (w.alloc (.cells #[.int .i64 a,.int .i64 b] 56)) (λ_=>False):=OQ w _;generalize w.alloc (.cells #[.int .i64 a,.int .i64 b] 56)=w1 at hf HB ⊢;have hn1:w1.heap[n]?=some (.cells zn 27 (0,0)):=(HB.block n ln id).trans HN.out;have hd1:w1.heap[d]?=some (.cells zd 56 (0,0)):=(HB.block d ld id).trans HD.out;have ho1:w1.heap[o]?=some (.cells zo 4 (0,0)):=(HB.block o lo id).trans HO.out;clear HN HD HO;refine wp_region_held_drew (S:=λv=>v.heap[w.heap.size]?=some (.cells #[.int .i64 a,.int .i64 b] 56 (0,0))/\S4 w v (λk=>k=n\/k=d\/k=o)) (by kernel_rfl) ⟨hf,⟨HB.os,HB.tape,HB.output,HB.size,λk hk _=>HB.block k hk id⟩⟩ (λhHeld=>?_);have hw1:w1.drew.heap=w1.heap:=rfl;rw[<- hw1] at hn1 hd1 ho1;generalize w1.drew=w2 at hHeld hn1 hd1 ho1 ⊢;clear hw1 hf HB w1;refine aEE (i:=0) (v:=.agg jL) rfl (by kernel_rfl) (by kernel_rfl) (by kernel_rfl) (λ_ _ _ h=>h) (Or.inl ⟨by rfl,?_⟩) hHeld ?_
 ·intro v hv;go_simp;rfl
 try simp only[Act.put,bfN,bjU,bjV]
 refine aEE (i:=1) (v:=.agg #[.int .i64 a,.int .i64 b]) rfl (by kernel_rfl) (by kernel_rfl) (by kernel_rfl) (λ_ _ _ h=>h) (Or.inl ⟨by rfl,?_⟩) hHeld ?_
 ·intro v hv
  have g0:v.cell? ⟨w.heap.size,0,none⟩=some (.int .i64 a):=by simp[bcM,hv.1]
  have g1:v.cell? ⟨w.heap.size,1,none⟩=some (.int .i64 b):=by simp[bcM,hv.1]
  go_simp
 try simp only[Act.put,bfN,bjU,bjV]
 refine zH (i:=2) (by kernel_rfl) rfl (λK hK=>?_)
 go_simp
 have hne:w.heap.size≠n:=by omega
 have c1:=GB w2 n jL;have s1:=setRow_heap w2 n _ jL _ _ hn1;have t1:(w2.setRow n jL).heap[d]?=some (.cells zd 56 (0,0)):=(c1.block d (aUS ld hHeld.2.size) (λe=>hnd e.symm)).trans hd1;have u1:(w2.setRow n jL).heap[o]?=some (.cells zo 4 (0,0)):=(c1.block o (aUS lo hHeld.2.size) (λe=>hno e.symm)).trans ho1;have f1:(w2.setRow n jL).heap[w.heap.size]?=some (.cells #[.int .i64 a,.int .i64 b] 56 (0,0)):=(c1.block _ (aHQ.1 hHeld.1).1 hne).trans hHeld.1;have C1:S4 w (w2.setRow n jL) (λk=>k=n\/k=d\/k=o):=⟨c1.os.trans hHeld.2.os,c1.tape.trans hHeld.2.tape,c1.output.trans hHeld.2.output,bbM hHeld.2.size c1.size,λk hk hq=>(c1.block k (aUS hk hHeld.2.size) (λe=>hq (.inl e))).trans (hHeld.2.block k hk hq)⟩;rw[if_pos (by rfl),arY _ _ _ _ _ jL hn1 KK.out.1 (by kernel_rfl)];simp only[baZ,blS];refine hK.out _ _ ⟨f1,C1⟩ λ_=>?_;clear hK K hHeld hn1 hd1 ho1 c1;generalize w2.setRow n jL=w3 at s1 t1 u1 f1 C1 ⊢;refine zH (i:=3) (by kernel_rfl) rfl (λK hK=>?_)
 go_simp
 have c2:=GB w3 d #[.int .i64 a,.int .i64 b];have s2:=setRow_heap w3 d _ #[.int .i64 a,.int .i64 b] _ _ t1;have t2:(w3.setRow d #[.int .i64 a,.int .i64 b]).heap[n]?=some (.cells jL 27 (0,0)):=(c2.block n (aUS ln C1.size) hnd).trans s1;have u2:(w3.setRow d #[.int .i64 a,.int .i64 b]).heap[o]?=some (.cells zo 4 (0,0)):=(c2.block o (aUS lo C1.size) (λe=>hdo e.symm)).trans u1;have f2:(w3.setRow d #[.int .i64 a,.int .i64 b]).heap[w.heap.size]?=some (.cells #[.int .i64 a,.int .i64 b] 56 (0,0)):=(c2.block _ (aHQ.1 f1).1 (by omega)).trans f1;have C2:S4 w (w3.setRow d #[.int .i64 a,.int .i64 b]) (λk=>k=n\/k=d\/k=o):=⟨c2.os.trans C1.os,c2.tape.trans C1.tape,c2.output.trans C1.output,bbM C1.size c2.size,λk hk hq=>(c2.block k (aUS hk C1.size) (λe=>hq (.inr (.inl e)))).trans (C1.block k hk hq)⟩
 obtain⟨x0,x1,hzd⟩:∃x0 x1,zd=#[x0,x1]:=by
  obtain⟨l⟩:=zd;have hl:l.length=2:=KK.out.2.1
  match l,hl with|[x0,x1],_=>exact⟨x0,x1,rfl⟩
 have t1:=hzd▸t1;have p0:w3.cell? ⟨d,0,none⟩=some x0:=by simp[bcM,t1]
 have q0:w3.frozen? ⟨d,0,none⟩=false:=by simp[bfA,t1]
 have e0:w3.setCell ⟨d,0,none⟩ (.int .i64 a)=w3.setRow d #[.int .i64 a,x1]:=setCell_eq_setRow w3 _ 0 _ _ _ _ t1;have r0:=setRow_heap w3 d _ #[.int .i64 a,x1] _ _ t1;have p1:(w3.setRow d #[.int .i64 a,x1]).cell? ⟨d,1,none⟩=some x1:=by simp[bcM,r0]
 have q1:(w3.setRow d #[.int .i64 a,x1]).frozen? ⟨d,1,none⟩=false:=by simp[bfA,r0]
 have e1:(w3.setRow d #[.int .i64 a,x1]).setCell ⟨d,1,none⟩ (.int .i64 b)=(w3.setRow d #[.int .i64 a,x1]).setRow d #[.int .i64 a,.int .i64 b]:=setCell_eq_setRow _ _ 1 _ _ _ _ r0;simp only[p0,q0,e0,bbC,if_false,baZ,p1,q1,e1,setRow_setRow,blS];refine hK.out _ _ ⟨f2,C2⟩ λ_=>?_;clear hK K s1 t1 u1 f1 C1 c2;generalize w3.setRow d #[.int .i64 a,.int .i64 b]=w4 at s2 t2 u2 f2 C2 ⊢;refine zH (i:=4) (by kernel_rfl) rfl (λK hK=>?_)
 go_simp
 obtain⟨z0,hz0⟩:∃z0,zo=#[z0]:=Array.size_eq_one_iff.1 KK.out.2.2;subst hz0;have c3:=GB w4 o #[.bool false];have s3:=setRow_heap w4 o _ #[.bool false] _ _ u2;have e3:w4.setCell ⟨o,0,none⟩ (.bool false)=w4.setRow o #[.bool false]:=setCell_eq_setRow w4 _ 0 _ _ _ _ u2;have t3:(w4.setRow o #[.bool false]).heap[n]?=some (.cells jL 27 (0,0)):=(c3.block n (aUS ln C2.size) hno).trans t2;have u3:(w4.setRow o #[.bool false]).heap[d]?=some (.cells #[.int .i64 a,.int .i64 b] 56 (0,0)):=(c3.block d (aUS ld C2.size) hdo).trans s2;have f3:(w4.setRow o #[.bool false]).heap[w.heap.size]?=some (.cells #[.int .i64 a,.int .i64 b] 56 (0,0)):=(c3.block _ (aHQ.1 f2).1 (by omega)).trans f2;have C3:S4 w (w4.setRow o #[.bool false]) (λk=>k=n\/k=d\/k=o):=⟨c3.os.trans C2.os,c3.tape.trans C2.tape,c3.output.trans C2.output,bbM C2.size c3.size,λk hk hq=>(c3.block k (aUS hk C2.size) (λe=>hq (.inr (.inr e)))).trans (C2.block k hk hq)⟩;have k0:w4.cell? ⟨o,0,none⟩=some z0:=by simp[bcM,u2]
 have k1:w4.frozen? ⟨o,0,none⟩=false:=by simp[bfA,u2]
 simp only[k0,k1,e3,bbC,if_false,baZ,blS];refine hK.out _ _ ⟨f3,C3⟩ λ_=>?_;refine wpAnyH_done (by kernel_rfl) ?_ _;have hC:aiX n d o a b w (w4.setRow o #[.bool false]):=⟨t3,u3,s3,C3⟩;clear t3 u3 s3 f3 C3 c3 e3 k0 k1 s2 t2 u2 f2 C2 hK KK;generalize w4.setRow o #[.bool false]=w5 at hC ⊢;cases c₀;simp_all [bodyPostS,results,Tryz.results76];rfl
def I3(w:World):World:=((w.alloc (.cells jL 27)).alloc (.cells #[.int .i64 0,.int .i64 0] 56)).alloc (.cells #[.bool false] 4)
def asX(w:World):(I3 w).heap[w.heap.size]?=some (.cells jL 27 (0,0)):=by unfold I3;rw[heap_alloc_old _ _ (by simp;omega),heap_alloc_old _ _ (by simp),heap_alloc_new]
def asY(w:World):(I3 w).heap[w.heap.size+1]?=some (.cells #[.int .i64 0,.int .i64 0] 56 (0,0)):=by unfold I3;rw[heap_alloc_old _ _ (by simp),heap_alloc2_new]
def asZ(w:World):(I3 w).heap[w.heap.size+1+1]?=some (.cells #[.bool false] 4 (0,0)):=by unfold I3;have:=heap_alloc_new ((w.alloc (.cells jL 27)).alloc (.cells #[.int .i64 0,.int .i64 0] 56)) (.cells #[.bool false] 4);rwa[bdA,bdA] at this
set_option maxRecDepth 20000 in
set_option maxHeartbeats 4000000 in
def atA(g:Nat)(hg:M1 Tryz.prog g=true)(fs cs:Array Value)(w:World)(R:Array Value->World->Prop)
   (hR:∀xs w',R xs w'->(xs.size=11/\xs.all (·.oneCell')=true)/\w'.heap[w.heap.size]?=(I3 w).heap[w.heap.size]?/\w'.heap[w.heap.size+1]?=(I3 w).heap[w.heap.size+1]?/\w'.heap[w.heap.size+1+1]?=(I3 w).heap[w.heap.size+1+1]?)
   (hC:Calls Tryz.prog g (fs++cs) (I3 w) λe w'=>∃xs,e=.returned (.agg xs)/\R xs w'):
   Calls Tryz.prog 36 #[.func (.func g) fs cs] w λe w2=>∃xs w',R xs w'/\e=.returned (.tuple #[.agg xs,.agg #[.int .i64 0,.int .i64 0],.bool true])/\S4 w' w2 (iR w (I3 w)):=by
 have hmf:∀(fn:Fn)(first cap:Array Value)(w:World),(blD fn first cap).run Tryz.prog w=.ok (.func fn first cap) w:=λ_ _ _ _=>rfl
 have hen:=λargs w=>Tr (w:=w) hg args;have HC:=aUT hC;have HR:=aUT hR;clear hC hR
 go_enter_defers Tryz.func36,Tryz.ntmps36
 go_wp2_with fail
 refine HC.out.mono ?_;clear HC;rintro e w1 ⟨xs,rfl,hr⟩;obtain⟨⟨hx,hone⟩,k0,k1,k2⟩:=HR.out xs w1 hr;clear HR;have HB:=aUT hr;clear hr
 have e0:w1.heap[w.heap.size]?=some (.cells #[.int .i64 0,.string ⟨#[]⟩,.string ⟨#[]⟩,.int .i64 0,.int .i64 0,.int .i64 0,.int .i64 0,.int .i64 0,.slice none 0 0,.slice none 0 0,.int .i64 0] 27 (0,0)):=by rw[k0];exact asX w
 have e1:w1.heap[w.heap.size+1]?=some (.cells #[.int .i64 0,.int .i64 0] 56 (0,0)):=by rw[k1];exact asY w
 have e2:w1.heap[w.heap.size+1+1]?=some (.cells #[.bool false] 4 (0,0)):=by rw[k2];exact asZ w
 have hl2:w.heap.size+1+1 < w1.heap.size:=(aHQ.1 e2).1;obtain⟨wa,hwa⟩:∃wa,wa=w1.setRow w.heap.size xs:=⟨_,rfl⟩;have ca:=GB w1 w.heap.size xs;rw[<- hwa] at ca
 have f1:wa.heap[w.heap.size+1]?=some (.cells #[.int .i64 0,.int .i64 0] 56 (0,0)):=by rw[ca.block _ (by omega) (by omega)];exact e1
 have f2:wa.heap[w.heap.size+1+1]?=some (.cells #[.bool false] 4 (0,0)):=by rw[ca.block _ (by omega) (by omega)];exact e2
 have f0:wa.heap[w.heap.size]?=some (.cells xs 27 (0,0)):=by rw[hwa];exact setRow_heap w1 _ _ _ _ _ e0
 have s0:wa.setCell ⟨w.heap.size+1,0,none⟩ (.int .i64 0)=wa.setRow (w.heap.size+1) #[.int .i64 0,.int .i64 0]:=setCell_eq_setRow wa _ 0 _ _ _ _ f1;obtain⟨wd,hwd⟩:∃wd,wd=wa.setCell ⟨w.heap.size+1,0,none⟩ (.int .i64 0):=⟨_,rfl⟩;have cd:=GB wa (w.heap.size+1) #[.int .i64 0,.int .i64 0]
 have fd1:wd.heap[w.heap.size+1]?=some (.cells #[.int .i64 0,.int .i64 0] 56 (0,0)):=by rw[hwd,s0];exact setRow_heap wa _ _ _ _ _ f1
 have s1:wd.setCell ⟨w.heap.size+1,1,none⟩ (.int .i64 0)=wd.setRow (w.heap.size+1) #[.int .i64 0,.int .i64 0]:=setCell_eq_setRow wd _ 1 _ _ _ _ fd1;rw[<- s0,<- hwd] at cd;obtain⟨wb,hwb⟩:∃wb,wb=wd.setCell ⟨w.heap.size+1,1,none⟩ (.int .i64 0):=⟨_,rfl⟩;have cb:=GB wd (w.heap.size+1) #[.int .i64 0,.int .i64 0];rw[<- s1,<- hwb] at cb;have hld:w.heap.size+1 < wd.heap.size:=(aHQ.1 fd1).1;have d0:wa.cell? ⟨w.heap.size+1,0,none⟩=some (.int .i64 0):=by simp[bcM,f1]
 have d1:(wa.setCell ⟨w.heap.size+1,0,none⟩ (.int .i64 0)).cell? ⟨w.heap.size+1,1,none⟩=some (.int .i64 0):=by rw[<- hwd];simp[bcM,fd1]
 have z0:wa.frozen? ⟨w.heap.size+1,0,none⟩=false:=by simp[bfA,f1]
 have z1:(wa.setCell ⟨w.heap.size+1,0,none⟩ (.int .i64 0)).frozen? ⟨w.heap.size+1,1,none⟩=false:=by rw[<- hwd];simp[bfA,fd1]
 have hla:w.heap.size+1+1 < wa.heap.size:=(aHQ.1 f2).1
 have g0:wb.heap[w.heap.size]?=some (.cells xs 27 (0,0)):=by rw[cb.block _ (by omega) (by omega),cd.block _ (by omega) (by omega)];exact f0
 have g1:wb.heap[w.heap.size+1]?=some (.cells #[.int .i64 0,.int .i64 0] 56 (0,0)):=by rw[hwb,s1];exact setRow_heap wd _ _ _ _ _ fd1
 have g2:wb.heap[w.heap.size+1+1]?=some (.cells #[.bool false] 4 (0,0)):=by rw[cb.block _ (by have:=cd.size;omega) (by omega),cd.block _ (by omega) (by omega)];exact f2
 have c2:((wa.setCell ⟨w.heap.size+1,0,none⟩ (.int .i64 0)).setCell ⟨w.heap.size+1,1,none⟩ (.int .i64 0)).cell? ⟨w.heap.size+1+1,0,none⟩=some (.bool false):=by rw[<- hwd,<- hwb];simp[bcM,g2]
 have z2:((wa.setCell ⟨w.heap.size+1,0,none⟩ (.int .i64 0)).setCell ⟨w.heap.size+1,1,none⟩ (.int .i64 0)).frozen? ⟨w.heap.size+1+1,0,none⟩=false:=by rw[<- hwd,<- hwb];simp[bfA,g2]
 have hsz:(Tryz.prog.info? 27).map (·.size)=some xs.size:=by rw[hx];kernel_rfl
 have E0:=aUT e0;have HS:=aUT hsz;have HX:=aUT hx;have HO:=aUT hone;have HWA:=aUT hwa;have HWB:=aUT hwb;have HWD:=aUT hwd;have CD:=aUT cd;have G0:=aUT g0;have G1:=aUT g1;have G2:=aUT g2;have CA:=aUT ca;have CB:=aUT cb;have HL:=aUT (And.intro hl2 hla);clear e0 e1 e2 f0 f1 f2 g0 g1 g2 hsz hx hone hwa hwb hwd s0 s1 fd1 hld ca cb cd k0 k1 k2 hl2 hla
 go_wp2_with (refine wpList_store_row rfl 27 _ _ rfl w.heap.size xs rfl rfl 27 _ E0.out HS.out (by rw[HX.out];rfl) HO.out ?_;rw[<- HWA.out])
 rw[<- HWD.out,<- HWB.out];have s2:wb.setCell ⟨w.heap.size+1+1,0,none⟩ (.bool true)=wb.setRow (w.heap.size+1+1) #[.bool true]:=setCell_eq_setRow wb _ 0 _ _ _ _ G2.out;have cc:=GB wb (w.heap.size+1+1) #[.bool true];have h2:=setRow_heap wb (w.heap.size+1+1) _ #[.bool true] _ _ G2.out;rw[s2];generalize wb.setRow (w.heap.size+1+1) #[.bool true]=wc at cc h2;have hl:=HL.out;have hlb:=CB.out.size;have hld:=CD.out.size;have h0:wc.heap[w.heap.size]?=some (.cells xs 27 (0,0)):=by rw[cc.block _ (by omega) (by omega)];exact G0.out
 have h1:wc.heap[w.heap.size+1]?=some (.cells #[.int .i64 0,.int .i64 0] 56 (0,0)):=by rw[cc.block _ (by omega) (by omega)];exact G1.out
 refine leaves_cons (f:=76) (args:=#[.pointer (some ⟨w.heap.size,0,none⟩),.pointer (some ⟨w.heap.size+1,0,none⟩),.pointer (some ⟨w.heap.size+1+1,0,none⟩)]) (by simp) (by simp[go_sem]) ?_;refine(wW _ _ _ _).mono ?_;rintro e u' w2 ⟨rfl,rfl,rfl⟩;show Leaves _ _ _ _ [] .returning _;have l0:=run_loadVar_row (P:=Tryz.prog) w2 w.heap.size _ 27 xs _ _ h0 Tryz.underlying27 rfl HS.out;have l1:=run_loadVar_row (P:=Tryz.prog) w2 (w.heap.size+1) _ 56 #[.int .i64 0,.int .i64 0] _ _ h1 Tryz.underlying56 rfl (by kernel_rfl);have l2:w2.cell? ⟨w.heap.size+1+1,0,none⟩=some (.bool true):=by simp[bcM,h2]
 refine⟨.tuple #[.agg xs,.agg #[.int .i64 0,.int .i64 0],.bool true],?_,xs,w1,HB.out,rfl,?_⟩
 ·have l3:(loadVar 4 ⟨w.heap.size+1+1,0,none⟩).run Tryz.prog w2=.ok (.bool true) w2:=by simp[go_sem,l2]
  rw[V9,Tryz.results36];simp[ahI,asAddr,bbA,l0,l1,l3]
 ·have hk:∀k,w1.heap.size > k->¬iR w (I3 w) k->k≠w.heap.size/\k≠w.heap.size+1/\k≠w.heap.size+1+1:=by
   intro k _ hn;have hs:(I3 w).heap.size=w.heap.size+1+1+1:=by unfold I3;simp
   refine⟨λe=>hn ?_,λe=>hn ?_,λe=>hn ?_⟩<;>subst e<;>refine⟨?_,?_⟩<;>omega
  have ca:=CA.out;have cd:=CD.out;have cb:=CB.out;refine⟨cc.os.trans (cb.os.trans (cd.os.trans ca.os)),cc.tape.trans (cb.tape.trans (cd.tape.trans ca.tape)),cc.output.trans (cb.output.trans (cd.output.trans ca.output)),bbM ca.size (bbM hld (bbM hlb cc.size)),λk hk1 hk2=>?_⟩;obtain⟨n0,n1,n2⟩:=hk k hk1 hk2;rw[cc.block k (by have:=ca.size;omega) n2,cb.block k (by have:=ca.size;omega) n1,cd.block k (by have:=ca.size;omega) n1,ca.block k hk1 n0]
set_option maxRecDepth 20000 in
set_option maxHeartbeats 4000000 in
def aAN(g:Nat)(hg:M1 Tryz.prog g=true)(fs cs:Array Value)(w:World)(R:Int->Int->World->Prop)
   (hR:∀a b w',R a b w'->w'.heap[w.heap.size]?=(I3 w).heap[w.heap.size]?/\w'.heap[w.heap.size+1]?=(I3 w).heap[w.heap.size+1]?/\w'.heap[w.heap.size+1+1]?=(I3 w).heap[w.heap.size+1+1]?)
   (hC:Calls Tryz.prog g (fs++cs) (I3 w) λe w'=>∃a b,e=.panicked [{ v:=.iface 56 (.agg #[.int .i64 a,.int .i64 b]),recovered:=false }]/\R a b w'):
   Calls Tryz.prog 36 #[.func (.func g) fs cs] w λe w2=>∃a b w',R a b w'/\e=.returned (.tuple #[.agg jL,.agg #[.int .i64 a,.int .i64 b],.bool false])/\S4 w' w2 (iR w (I3 w)):=by
 have hmf:∀(fn:Fn)(first cap:Array Value)(w:World),(blD fn first cap).run Tryz.prog w=.ok (.func fn first cap) w:=λ_ _ _ _=>rfl
 have hen:=λargs w=>Tr (w:=w) hg args;have HC:=aUT hC;have HR:=aUT hR;clear hC hR
 go_enter_defers Tryz.func36,Tryz.ntmps36
 go_wp2_with fail
 refine HC.out.mono ?_;clear HC;rintro e w1 ⟨a,b,rfl,hr⟩;obtain⟨k0,k1,k2⟩:=HR.out a b w1 hr;clear HR;have e0:w1.heap[w.heap.size]?=some (.cells jL 27 (0,0)):=by rw[k0];exact asX w
 have e1:w1.heap[w.heap.size+1]?=some (.cells #[.int .i64 0,.int .i64 0] 56 (0,0)):=by rw[k1];exact asY w
 have e2:w1.heap[w.heap.size+1+1]?=some (.cells #[.bool false] 4 (0,0)):=by rw[k2];exact asZ w
 refine leaves_cons (f:=76) (args:=#[.pointer (some ⟨w.heap.size,0,none⟩),.pointer (some ⟨w.heap.size+1,0,none⟩),.pointer (some ⟨w.heap.size+1+1,0,none⟩)]) (by simp) (by simp[go_sem]) ?_;refine(wV w.heap.size (w.heap.size+1) (w.heap.size+1+1) a b [] w1 _ _ _ (by omega) (by omega) (by omega) e0 e1 e2 rfl rfl rfl).mono ?_;rintro e u' w2 ⟨rfl,rfl,h0,h1,h2,hc⟩;show Leaves _ _ _ _ [] .returning _;have l0:=run_loadVar_row (P:=Tryz.prog) w2 w.heap.size _ 27 jL _ _ h0 Tryz.underlying27 rfl (by kernel_rfl);have l1:=run_loadVar_row (P:=Tryz.prog) w2 (w.heap.size+1) _ 56 #[.int .i64 a,.int .i64 b] _ _ h1 Tryz.underlying56 rfl (by kernel_rfl);have l2:w2.cell? ⟨w.heap.size+1+1,0,none⟩=some (.bool false):=by simp[bcM,h2]
 refine⟨.tuple #[.agg jL,.agg #[.int .i64 a,.int .i64 b],.bool false],?_,a,b,w1,hr,rfl,?_⟩
 ·have l3:(loadVar 4 ⟨w.heap.size+1+1,0,none⟩).run Tryz.prog w2=.ok (.bool false) w2:=by simp[go_sem,l2]
  rw[V9,Tryz.results36];simp[ahI,asAddr,bbA,l0,l1,l3]
 ·refine⟨hc.os,hc.tape,hc.output,hc.size,λk hk1 hk2=>hc.block k hk1 (λe=>hk2 ?_)⟩
  have hs:(I3 w).heap.size=w.heap.size+1+1+1:=by unfold I3;simp
  rcases e with rfl | rfl | rfl<;>refine⟨?_,?_⟩<;>omega
def aSU:CR->Option CR
 |.ret (.agg cs)=>(match bcA cs.length 11 with
  |true=>(match cs.all one with|true=>some (.ret (.DW [.agg cs,.agg [.sc (.int .i64 0),.sc (.int .i64 0)],.sc (.bool true)]))|false=>none)
  |false=>none)
 |.pan (.ifc t (.agg [.sc (.int .i64 a),.sc (.int .i64 b)]))=>(match bcA t 56 with|true=>some (.ret (.DW [.agg [.sc (.int .i64 0),.sc (.string VE),.sc (.string VE),.sc (.int .i64 0),.sc (.int .i64 0),.sc (.int .i64 0),.sc (.int .i64 0),.sc (.int .i64 0),.sl .lost 0 [],.sl .lost 0 [],.sc (.int .i64 0)],.agg [.sc (.int .i64 a),.sc (.int .i64 b)],.sc (.bool false)]))|false=>none)
 |_=>none
def UD{G:AP}{g:FuncId}(hg:M1 Tryz.prog g=true){first caps:List AV}{s s':AS}{r r':CR}(h:Sound Tryz.prog G (.call g (first++[]++caps) s r s'))(hk:aSU r=some r'):Sound Tryz.prog G (.call 36 [.fn (.func g) first caps] s r' s'):=by
 unfold aSU at hk;split at hk
 ·rename_i cs
  split at hk
  ·rename_i hn
   split at hk
   ·rename_i ho
    cases hk;intro cx w vs hs ha;cases ha with
    |cons h1 t=>
    cases t;cases h1 with
    |fn hf hc=>
    rename_i us vs
    have k:S4 w (I3 w) (λ_=>False):=by have k1:=OQ w (.cells #[.int .i64 0,.string ⟨#[]⟩,.string ⟨#[]⟩,.int .i64 0,.int .i64 0,.int .i64 0,.int .i64 0,.int .i64 0,.slice none 0 0,.slice none 0 0,.int .i64 0] 27);exact⟨rfl,rfl,rfl,by unfold I3;simp;omega,λq hq _=>by unfold I3;rw[heap_alloc_old _ _ (by simp;omega),heap_alloc_old _ _ (by simp;omega),heap_alloc_old _ _ hq]⟩
    have hsv:=aeL hs k;have hm:=XO (cx:=cx) k;have hC:=h (cx.jF w (I3 w)) (I3 w) (us++vs) hsv (by simpa using (hf.Dx hm).append (hc.Dx hm))
    have e1:(us++vs).toArray=us.toArray++vs.toArray:=by simp
    rw[e1] at hC;refine(atA g hg us.toArray vs.toArray w (λxs w'=>∃c',Ext (cx.jF w (I3 w)) (I3 w) c' w'/\St G c' w' s'/\CF c' w' cs xs.toList) ?_ (hC.mono ?_)).mono ?_
    ·rintro xs w' ⟨c',hx,_,hr⟩
     have hl:=hr.len;have hsz:(I3 w).heap.size=w.heap.size+1+1+1:=by unfold I3;simp
     refine⟨⟨by have:=bcI hn;rw[<- bbN];omega,?_⟩,OK hs hx ⟨by omega,by omega⟩,OK hs hx ⟨by omega,by omega⟩,OK hs hx ⟨by omega,by omega⟩⟩;rw[bdZ];intro v hv;exact Xd hr ho v (by simpa using hv)
    ·rintro e w' ⟨c',hx,hs',u,rfl,hu⟩
     cases hu with|agg hr=>exact⟨_,rfl,c',hx,hs',by simpa using hr⟩
    ·rintro e w2 ⟨xs,w',⟨c',hx,hs',hr⟩,rfl,k2⟩
     have m2:=Wb hx k2;refine⟨c'.YL cx,gE hs k hx k2,lN hs hx hs' k2,_,rfl,?_⟩;have hr2:=hr.Dx m2
     have ha:Rp (c'.YL cx) w2 (.agg cs) (.agg xs):=by have:=Rp.agg hr2;simpa using this
     exact .DW (vs:=[.agg xs,.agg #[.int .i64 0,.int .i64 0],.bool true]) (.cons ha (.cons (.agg (vs:=[.int .i64 0,.int .i64 0]) (.cons (.sc rfl) (.cons (.sc rfl) .nil))) (.cons (.sc rfl) .nil)))
   ·cases hk
  ·cases hk
 ·rename_i ty a b
  split at hk
  ·rename_i hty
   have hty:=bcI hty;subst hty;cases hk;intro cx w vs hs ha;cases ha with
   |cons h1 t=>
   cases t;cases h1 with
   |fn hf hc=>
   rename_i us vs;have k:S4 w (I3 w) (λ_=>False):=⟨rfl,rfl,rfl,by unfold I3;simp;omega,λq hq _=>by unfold I3;rw[heap_alloc_old _ _ (by simp;omega),heap_alloc_old _ _ (by simp;omega),heap_alloc_old _ _ hq]⟩;have hsv:=aeL hs k;have hm:=XO (cx:=cx) k;have hC:=h (cx.jF w (I3 w)) (I3 w) (us++vs) hsv (by simpa using (hf.Dx hm).append (hc.Dx hm))
   have e1:(us++vs).toArray=us.toArray++vs.toArray:=by simp
   rw[e1] at hC;refine(aAN g hg us.toArray vs.toArray w (λa' b' w'=>a'=a/\b'=b/\∃c',Ext (cx.jF w (I3 w)) (I3 w) c' w'/\St G c' w' s') ?_ (hC.mono ?_)).mono ?_
   ·rintro a' b' w' ⟨_,_,c',hx,_⟩
    have hsz:(I3 w).heap.size=w.heap.size+1+1+1:=by unfold I3;simp
    exact⟨OK hs hx ⟨by omega,by omega⟩,OK hs hx ⟨by omega,by omega⟩,OK hs hx ⟨by omega,by omega⟩⟩
   ·rintro e w' ⟨c',hx,hs',u,rfl,hu⟩
    cases hu with
    |ifc hu=>
     cases hu with
     |agg hr=>
      cases hr with
      |cons r1 hr=>
       cases hr with
       |cons r2 hr=>
        cases hr;cases r1;cases r2;exact⟨a,b,rfl,rfl,rfl,c',hx,hs'⟩
   ·rintro e w2 ⟨a',b',w',⟨rfl,rfl,c',hx,hs'⟩,rfl,k2⟩
    refine⟨c'.YL cx,gE hs k hx k2,lN hs hx hs' k2,_,rfl,?_⟩;refine .DW (vs:=[.agg jL,.agg #[.int .i64 a',.int .i64 b'],.bool false]) (.cons ?_ (.cons (.agg (vs:=[.int .i64 a',.int .i64 b']) (.cons (.sc rfl) (.cons (.sc rfl) .nil))) (.cons (.sc rfl) .nil)));exact .agg (vs:=jL.toList) (.cons (.sc rfl) (.cons (.sc rfl) (.cons (.sc rfl) (.cons (.sc rfl) (.cons (.sc rfl) (.cons (.sc rfl) (.cons (.sc rfl) (.cons (.sc rfl) (.cons (.sl0 trivial) (.cons (.sl0 trivial) (.cons (.sc rfl) .nil)))))))))))
  ·cases hk
 ·cases hk
end Go.Proofs.YtkcimienkafhmaaGreatDoor
namespace AI
open Go Go.RowKit
mutual
def rnV(ρ σ:Nat->Nat):AV->AV
 |.ptr i o=>.ptr (ρ i) o
 |.mp i=>.mp (ρ i)
 |.OG i o n=>.OG (ρ i) o n
 |.sl (.row r z) n cs=>.sl (.row (σ r) z) n cs
 |.agg cs=>.agg (Wa ρ σ cs)
 |.DW cs=>.DW (Wa ρ σ cs)
 |.fn f a b=>.fn f (Wa ρ σ a) (Wa ρ σ b)
 |a=>a
def Wa(ρ σ:Nat->Nat):List AV->List AV
 |[]=>[]
 |a::l=>rnV ρ σ a::Wa ρ σ l
end
def uI(ρ σ:Nat->Nat)(n:Nat):(∀a,biA a < n->plain a=true->rnV ρ σ a=a)/\∀l,biA l < n->BN l=true->Wa ρ σ l=l:=by
 induction n with
 |zero=>exact⟨λ_ h=>absurd h (beX _),λ_ h=>absurd h (beX _)⟩
 |succ n ih=>
  obtain⟨h1,h2⟩:=ih;refine⟨λa hn hp=>?_,λl hn hp=>?_⟩;unfold rnV;split;cases hp;cases hp;cases hp;simp only[plain,aUR] at hp;cases hp.1;simp only[AV.agg.sizeOf_spec] at hn;simp only[plain] at hp;rw[h2 _ (by omega) hp];simp only[AV.DW.sizeOf_spec] at hn;simp only[plain] at hp;rw[h2 _ (by omega) hp];simp only[AV.fn.sizeOf_spec] at hn;simp only[plain,aUR] at hp;rw[h2 _ (by omega) hp.1,h2 _ (by omega) hp.2];rfl
  ·cases l with
   |nil=>rfl
   |cons a l=>
    simp only[bfL] at hn;simp only[BN,aUR] at hp;rw[Wa,h1 a (by omega) hp.1,h2 l (by omega) hp.2]
def aLE{ρ σ:Nat->Nat}{a:AV}(h:plain a=true):rnV ρ σ a=a:=(uI ρ σ _).1 a (bdH _) h
def ayX{ρ σ:Nat->Nat}{l:List AV}(h:BN l=true):Wa ρ σ l=l:=(uI ρ σ _).2 l (bdH _) h
def uH(ρ σ:Nat->Nat):AF->AF
 |.cells cs=>.cells (Wa ρ σ cs)
 |.Fk T id cs=>.Fk T (ρ id) (Wa ρ σ cs)
 |b=>b
class Rc(a:AV)(q:outParam (Nat->Nat->Bool)):Prop where
 h:∀k j ρ σ,q k j=true->Rn k j ρ σ a (rnV ρ σ a)
class RcL(l:List AV)(q:outParam (Nat->Nat->Bool)):Prop where
 h:∀k j ρ σ,q k j=true->UF k j ρ σ l (Wa ρ σ l)
class RcB(b:AF)(q:outParam (Nat->Nat->Bool)):Prop where
 h:∀k j ρ σ,q k j=true->mD k j ρ σ b (uH ρ σ b)
class RcH(l:List (Nat×AF))(q:outParam (Nat->Nat->Bool)):Prop where
 h:∀k j ρ σ,q k j=true->∀e,e∈l->mD k j ρ σ e.2 (uH ρ σ e.2)
class RcS(s:AS)(q:outParam (Nat->Nat->Bool)):Prop where
 h:∀k j ρ σ,q k j=true->∀e,e∈s.h->mD k j ρ σ e.2 (uH ρ σ e.2)
def mP{i k:Nat}(h:Nat.blt i k=true):i < k:=Nat.le_of_ble_eq_true h
instance (priority:=low) {a:AV} [i:PlV a]:Rc a qT:=⟨λ_ _ _ _ _=>by rw[aLE i.h];exact .pl i.h⟩
instance {i o:Nat}:Rc (.ptr i o) (qN i):=⟨λ_ _ _ _ h=>.ptr (mP h)⟩
instance {i:Nat}:Rc (.mp i) (qN i):=⟨λ_ _ _ _ h=>.mp (mP h)⟩
instance {r z n:Nat}{cs:List AV} [i:aD cs]:Rc (.sl (.row r z) n cs) (λ_ m=>Nat.blt r m):=⟨λ_ _ _ _ h=>.row (mP h) i.h⟩
instance {cs:List AV} {q} [i:RcL cs q]:Rc (.agg cs) q:=⟨λk j ρ σ h=>.agg (i.h k j ρ σ h)⟩
instance {f:Fn}{a b:List AV} {q r} [i:RcL a q] [j:RcL b r]:Rc (.fn f a b) (qA q r):=⟨λk j' ρ σ h=>by
 have h:=bcO.1 h;exact .fn (i.h k j' ρ σ h.1) (j.h k j' ρ σ h.2)⟩
instance (priority:=low) {l:List AV} [i:aD l]:RcL l qT:=⟨λ_ _ _ _ _=>by rw[ayX i.h];exact .pl i.h⟩
instance:RcL [] qT:=⟨λ_ _ _ _ _=>.nil⟩
instance {a:AV}{l:List AV} {q r} [i:Rc a q] [j:RcL l r]:RcL (a::l) (qA q r):=⟨λk j' ρ σ h=>by
 have h:=bcO.1 h;exact .cons (i.h k j' ρ σ h.1) (j.h k j' ρ σ h.2)⟩
instance {cs:List AV} {q} [i:RcL cs q]:RcB (.cells cs) q:=⟨λk j ρ σ h=>.cells (i.h k j ρ σ h)⟩
instance {T:TypeId}{i:Nat}{cs:List AV} {q} [x:RcL cs q]:RcB (.Fk T i cs) (qA (qN i) q):=⟨λk j ρ σ h=>by
 have h:=bcO.1 h;exact .Fk (mP h.1) (x.h k j ρ σ h.2)⟩
instance:RcH [] qT:=⟨λ_ _ _ _ _ _ h=>by cases h⟩
instance {i:Nat}{b:AF}{l:List (Nat×AF)} {q r} [x:RcB b q] [y:RcH l r]:RcH ((i,b)::l) (qA q r):=⟨λk j ρ σ h e he=>by
 have h:=bcO.1 h;cases he with|head=>exact x.h k j ρ σ h.1|tail _ he=>exact y.h k j ρ σ h.2 e he⟩
instance {h:List (Nat×AF)}{n m:Nat}{F:List (Nat×Nat)} {q} [x:RcH h q]:RcS ⟨h,n,F,m⟩ q:=⟨x.h⟩
mutual
def aKL(id:Nat):AV->Bool
 |.ptr i _=>bcA i id
 |.mp i=>bcA i id
 |.OG i _ _=>bcA i id
 |.agg cs=>Re id cs
 |.fn _ a b=>cond (Re id a) true (Re id b)
 |_=>false
def Re(id:Nat):List AV->Bool
 |[]=>false
 |a::l=>cond (aKL id a) true (Re id l)
end
def aN{a b:Bool}(h:cond a true b=true):a=true\/b=true:=by cases a<;>simp_all
def axQ(id n:Nat):(∀a,biA a < n->aKL id a=true->Occ id a)/\∀l,biA l < n->Re id l=true->Tb id l:=by
 induction n with
 |zero=>exact⟨λ_ h=>absurd h (beX _),λ_ h=>absurd h (beX _)⟩
 |succ n ih=>
  obtain⟨h1,h2⟩:=ih;refine⟨λa hn h=>?_,λl hn h=>?_⟩
  ·cases a<;>simp only[aKL] at h<;>try (cases h;done)
   simp only[AV.agg.sizeOf_spec] at hn;exact .agg (h2 _ (by omega) h);cases beq_true h;exact .OG;cases beq_true h;exact .ptr;simp only[AV.fn.sizeOf_spec] at hn;rcases aN h with h | h
   exact .fn1 (h2 _ (by omega) h);exact .fn2 (h2 _ (by omega) h);cases beq_true h;exact .mp
  ·cases l with
   |nil=>cases h
   |cons a l=>
    simp only[bfL] at hn;simp only[Re] at h;rcases aN h with h | h
    exact .here (h1 _ (by omega) h);exact .there (h2 _ (by omega) h)
def Xc{id:Nat}{l:List AV}(h:Re id l=true):Tb id l:=(axQ id _).2 l (bdH _) h
def auM(p:Nat->Bool)(id:Nat):List (Nat×AF)->Bool
 |[]=>false
 |e::l=>cond (match e.2 with | .cells cs=>cond (Re id cs) (p e.1) false | .Fk _ _ cs=>cond (Re id cs) (p e.1) false | _=>false) true (auM p id l)
def ahG(args:List AV)(pre:List (Nat×AF)):Nat->Nat->Bool
 |0,id=>Re id args
 |n+1,id=>cond (Re id args) true (auM (ahG args pre n) id pre)
def ayK{args:List AV}{pre:List (Nat×AF)}:∀(n id:Nat),ahG args pre n id=true->Rch args pre id:=by
 intro n
 induction n with
 |zero=>intro id h;simp only[ahG] at h;exact .arg (Xc h)
 |succ n ih=>
  intro id h;simp only[ahG] at h;rcases aN h with h | h
  exact .arg (Xc h)
  ·have key:∀l:List (Nat×AF),(∀e,e∈l->e∈pre)->auM (ahG args pre n) id l=true->Rch args pre id:=by
    intro l
    induction l with
    |nil=>intro _ h;cases h
    |cons e l ihl=>
     intro hm h;simp only[auM] at h;rcases aN h with h | h
     ·split at h
      ·rename_i cs he
       cases ho:Re id cs with
       |false=>rw[ho] at h;cases h
       |true=>
        rw[ho] at h;obtain⟨p,hp⟩:=beI (hm e (.head _));have:e=(e.1,.cells cs):=by rw[<- he]
        exact .box (ih _ h) (by rw[hp,this]) (Xc ho)
      ·rename_i T j cs he
       cases ho:Re id cs with
       |false=>rw[ho] at h;cases h
       |true=>
        rw[ho] at h;obtain⟨p,hp⟩:=beI (hm e (.head _));have:e=(e.1,.Fk T j cs):=by rw[<- he]
        exact .Fk (ih _ h) (by rw[hp,this]) (Xc ho)
      cases h
     exact ihl (λe he=>hm e (.tail _ he)) h
   exact key pre (λ_ h=>h) h
def aKZ(args:List AV)(pre:List (Nat×AF)):List Nat->Bool
 |[]=>true
 |i::l=>cond (ahG args pre 3 i) (aKZ args pre l) false
def ndB:List Nat->Bool
 |[]=>true
 |i::l=>cond (inB i l) false (ndB l)
where
 inB (i:Nat):List Nat->Bool
   |[]=>false
   |j::l=>cond (bcA i j) true (inB i l)
def abZ{i:Nat}:∀{l:List Nat},ndB.inB i l=false->i∉l
 |[],_=>by simp
 |j::l,h=>by
  simp only[ndB.inB] at h;cases hb:bcA i j with
  |true=>rw[hb] at h;cases h
  |false=>
   rw[hb] at h;have:=beq_false hb;simp only[List.mem_cons,not_or];exact⟨this,abZ h⟩
def yQ:∀{l:List Nat},ndB l=true->l.Nodup
 |[],_=>.nil
 |i::l,h=>by
  simp only[ndB] at h;cases hb:ndB.inB i l with|true=>rw[hb] at h;cases h|false=>rw[hb] at h;exact List.nodup_cons.2 ⟨abZ hb,yQ h⟩
def pM(us:List Nat)(i:Nat):Nat:=match us[i]? with|some e=>e|none=>0
def hM(h:List (Nat×AF)):List AF:=(h.map (·.2)).reverse
def iU(us vs:List Nat)(h:List (Nat×AF)):List (Nat×AF):=us.zip ((hM h).map (uH (pM us) (pM vs)))
def tpU(vs:List Nat)(F:List (Nat×Nat)):List (Nat×Nat):=vs.zip (F.map (·.2))
def kL{β:Type}{us:List Nat}{l:List β}(h:us.length=l.length):JI (us.zip l)=pM us:=by
 funext i;unfold JI pM;cases hu:us[i]? with
 |none=>
  have hz:(us.zip l)[i]?=none:=List.getElem?_eq_none (by have:=List.getElem?_eq_none_iff.1 hu;rw[List.length_zip];omega);rw[hz]
 |some u=>
  have hi:=(List.getElem?_eq_some_iff.1 hu).1;have hl:l[i]?=some l[i]:=List.getElem?_eq_getElem (by omega);have hz:(us.zip l)[i]?=some (u,l[i]):=by rw[List.getElem?_zip_eq_some];exact⟨hu,hl⟩
  rw[hz]
def OZ{β:Type}{us:List Nat}{l:List β}(h:us.length=l.length):keys (us.zip l)=us:=by unfold keys;exact List.map_fst_zip (by omega)
def fI{k j:Nat}{ρ σ:Nat->Nat}:∀{us:List Nat}{M:List AF},us.length=M.length->(∀b,b∈M->mD k j ρ σ b (uH ρ σ b))->Zw k j ρ σ M (us.zip (M.map (uH ρ σ)))
 |[],[],_,_=>.nil
 |[],_::_,h,_=>by cases h
 |_::_,[],h,_=>by cases h
 |u::us,b::M,h,hb=>.cons (hb b (.head _)) (fI (by simpa using h) λb hm=>hb b (.tail _ hm))
class PlR(r:CR):Prop where
 h:∀k j ρ σ,RnR k j ρ σ r r
instance {v:AV} [i:PlV v]:PlR (.ret v):=⟨λ_ _ _ _=>.pl i.h⟩
instance {v:AV} [i:PlV v]:PlR (.pan v):=⟨λ_ _ _ _=>.pl i.h⟩
section
variable {P:Program}{G:AP}[gp:GP G]{f:FuncId}{args:List AV}{s0 s1:AS}{r:CR}{qa qb qc:Nat->Nat->Bool}
def gU[ra:RcL args qa][rb:RcS s0 qb][rc:RcS s1 qc][rr:PlR r](hS:Sound P G (.call f args s0 r s1))(us vs:List Nat)
   (e0:(⟨TM (hM s0.h) 0 [],us.length,oX (s0.F.map (·.2)) 0,vs.length⟩:AS)=s0:=by kernel_rfl) (e1:(⟨TM (hM s1.h) 0 [],us.length,oX (s1.F.map (·.2)) 0,vs.length⟩:AS)=s1:=by kernel_rfl)
   (hc:cond (cond (qa us.length vs.length) (cond (qb us.length vs.length) (qc us.length vs.length) false) false) (cond (cond (ndB us) (ndB vs) false) (cond (cond (bcA (hM s0.h).length us.length) (bcA (hM s1.h).length us.length) false) (cond (cond (bcA s0.F.length vs.length) (bcA s1.F.length vs.length) false) (aKZ (Wa (pM us) (pM vs) args) (iU us vs s0.h) us) false) false) false) false=true:=by kernel_rfl):
   Cd.ok P G (.Q4 f (Wa (pM us) (pM vs) args) r (iU us vs s0.h) (tpU vs s0.F) (iU us vs s1.h) (tpU vs s1.F)):=by
 have iD:∀{a b:Bool},cond a b false=true->a=true/\b=true:=λ{a b} h=>by cases a<;>simp_all
 obtain⟨hq,hc⟩:=iD hc;obtain⟨hqa,hq⟩:=iD hq;obtain⟨hqb,hqc⟩:=iD hq;obtain⟨hn,hc⟩:=iD hc;obtain⟨hnu,hnv⟩:=iD hn;obtain⟨hl,hc⟩:=iD hc;obtain⟨hl0,kF⟩:=iD hl;obtain⟨hf,hrc⟩:=iD hc;obtain⟨hf0,hf1⟩:=iD hf;have hl0:=beq_true hl0;have kF:=beq_true kF;have hf0:=beq_true hf0;have hf1:=beq_true hf1;have lm0:us.length=((hM s0.h).map (uH (pM us) (pM vs))).length:=by rw[bcQ,hl0]
 have lm1:us.length=((hM s1.h).map (uH (pM us) (pM vs))).length:=by rw[bcQ,kF]
 have lt0:vs.length=(s0.F.map (·.2)).length:=by rw[bcQ,hf0]
 have lt1:vs.length=(s1.F.map (·.2)).length:=by rw[bcQ,hf1]
 have kp:JI (iU us vs s0.h)=pM us:=kL lm0;have kt:JI (tpU vs s0.F)=pM vs:=kL lt0
 have Yc:∀{s:AS}{b:AF},b∈hM s.h->∃e,e∈s.h/\e.2=b:=λ{s b} h=>by
  unfold hM at h;rw[List.mem_reverse,bfI] at h;exact h
 refine aHH gp.h (M:=hM s0.h) (M2:=hM s1.h) (T:=s0.F.map (·.2)) (T2:=s1.F.map (·.2)) (k:=us.length) (j:=vs.length) _ _ _ _ (by rw[e0,e1];exact hS) hl0 (by rw[bcQ];exact hf0) (by rw[bcQ];exact hf1) ?_ ?_ ?_ ?_ ?_ ?_ ?_ ?_ ?_ (rr.h _ _ _ _) ?_;exact(OZ lm1).trans (OZ lm0).symm;exact(OZ lt1).trans (OZ lt0).symm;show(keys (iU us vs s0.h)).Nodup;rw[show keys (iU us vs s0.h)=us from OZ lm0];exact yQ hnu;show(keys (tpU vs s0.F)).Nodup;rw[show keys (tpU vs s0.F)=vs from OZ lt0];exact yQ hnv;exact bkM (by omega);exact bkM (by omega);rw[kp,kt];refine fI hl0.symm λb hb=>?_;obtain⟨e,he,rfl⟩:=Yc hb;exact rb.h _ _ _ _ hqb e he;rw[kp,kt];refine fI kF.symm λb hb=>?_;obtain⟨e,he,rfl⟩:=Yc hb;exact rc.h _ _ _ _ hqc e he;rw[kp,kt];exact ra.h _ _ _ _ hqa
 ·intro e he
  have key:∀l:List Nat,aKZ (Wa (pM us) (pM vs) args) (iU us vs s0.h) l=true->∀i,i∈l->Rch (Wa (pM us) (pM vs) args) (iU us vs s0.h) i:=by
   intro l
   induction l with
   |nil=>intro _ i hi;cases hi
   |cons x l ih=>
    intro h i hi;obtain⟨h1,h2⟩:=iD (show cond _ _ false=true from h);cases hi with|head=>exact ayK _ _ h1|tail _ hi=>exact ih h2 i hi
  refine key us hrc e.1 ?_;have:e.1∈keys (iU us vs s0.h):=bfI.2 ⟨e,he,rfl⟩;rw[show keys (iU us vs s0.h)=us from OZ lm0] at this;exact this
end
end AI
namespace Go.Proofs.YtkcimienkafhmaaGreatDoor
open Go Go.RowKit
set_option maxHeartbeats 1000000
set_option maxRecDepth 100000
theorem aOF:∃j,Tryz.prog.info? 80=some j/\j.size=2:=by
 have h:(Tryz.prog.info? 80).map (·.size)=some 2:=by kernel_rfl
 obtain⟨j,hj,h2⟩:=Option.map_eq_some_iff.1 h
 exact⟨j,hj,h2⟩
theorem afU(b:Nat)(w:World)(h0:w.cell? ⟨b,0,none⟩=some (.pointer (some ⟨b,0,none⟩))) :
   Calls Tryz.prog 104 #[.pointer (some ⟨b,0,none⟩)] w λe w'=>e=.returned (.tuple #[])/\w'=w:=by
 obtain⟨j,hj,_⟩:=aOF
 go_enter Tryz.func104,Tryz.ntmps104
 go_wp2
 rw[Lib.run_neq_ptr_same w _ (by kernel_rfl) hj]
 go_wp2
 go_end0
 exact⟨rfl,rfl⟩
theorem xA(b:Nat)(w:World)(h0:w.cell? ⟨b,0,none⟩=some (.pointer none))(hsh:w.shape? b=some (82,3))(hfz:w.frozen? ⟨b,0,none⟩=false) :
   Calls Tryz.prog 104 #[.pointer (some ⟨b,0,none⟩)] w λe w'=>e=.returned (.tuple #[])/\w'=w.setCell ⟨b,0,none⟩ (.pointer (some ⟨b,0,none⟩)):=by
 obtain⟨j,hj,hjs⟩:=aOF
 go_enter Tryz.func104,Tryz.ntmps104
 go_wp2
 rw[Lib.run_to_unsafe w ⟨b,0,none⟩ (t:=80) (by kernel_rfl) (by kernel_rfl) hj (by rw[hjs];decide) hsh (Nat.zero_lt_succ 2)]
 simp only[bjC]
 rw[biT]
 go_wp2
 rw[run_callFunc_extern Tryz.func145 (by kernel_rfl) (by kernel_rfl) (by kernel_rfl) (e:=Extern.AbiNoEscape.same) (by kernel_rfl)]
 rw[Lib.run_noEscape]
 simp only[bjC]
 rw[biT]
 go_wp2
 rw[Lib.run_from_unsafe w ⟨b,0,none⟩ (u:=80) (by kernel_rfl) (by kernel_rfl) hj hsh (by kernel_rfl)]
 simp only[bjC]
 rw[biT]
 go_wp2
 go_end0
 exact⟨rfl,rfl⟩
theorem asR(b g cap:Nat)(l:List UInt8)(p m:Value)(cs:Array Value)(f:Nat×Nat)(w:World)(h0:l≠[])(hcap:l.length<=cap)(hcs:cs.size=cap)(hmx:l.length<=100000000)(hb:w.heap[b]?=some (.cells #[p,.slice (some ⟨g,0,none⟩) l.length cap,m] 82 (0,0)))
   (hg:w.heap[g]?=some (.cells cs 5 f)) (hl:∀j x,l[j]?=some x->w.cell? ⟨g,j,none⟩=some (.int .u8 x.toNat)):
   Calls Tryz.prog 59 #[.pointer (some ⟨b,0,none⟩)] w λe w'=>e=.returned (.string ⟨l.toArray⟩)/\w'=w.drew.freeze ⟨g,0,none⟩ l.length:=by
 have hl0:l.length≠0:=by simpa using h0
 have c1:w.drew.cell? ⟨b,1,none⟩=some (.slice (some ⟨g,0,none⟩) l.length cap):=by
  have:w.drew.heap[b]?=some (.cells #[p,.slice (some ⟨g,0,none⟩) l.length cap,m] 82 (0,0)):=hb
  rw[bfR this];rfl
 have hSD:(bfB #[78] 120 #[.slice (some ⟨g,0,none⟩) l.length cap]).run Tryz.prog w.drew=.ok (.pointer (some ⟨g,0,none⟩)) w.drew :=
  bhL _ _ _ _ _ _ (by omega)
 have hUS:(bfM #[120,3] 9 #[.pointer (some ⟨g,0,none⟩),.int .i64 l.length]).run Tryz.prog w.drew=.ok (.string ⟨l.toArray⟩) (w.drew.freeze ⟨g,0,none⟩ l.length):=by
  refine Lib.run_unsafeString_row w.drew 120 3 9 5 (by kernel_rfl) (by kernel_rfl) g cs.size (by have hg':w.drew.heap[g]?=some (.cells cs 5 f):=hg;simp[bkD,hg']) l h0 (by omega) (by omega) ?_
  intro j x hx
  rw[show(⟨g,0,none⟩:Addr).add j=⟨g,j,none⟩ from by unfold Addr.add;split<;>simp_all]
  exact hl j x hx
 go_enter Tryz.func59,Tryz.ntmps59
 go_wp2
 go_region
 all_goals (go_wp2;go_ret;exact⟨rfl,rfl⟩)
theorem asQ(b:Nat)(p m:Value)(w:World)(hb:w.heap[b]?=some (.cells #[p,.slice none 0 0,m] 82 (0,0))) :
   Calls Tryz.prog 59 #[.pointer (some ⟨b,0,none⟩)] w λe w'=>e=.returned (.string ⟨#[]⟩)/\w'=w.drew:=by
 have c1:w.drew.cell? ⟨b,1,none⟩=some (.slice none 0 0):=by
  have:w.drew.heap[b]?=some (.cells #[p,.slice none 0 0,m] 82 (0,0)):=hb
  rw[bfR this];rfl
 have hSD:(bfB #[78] 120 #[.slice none 0 0]).run Tryz.prog w.drew=.ok (.pointer none) w.drew:=rfl
 have hUS:(bfM #[120,3] 9 #[.pointer none,.int .i64 0]).run Tryz.prog w.drew=.ok (.string .empty) w.drew:=bfU _ _ _ _ _
 go_enter Tryz.func59,Tryz.ntmps59
 go_wp2
 go_region
 all_goals (go_wp2;go_ret;exact⟨rfl,rfl⟩)
theorem aiC(b g cap:Nat)(p m:Value)(w:World)(hc0:cap≠0)(hb:w.heap[b]?=some (.cells #[p,.slice (some ⟨g,0,none⟩) 0 cap,m] 82 (0,0))) :
   Calls Tryz.prog 59 #[.pointer (some ⟨b,0,none⟩)] w λe w'=>e=.returned (.string ⟨#[]⟩)/\w'=w.drew:=by
 have c1:w.drew.cell? ⟨b,1,none⟩=some (.slice (some ⟨g,0,none⟩) 0 cap):=by
  have:w.drew.heap[b]?=some (.cells #[p,.slice (some ⟨g,0,none⟩) 0 cap,m] 82 (0,0)):=hb
  rw[bfR this];rfl
 have hSD:(bfB #[78] 120 #[.slice (some ⟨g,0,none⟩) 0 cap]).run Tryz.prog w.drew=.ok (.pointer (some ⟨g,0,none⟩)) w.drew:=bhL _ _ _ _ _ _ hc0
 clear hc0
 have hUS:(bfM #[120,3] 9 #[.pointer (some ⟨g,0,none⟩),.int .i64 0]).run Tryz.prog w.drew=.ok (.string .empty) w.drew:=bfU _ _ _ _ _
 go_enter Tryz.func59,Tryz.ntmps59
 go_wp2
 go_region
 all_goals (go_wp2;go_ret;exact⟨rfl,rfl⟩)
theorem vB(b g:Nat)(p m:Value)(cs:Array Value)(f:Nat×Nat)(w:World)(hb:w.heap[b]?=some (.cells #[p,.slice (some ⟨g,0,none⟩) 0 0,m] 82 (0,0)))(hg:w.heap[g]?=some (.cells cs 5 f)) :
   Calls Tryz.prog 59 #[.pointer (some ⟨b,0,none⟩)] w λe w'=>e=.returned (.string ⟨#[]⟩)/\w'=w.drew.alloc (.view ⟨g,0,none⟩ 5):=by
 have hlt:b < w.heap.size:=by
  rcases bdS b w.heap.size with h' | h'
  ·exact h'
  ·simp[beQ h'] at hb
 have c1:w.drew.cell? ⟨b,1,none⟩=some (.slice (some ⟨g,0,none⟩) 0 0):=by
  have:w.drew.heap[b]?=some (.cells #[p,.slice (some ⟨g,0,none⟩) 0 0,m] 82 (0,0)):=hb
  rw[bfR this];rfl
 have hSD:(bfB #[78] 120 #[.slice (some ⟨g,0,none⟩) 0 0]).run Tryz.prog w.drew=.ok (.pointer (some ⟨w.drew.heap.size,0,none⟩)) (w.drew.alloc (.view ⟨g,0,none⟩ 5)) :=
  Lib.run_unsafeSliceData_zero w.drew _ _ 5 (by kernel_rfl) ⟨g,0,none⟩ 0 (5,cs.size) (by have hg':w.drew.heap[g]?=some (.cells cs 5 f):=hg;simp[bkD,hg'])
 have c2:(w.drew.alloc (.view ⟨g,0,none⟩ 5)).cell? ⟨b,1,none⟩=some (.slice (some ⟨g,0,none⟩) 0 0):=by
  have:(w.drew.alloc (.view ⟨g,0,none⟩ 5)).heap[b]?=_:=(Lib.alloc_old w.drew _ b hlt).trans hb
  rw[bfR this];rfl
 have c3:(w.alloc (.view ⟨g,0,none⟩ 5)).drew.cell? ⟨b,1,none⟩=some (.slice (some ⟨g,0,none⟩) 0 0):=c2
 have c0:w.cell? ⟨b,1,none⟩=some (.slice (some ⟨g,0,none⟩) 0 0):=c1
 have hUS:∀(W:World)(q:Option Addr),(bfM #[120,3] 9 #[.pointer q,.int .i64 0]).run Tryz.prog W=.ok (.string .empty) W:=λW q=>bfU _ _ _ _ _
 go_enter Tryz.func59,Tryz.ntmps59
 go_wp2
 go_region
 all_goals (go_wp2;go_ret;exact⟨rfl,rfl⟩)
end Go.Proofs.YtkcimienkafhmaaGreatDoor
namespace AI
open Go Go.RowKit
end AI
namespace AI
open Go Go.RowKit
def St.aSK{G:AP}{c:Cx}{w w':World}{s:AS}(h:St G c w s){r g n cap sz:Nat}(hr:c.rows[r]?=some (.Q2 g n cap sz)){vs:Array Value}{T:TypeId}{f f':Nat×Nat}(hw:w.heap[g]?=some (.cells vs T f))(hw':w'.heap[g]?=some (.cells vs T f'))
   (hf:f'.2<=n*RC sz) (hn:w'.heap.size=w.heap.size) (ho:w'.os=w.os) (ht:w'.tape=w.tape) (hu:w'.output=w.output) (hk:∀k,k≠g->w'.heap[k]?=w.heap[k]?):Ext c w c w'/\St G c w' s:=by
 obtain⟨b1,b2,b3,b4,vs0,T0,⟨f0,b5,_⟩,b6,b7⟩:=h.row r g n cap sz hr;rw[hw] at b5;cases b5
 have hc:∀k i,w'.cell? ⟨k,i,none⟩=w.cell? ⟨k,i,none⟩:=λk i=>by
  by_cases e:k=g;subst e;simp[bcM,hw,hw'];simp[bcM,hk k e]
 have e:Ext c w c w':=⟨List.prefix_refl _,aHT _,λ_ y _ h=>⟨y,h,K3.refl y⟩,λk i v hv=>⟨by rw[hn];exact hv.1,hv.2.1,by rw[hc];exact hv.2.2⟩,⟨ho,ht,hu,by rw[hn];exact aHT _,λk hlt=>hk k (by omega)⟩,rfl,rfl,λ_ h=>.inl h,λr _ n cap sz h=>.inl ⟨r,n,cap,sz,h⟩,
  λq _ _ hq=>hk q (λe=>hq r n cap sz (by rw[e];exact hr))⟩
 refine⟨e,⟨h.len,h.desc,h.nodup,h.low,λid k b h1 h2=>?_,h.IG,λr2 g2 n2 aTY sz2 h2=>?_,h.H8,λg hg=>by rw[hn];exact h.NM g hg,λg i hb=>by rw[hn];exact h.Nz g i hb,h.H7,λk cs hg=>(h.Mr k cs hg).mono e,by rw[hn];exact h.RU,h.Od.mono e⟩⟩;obtain⟨o,ho,hb⟩:=h.box id k b h1 h2;exact⟨o,by rw[hk k (λe=>b3 (by rw[<- e];exact List.mem_of_getElem? h1))];exact ho,hb.mono e⟩;by_cases e2:g2=g;subst e2;have:=h.H7 r2 r g2 _ _ _ _ _ _ h2 hr;subst this;rw[hr] at h2;cases h2;exact⟨b1,b2,b3,b4,vs,T,⟨f',hw',hf⟩,b6,b7⟩;obtain⟨a1,a2,a3,a4,vs2,T2,⟨f2,a5,a6⟩,a7⟩:=h.row r2 g2 n2 aTY sz2 h2;exact⟨a1,a2,a3,a4,vs2,T2,⟨f2,by rw[hk g2 e2];exact a5,a6⟩,a7⟩
def ahS{P:Program}{G:AP}{f:FuncId}{args:List AV}{s s1 s2:AS}{v:AV}(h:Sound P G (.call f args s (.ret v) s1))(k:Wkn G [] s1 [] s2):Sound P G (.call f args s (.ret v) s2):=by intro cx w vs hs ha;refine(h cx w vs hs ha).mono ?_;rintro e w' ⟨c',x,st,u,rfl,hu⟩;obtain⟨c2,x2,XV,_⟩:=k c' w' [] st .nil;exact⟨c2,x.trans x2,XV,u,rfl,hu.mono x2⟩
end AI
namespace LexS
def Nx(n:Nat):Nat :=
 if n=32\/n=9\/n=10\/n=13 then 1
 else if 97<=n/\n<=122 then 2
 else if 65<=n/\n<=90 then 4
 else if 48<=n/\n<=57 then 8
 else if n=95 then 16
 else 0
def cin(m:Nat)(c:UInt8):Bool:=(Nx c.toNat &&& m) != 0
def Bb(m:Nat)(t:List UInt8):Nat:=(t.takeWhile (cin m)).length
def I7(m:Nat)(t:List UInt8):Bool:=match t with|[]=>false|c::_=>cin m c
def JA(b:Bool):List UInt8->Nat
 |[]=>0
 |c::t=>
  if b then (if c=10 then 1+JA false t else 1+JA true t)
  else if cin 1 c then 1+JA false t
  else if c=47/\t.head?=some 47 then 1+JA true t
  else 0
def IH(t:List UInt8):Nat:=JA false t
def Hy(t:List UInt8)(i:Nat):Bool :=
 if i=4\/i=7 then t[i]? == some 45 else I7 8 (t.drop i)
def Gb(t:List UInt8):Bool:=decide (10<=t.length)&&(List.range 10).all (Hy t)
def free(t:List UInt8):Bool:=!(I7 30 t||t.head? == some 46)
def IS(t:List UInt8):Nat×Nat :=
 let d:=Bb 8 t
 if Gb t then (if free (t.drop 10) then (5,10) else (0,0))
 else if t.head?=some 48/\1 < d then (0,0)
 else if (t.drop d).head?=some 46 then
  (if 10 < d\/I7 8 (t.drop (d+1))=false\/I7 8 (t.drop (d+2))=false then (0,0)
   else if free (t.drop (d+3)) then (4,d+3) else (0,0))
 else if 12 < d then (0,0)
 else if free (t.drop d) then (3,d) else (0,0)
def F3:List (List UInt8):=[[61,61],[33,61],[60,61],[62,61],[60],[62],[43],[45],[42],[47],[40],[41],[123],[125],[58],[59],[44]]
def RB(t:List UInt8):List (List UInt8)->Nat×Nat
 |[]=>(0,0)
 |y::ys=>if y.isPrefixOf t then (6,y.length) else RB t ys
def Bi(t:List UInt8):Nat×Nat :=
 if I7 2 t then (if Bb 30 t<=16/\Bb 26 t=Bb 30 t then (1,Bb 30 t) else (0,0))
 else if I7 4 t then (if Bb 30 t=3/\Bb 4 t=Bb 30 t then (2,Bb 30 t) else (0,0))
 else if I7 8 t then IS t
 else RB t F3
abbrev Tok:=Nat×List UInt8×Nat
def ME:Nat->Nat->List UInt8->List Tok
 |0,_,_=>[]
 |n+1,o,t=>
  if t=[] then []
  else if (Bi t).1=0 then [(0,[],o)]
  else ((Bi t).1,t.take (Bi t).2,o) ::
    ME n (o+(Bi t).2+IH (t.drop (Bi t).2)) ((t.drop (Bi t).2).drop (IH (t.drop (Bi t).2)))
def EZ(s:List UInt8):List Tok:=ME s.length (IH s) (s.drop (IH s))
end LexS
namespace LexS
def YE(m:Nat):Bb m []=0:=rfl
def En(m:Nat)(c:UInt8)(t:List UInt8):Bb m (c::t)=if cin m c then 1+Bb m t else 0:=by unfold Bb;rw[beM];by_cases h:cin m c=true;simp[h];omega;simp[h]
def ahT(m:Nat)(t:List UInt8):I7 m (t.drop (Bb m t))=false:=by
 induction t with
 |nil=>rfl
 |cons c t ih=>
  rw[En];by_cases h:cin m c=true;rw[if_pos h,bfH,bfE];exact ih;rw[if_neg h,List.drop_zero];simp[I7,h]
def MU(m:Nat)(t:List UInt8):Bb m t<=t.length:=by unfold Bb;exact(biW _).length_le
def agB(t:List UInt8):JA false t=Bb 1 t+JA false (t.drop (Bb 1 t)):=by
 induction t with
 |nil=>rfl
 |cons c t ih=>
  rw[En];by_cases h:cin 1 c=true;rw[if_pos h,bfH 1,bfE,JA];simp only[h,bbC,if_false,if_true];omega;rw[if_neg h];simp
def Y4(t:List UInt8)(h:[47,47].isPrefixOf t=true):JA false t=JA true t:=by
 obtain⟨u,rfl⟩:∃u,t=47::47::u:=by obtain⟨u,hu⟩:=bdB.1 h;exact⟨u,by simpa using hu.symm⟩
 rw[JA]
 conv=>rhs;rw[JA]
 simp[cin,Nx]
def rI(t:List UInt8)(h1:I7 1 t=false)(h:[47,47].isPrefixOf t=false):JA false t=0:=by
 cases t with
 |nil=>rfl
 |cons c t=>
  rw[JA];have h1':cin 1 c=false:=h1;simp only[h1',bbC,if_false];rw[if_neg];rintro⟨rfl,h2⟩;cases t with|nil=>simp at h2|cons d t=>simp at h2;subst h2;simp[List.isPrefixOf] at h
def rH(t:List UInt8):JA true (10::t)=JA false (10::t):=by rw[JA,JA];simp[cin,Nx]
def alS(c:UInt8)(t:List UInt8)(h:c≠10):JA true (c::t)=1+JA true t:=by rw[JA];simp[h]
def avY(b:Bool)(t:List UInt8):JA b t<=t.length:=by
 induction t generalizing b with
 |nil=>simp[JA]
 |cons c t ih=>
  rw[JA];have h1:=ih true;have h2:=ih false
  repeat' split
  all_goals simp only[amN];omega
def aW(t:List UInt8):IH t<=t.length:=avY _ _
def NC(b a:List UInt8):b.isPrefixOf a=(a.take b.length == b):=by rw[Bool.eq_iff_iff,bdB,List.prefix_iff_eq_take,beq_iff_eq];exact eq_comm
end LexS
namespace LexS
def asD(t:List UInt8)(ys:List (List UInt8))(h:(RB t ys).1≠0)(hy:∀y∈ys,1<=y.length):1<=(RB t ys).2/\(RB t ys).2<=t.length:=by
 induction ys with
 |nil=>simp[RB] at h
 |cons y ys ih=>
  rw[RB] at h ⊢;by_cases hp:y.isPrefixOf t=true;rw[if_pos hp];exact⟨hy y (by simp),(bdB.1 hp).length_le⟩;rw[if_neg hp] at h ⊢;exact ih h (λy' h'=>hy y' (by simp[h']))
def W5(m:Nat)(t:List UInt8)(h:I7 m t=true):1<=Bb m t:=by cases t with|nil=>simp[I7] at h|cons c t=>have h':cin m c=true:=h;rw[En,if_pos h'];omega
def auZ(c:UInt8)(m m':Nat)(h:cin m c=true)(hs:∀k,k=0\/k=1\/k=2\/k=4\/k=8\/k=16->(k &&& m)≠0->(k &&& m')≠0):cin m' c=true:=by
 unfold cin at h ⊢;rw[bne_iff_ne] at h ⊢;refine hs _ ?_ h;unfold Nx
 repeat (split;simp)
 simp
def acA(t:List UInt8)(m m':Nat)(h:I7 m t=true)(hs:∀k,k=0\/k=1\/k=2\/k=4\/k=8\/k=16->(k &&& m)≠0->(k &&& m')≠0):I7 m' t=true:=by cases t with|nil=>simp[I7] at h|cons c t=>exact auZ c m m' h hs
def awV(m:Nat)(t:List UInt8)(k:Nat)(h:I7 m (t.drop k)=true):k < t.length:=by
 rcases bdS k t.length with hk | hk
 exact hk;rw[List.drop_eq_nil_of_le hk] at h;simp[I7] at h
def alP(t:List UInt8)(h8:I7 8 t=true)(h:(IS t).1≠0):1<=(IS t).2/\(IS t).2<=t.length:=by
 have hd:=W5 8 t h8;have hl:=MU 8 t;unfold IS at h ⊢;simp only at h ⊢;by_cases h1:Gb t=true;rw[if_pos h1] at h ⊢;by_cases h2:free (t.drop 10)=true;rw[if_pos h2];have:10<=t.length:=by unfold Gb at h1;simp at h1;exact h1.1
 exact⟨by simp,this⟩;rw[if_neg h2] at h;simp at h;rw[if_neg h1] at h ⊢;by_cases h2:t.head?=some 48/\1 < Bb 8 t;rw[if_pos h2] at h;simp at h;rw[if_neg h2] at h ⊢;by_cases h3:(t.drop (Bb 8 t)).head?=some 46;rw[if_pos h3] at h ⊢;by_cases h4:10 < Bb 8 t\/I7 8 (t.drop (Bb 8 t+1))=false\/I7 8 (t.drop (Bb 8 t+2))=false;rw[if_pos h4] at h;simp at h;rw[if_neg h4] at h ⊢;by_cases h5:free (t.drop (Bb 8 t+3))=true;rw[if_pos h5]
 have h6:I7 8 (t.drop (Bb 8 t+2))=true:=by cases hh:I7 8 (t.drop (Bb 8 t+2)) with|true=>rfl|false=>exact absurd (.inr (.inr hh)) h4
 have:=awV 8 t _ h6;exact⟨by simp,by simp only;omega⟩;rw[if_neg h5] at h;simp at h;rw[if_neg h3] at h ⊢;by_cases h4:12 < Bb 8 t;rw[if_pos h4] at h;simp at h;rw[if_neg h4] at h ⊢;by_cases h5:free (t.drop (Bb 8 t))=true;rw[if_pos h5];exact⟨hd,hl⟩;rw[if_neg h5] at h;simp at h
def Xt(t:List UInt8)(h:(Bi t).1≠0):1<=(Bi t).2/\(Bi t).2<=t.length:=by
 have hl:=MU 30 t;unfold Bi at h ⊢;by_cases h2:I7 2 t=true;have hd:=W5 30 t (acA t 2 30 h2 (by intro k hk;rcases hk with rfl | rfl | rfl | rfl | rfl | rfl<;>decide))
 rw[if_pos h2] at h ⊢;by_cases hc:Bb 30 t<=16/\Bb 26 t=Bb 30 t;rw[if_pos hc];exact⟨hd,hl⟩;rw[if_neg hc] at h;simp at h;rw[if_neg h2] at h ⊢;by_cases h4:I7 4 t=true;have hd:=W5 30 t (acA t 4 30 h4 (by intro k hk;rcases hk with rfl | rfl | rfl | rfl | rfl | rfl<;>decide))
 rw[if_pos h4] at h ⊢;by_cases hc:Bb 30 t=3/\Bb 4 t=Bb 30 t;rw[if_pos hc];exact⟨hd,hl⟩;rw[if_neg hc] at h;simp at h;rw[if_neg h4] at h ⊢;by_cases h8:I7 8 t=true;rw[if_pos h8] at h ⊢;exact alP t h8 h;rw[if_neg h8] at h ⊢;exact asD t F3 h (by decide)
def FV(s:List UInt8)(k:Nat):List Tok:=ME (s.length - k) k (s.drop k)
def Zv(n m o:Nat)(t:List UInt8)(hn:t.length<=n)(hm:t.length<=m):ME n o t=ME m o t:=by
 induction n generalizing m o t with
 |zero=>
  have:t=[]:=by cases t with | nil=>rfl | cons c t=>simp at hn
  subst this;cases m with|zero=>rfl|succ m=>simp[ME]
 |succ n ih=>
  cases m with
  |zero=>
   have:t=[]:=by cases t with | nil=>rfl | cons c t=>simp at hm
   subst this;simp[ME]
  |succ m=>
   rw[ME,ME];by_cases ht:t=[];rw[if_pos ht,if_pos ht];rw[if_neg ht,if_neg ht];by_cases hz:(Bi t).1=0;rw[if_pos hz,if_pos hz];rw[if_neg hz,if_neg hz];have hp:=Xt t hz;refine congrArg _ (ih m _ _ ?_ ?_);simp only[aUZ];omega;simp only[aUZ];omega
def Zu(s:List UInt8)(k:Nat)(h:s.length<=k):FV s k=[]:=by unfold FV;rw[show s.length - k=0 from by omega];rfl
def Uf(s:List UInt8)(k:Nat)(h:k < s.length)(hz:(Bi (s.drop k)).1=0):FV s k=[(0,[],k)]:=by unfold FV;obtain⟨n,hn⟩:∃n,s.length - k=n+1:=⟨s.length - k - 1,by omega⟩;rw[hn,ME,if_neg (by intro e;have:=congrArg bfG e;simp at this;omega),if_pos hz]
def Ug(s:List UInt8)(k:Nat)(h:k < s.length)(hz:(Bi (s.drop k)).1≠0) :
   FV s k=((Bi (s.drop k)).1,(s.drop k).take (Bi (s.drop k)).2,k)::FV s (k+(Bi (s.drop k)).2+IH (s.drop (k+(Bi (s.drop k)).2))):=by
 have hp:=Xt _ hz;rw[aUZ] at hp;unfold FV;obtain⟨n,hn⟩:∃n,s.length - k=n+1:=⟨s.length - k - 1,by omega⟩;rw[hn,ME,if_neg (by intro e;have:=congrArg bfG e;simp at this;omega),if_neg hz];refine congrArg _ ?_;rw[bbO,bbO];refine Zv _ _ _ _ ?_ ?_;rw[aUZ];omega;rw[aUZ];omega
def lZ(s:List UInt8):EZ s=FV s (IH s):=by unfold EZ FV;exact Zv _ _ _ _ (by rw[aUZ];omega) (by rw[aUZ];omega)
def FZ:List Tok->List Tok->List Tok×Nat×Nat
 |acc,[]=>(acc,0,0)
 |acc,x::r=>if acc.length=2000 then ([],2,x.2.2) else if x.1=0 then ([],61,x.2.2) else FZ (acc++[x]) r
def NF(s:List UInt8):List Tok×Nat×Nat:=if 6000 < s.length then ([],2,0) else FZ [] (EZ s)
def pQ(l:List Tok):Prop:=l.length<=2000/\∀x∈l,x.1≠0
def Zi(acc q r:List Tok)(h:pQ (acc++q)):FZ acc (q++r)=FZ (acc++q) r:=by
 induction q generalizing acc with
 |nil=>simp
 |cons x q ih=>
  rw[List.cons_append,FZ];have h1:=h.1;rw[List.length_append,amN] at h1;rw[if_neg (by omega),if_neg (h.2 x (by simp))];have:=ih (acc++[x]) (by simpa using h)
  simpa using this
end LexS
namespace Go.Proofs.YtkcimienkafhmaaGreatDoor
open Go.RowKit LexS
def II:Array Value:=(F3.map λy=>Value.string ⟨y.toArray⟩).toArray
def N7(w:World):Prop:=(∀i,i < 128->w.cell? ⟨5,i,none⟩=some (.int .u8 (Nx i)))/\(∀(j:Nat) v,II.toList[j]?=some v->w.cell? ⟨1,j,none⟩=some v)
def N7.Nx{w:World}(h:N7 w)(i:Nat)(hi:i < 128):w.cell? ⟨5,i,none⟩=some (.int .u8 (Nx i)):=by exact h.1 i hi
def N7.UN{w w':World}(h:N7 w)(hk:w'.heap[(5:Nat)]?=w.heap[(5:Nat)]?/\w'.heap[(1:Nat)]?=w.heap[(1:Nat)]?):N7 w':=by
 refine⟨λi hi=>?_,λj v hj=>?_⟩
 ·rw[beY (w:=w) hk.1];exact h.1 i hi
 ·rw[beY (w:=w) hk.2];exact h.2 j v hj
def TB(n:Nat):Prop:=5 < n/\1 < n
def abJ{w:World}{g i:Nat}{v:Value}(h:w.cell? ⟨g,i,none⟩=some v):g < w.heap.size:=by
 unfold bcM at h;by_cases hg:g < w.heap.size
 ·exact hg
 ·rw[beQ (by simpa using hg)] at h
  cases h
def N7.tb{w:World}(h:N7 w):TB w.heap.size:=⟨abJ (h.1 0 (by decide)),abJ (h.2 0 _ rfl)⟩
def XQ{P:Program}{ops:Array Oper}{rest:List Oper}{o:Oper}{a:Act}{w:World}{Q:Exit->Act->World->Prop}(hgd:o.guard=none)(ty:TypeId)(x:Operand)(ho:o.op=.load ty x)
   (g:Nat) (hx:a.eval x=.pointer (some ⟨g,0,none⟩)) (cs:Array Value) (d:TypeDesc) (hg:∀(j:Nat) v,cs.toList[j]?=some v->w.cell? ⟨g,j,none⟩=some v)
   (hu:P.underlying ty=some d) (hd:(match d with | .struct _ | .array _ _=>true | _=>false)=true) (hi:(P.info? ty).map (·.size)=some cs.size)
   (h:wpList P ops Q rest (a.put o.dst (.agg cs)) w):wpList P ops Q (o::rest) a w:=by
 have hl:(loadCells ⟨g,0,none⟩ cs.toList.length).run P w=.ok cs.toList.toArray w :=
  run_loadCells_list (P:=P) w ⟨g,0,none⟩ cs.toList (λj v hv=>by
   have hadd:(⟨g,0,none⟩:Addr).add j=⟨g,j,none⟩:=by unfold Addr.add;split<;>simp_all
   rw[hadd];exact hg j v hv)
 have hrow:(loadVar ty ⟨g,0,none⟩).run P w=.ok (.agg cs) w:=by
  cases hq:P.info? ty with
  |none=>simp[hq] at hi
  |some i=>
   have hs:i.size=cs.size:=by simpa[hq] using hi
   have hagg:(isAgg ty).run P w=.ok true w:=by unfold isAgg;rw[bbA,run_underlying hu w];cases d<;>simp_all
   simp only[bbN,Array.toArray_toList] at hl;simp[loadVar,bbA,hagg,Go.sizeOf,typeInfo,hq,hs,hl]
 refine wpList_plain hgd λ_ hK=>?_;unfold Oper.wp execOp;simp only[ho,hx,Instr.loadAt,Instr.sureAddr,bbA,Sem.run_pure,baZ,hrow];exact hK _ _ h
abbrev L(s:ByteArray):List UInt8:=s.data.toList
def RW(s:ByteArray)(k:Nat)(h:k < s.size):(L s).drop k=s[k]::(L s).drop (k+1):=by rw[List.drop_eq_getElem_cons (by simpa using h)];rfl
def cI(s:ByteArray)(k:Nat)(h:s.size<=k):(L s).drop k=[]:=by rw[List.drop_eq_nil_iff];simpa using h
def okm(m:Nat):Bool:=m == 1||m == 2||m == 4||m == 8||m == 26||m == 30
def akM(n:Nat):Nx n=0\/Nx n=1\/Nx n=2\/Nx n=4\/Nx n=8\/Nx n=16:=by
 unfold Nx;repeat (split;simp)
 simp
def mU(n:Nat)(h:128<=n):Nx n=0:=by unfold Nx;rw[if_neg (by omega),if_neg (by omega),if_neg (by omega),if_neg (by omega),if_neg (by omega)]
def ajW(n m:Nat)(hm:okm m=true):(bits BinOp.and IntKind.u8 (Nx n:Int) (m:Int) != 0)=((Nx n &&& m) != 0):=by
 have hm':m=1\/m=2\/m=4\/m=8\/m=26\/m=30:=by simp[okm] at hm;omega
 rcases akM n with h | h | h | h | h | h<;>rw[h]<;>rcases hm' with rfl | rfl | rfl | rfl | rfl | rfl<;>decide
set_option maxHeartbeats 400000 in
def Jk(s:ByteArray)(a:Int)(m:Nat)(w:World)(hT:N7 w)(h0:0<=a)(hm:okm m=true) :
   Calls Tryz.prog 153 #[.string s,.int .i64 a,.int .u8 m] w λe w'=>e=.returned (.bool (I7 m ((L s).drop a.toNat)))/\w=w':=by
 obtain⟨k,rfl⟩:=bcD h0;rw[aUW];by_cases ha:k < s.size
 ·have e1:I7 m ((L s).drop k)=cin m s[k]:=by rw[RW s k ha];rfl
  have E1:=aUT e1;clear e1;have HM:=aUT hm;clear hm;by_cases h128:(s[k].toNat:Int) < 128
  ·have hc:=hT.Nx s[k].toNat (by omega)
   go_enter Tryz.func153,Tryz.ntmps153
   go_wp2
   go_ret
   refine⟨?_,rfl⟩;rw[E1.out];have:=ajW s[k].toNat m HM.out;exact congrArg (λb=>bgB (.bool b)) this
  ·have e2:cin m s[k]=false:=by unfold cin;rw[mU _ (by omega)];simp
   have E2:=aUT e2;clear e2
   go_enter Tryz.func153,Tryz.ntmps153
   go_wp2
   go_ret
   exact⟨by rw[E1.out,E2.out];rfl,rfl⟩
 ·have e1:I7 m ((L s).drop k)=false:=by rw[cI s k (by omega)];rfl
  have E1:=aUT e1;clear e1
  go_enter Tryz.func153,Tryz.ntmps153
  go_wp2
  go_ret
  exact⟨by rw[E1.out];rfl,rfl⟩
def uO(m:Nat)(s:ByteArray)(k:Nat)(h:I7 m ((L s).drop k)=true):k+Bb m ((L s).drop k)=k+1+Bb m ((L s).drop (k+1))/\k < s.size:=by
 by_cases hk:k < s.size
 ·rw[RW s k hk] at h ⊢
  have h':cin m s[k]=true:=h;refine⟨?_,hk⟩;unfold Bb;rw[beM,if_pos h'];simp;omega
 ·rw[cI s k (by omega)] at h;simp[I7] at h
def aqZ(m:Nat)(t:List UInt8)(h:I7 m t=false):Bb m t=0:=by cases t with|nil=>rfl|cons c t=>unfold Bb;rw[beM];have:cin m c=false:=h;simp[this]
def fS(m:Nat)(t:List UInt8):Bb m t<=t.length:=by unfold Bb;exact(biW _).length_le
set_option maxHeartbeats 400000 in
def Sn(s:ByteArray)(a:Int)(m:Nat)(w:World)(hs:s.size<=9223372036854775806)(hT:N7 w)(h0:0<=a)(hm:okm m=true) :
   Calls Tryz.prog 151 #[.string s,.int .i64 a,.int .u8 m] w λe w'=>e=.returned (.int .i64 (a+Bb m ((L s).drop a.toNat):Int))/\w=w':=by
 obtain⟨k0,rfl⟩:=bcD h0;rw[aUW];have HM:=aUT hm;clear hm
 go_enter Tryz.func151,Tryz.ntmps151
 go_wp2_with fail
 go_loop [1] (λi=>∃k:Nat,Hid (k+Bb m ((L s).drop k)=k0+Bb m ((L s).drop k0))/\i=.int .i64 k) (λi=>s.size - (intOf i).toNat)
 case atStart=>exact⟨k0,aUT rfl,rfl⟩
 case round=>
  obtain⟨k,HK,rfl⟩:=hrel;cases hb:I7 m ((L s).drop k) with
  |true=>
   obtain⟨e1,hlt⟩:=uO m s k hb;have E1:=aUT e1;clear e1;have HB:=aUT hb;clear hb
   go_wp2_with fail
   refine(Jk s _ m _ hT (by omega) HM.out).mono ?_;rintro e w' ⟨rfl,rfl⟩;rw[aUW,HB.out]
   go_wp2_with fail
   go_round
   case rel=>exact⟨k+1,aUT (by rw[<- HK.out,E1.out]),by go_num⟩
   case measure=>simp[intOf];omega
  |false=>
   have HB:=aUT hb;clear hb
   go_wp2_with fail
   refine(Jk s _ m _ hT (by omega) HM.out).mono ?_;rintro e w' ⟨rfl,rfl⟩;rw[aUW,HB.out]
   go_wp2_with fail
   go_ret
   refine⟨?_,rfl⟩;have h1:=HK.out;rw[aqZ m _ HB.out] at h1;exact congrArg (λn:Int=>bgB (.int .i64 n)) (by omega)
end Go.Proofs.YtkcimienkafhmaaGreatDoor
