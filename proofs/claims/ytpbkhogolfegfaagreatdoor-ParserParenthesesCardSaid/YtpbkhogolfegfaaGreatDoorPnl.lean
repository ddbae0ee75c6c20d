/- Part of a proof: see the last text. -/
import Derived.Test.YtpbkhogolfegfaaGreatDoorPnk
import Derived.RangeFuncNested
import Derived.RangeFuncBound
import Derived.RangeFuncCalls
import Derived.RangeFuncLeaves
import Derived.RangeFuncBox
import Derived.Shelf.Abstract
import Derived.Shelf.RegionOpen
import Derived.OwnWalkIn
import Derived.TacticsInMore
import Derived.LoopNIn
import Derived.LoopIn
set_option linter.unusedVariables false
set_option linter.unusedSimpArgs false
set_option linter.defProp false
noncomputable section
open Array renaming replicate_succ->boQ,replicate_zero->boR
open Go.Fence renaming wide->brB
open Go.Lib renaming hid->bcI
open Int renaming toNat_natCast->biW
open List renaming append_toArray->boX,cons_append->bcE,length_cons->Yy,length_nil->aOD,nil_append->bcJ,push_toArray->bpO,size_toArray->bkR
open Nat renaming reduceAdd->bqT,reduceSub->bqU
namespace Go.Proofs.YtpbkhogolfegfaaGreatDoor
open Go.RowKit Go.Shelf LexS
attribute [local go_sem] Oper.semAt_some
def axH(x:Tok):Value:=.agg #[.int .i64 x.1,.string ⟨x.2.1.toArray⟩,.int .i64 x.2.2]
def KpL(n₀ Bn:Nat)(W W':World):Prop:=Below n₀ W W'/\W'.heap[Bn]?=W.heap[Bn]?
def aYK{n₀ Bn:Nat}{A B C:World}(h:KpL n₀ Bn A B)(k:KpL n₀ Bn B C):KpL n₀ Bn A C:=⟨h.1.trans k.1,k.2.trans h.2⟩
def aYJ{n₀ Bn:Nat}{w:World}(hn:n₀<=w.heap.size)(hB:Bn < w.heap.size)(W:World)(l:Nat)(o o':Obj)(hl:w.heap.size<=l)(h:W.heap[l]?=some o)(h1:o.isCells=false)(h2:o.isWalk=false):KpL n₀ Bn W (W.putObj l o') :=
 ⟨belowK_b hn W l o o' hl h h1 h2,World.putObj_heap_other (by omega)⟩
def Od.below{n₀:Nat}{W W':World}(h:Od W)(hn:TB n₀)(hb:Below n₀ W W'):Od W' :=
 h.GY ⟨hb.block _ hn.1,hb.block _ hn.2⟩
set_option maxRecDepth 100000 in
set_option maxHeartbeats 1000000 in
def adP(n:Nat)(hn:1<=n)(l Bn n₀:Nat)(hn0:TB n₀)(s:ByteArray)(hs:s.size<=6000)(J Jx:List Tok->World->Prop)
   (hY:∀pre x W,J pre W->pre.length < (Ez (L s)).length->YieldAt brB (n - 1) Tryz.prog l #[axH x] W λe W' =>
     (e=.returned (.bool true)/\J (pre++[x]) W'/\KpL n₀ Bn W W')\/(e=.returned (.bool false)/\Jx (pre++[x]) W'))
   (W:World) (hBn:Boxed W Bn 9 (.string s)) (hT:Od W) (h0:J [] W) :
   CallsIn brB n Tryz.prog 115 #[.func (.yield l) #[] #[],.pointer (some ⟨Bn,0,none⟩)] W λe W'=>(∃v,e=.returned v) /\
     ((∃ys,(ys=Ez (L s))/\J ys W')\/(∃pre,pre <+: Ez (L s)/\Jx pre W')):=by
 have hc:=hBn.cell;have H0:Hid (Ez (L s)=FJ (L s) (Gc (L s))):=bcI (Zo _);have hsk:=cB (L s);refine callsIn_of_wp Tryz.func115 rfl trivial ?_ rfl;simp only[Tryz.ntmps115,bkR,Yy,aOD,bqT,bqU,boQ,boR,bpO,boX,bcJ,bcE]
 gi_wp2_with (refine⟨trivial,?_⟩;gi_at_call 116;refine(callsIn_wide.2 (yJ s 0 _ (by omega) hT (by omega) (by omega))).mono ?_;rintro e w' ⟨rfl,rfl⟩)
 gi_loopw [3] (λa wr=>∃(pre:List Tok) (k:Nat),a=.int .i64 k/\k<=s.size/\Hid (Ez (L s)=pre++FJ (L s) k)/\Boxed wr Bn 9 (.string s)/\Od wr/\J pre wr)
   (λa _=>s.size - (intOf a).toNat)
 case atStart =>
   refine⟨[],Gc (L s),?_,?_,bcI ?_,hBn,hT,h0⟩
   · simp
   · simpa using hsk
   · rw[bcJ];exact H0.out
 case round =>
   obtain⟨pre,k,rfl,hk,HX,hBr,hTr,hJs⟩:=hrel;have hcr:=hBr.cell;by_cases hlt:k < s.size
   · have hlt':k < (L s).length:=by simpa using hlt
     by_cases hz:(Bt ((L s).drop k)).1=0
     · have HE:Hid (Ez (L s)=pre++[(0,[],k)]):=bcI (by rw[HX.out,UB _ _ hlt' hz])
       have HO:Hid (U7 k (Bt ((L s).drop k))=.tuple #[.int .i64 0,.int .i64 0]):=bcI (by unfold U7;rw[if_pos hz]);clear hz;obtain⟨fn,tmps,assign,body,hy,hR⟩:=hY pre (0,[],k) wr hJs (by rw[HE.out];simp);dsimp only[axH] at hy;rw[show((0:Nat):Int)=0 from rfl,show([]:List UInt8).toArray=#[] from rfl] at hy
       gi_wp2_with (refine⟨trivial,?_⟩;gi_at_call 117;refine(callsIn_wide.2 (xU s k _ hs hTr (by omega) (by omega))).mono ?_;rintro e w' ⟨rfl,rfl⟩;rw[biW,HO.out])
       refine hR.mono ?_;rintro e W3 (⟨rfl,hJ3,hk3⟩ | ⟨rfl,hJx3⟩)
       · gi_wp2
         refine bodyPost_ret (results_none rfl _ _ _) rfl ?_;exact⟨⟨_,rfl⟩,.inl ⟨_,HE.out.symm,hJ3⟩⟩
       · gi_wp2
         refine bodyPost_ret (results_none rfl _ _ _) rfl ?_;exact⟨⟨_,rfl⟩,.inr ⟨_,by rw[HE.out];exact List.prefix_refl _,hJx3⟩⟩
     · obtain⟨q,d,hqd⟩:∃q d,Bt ((L s).drop k)=(q,d):=⟨_,_,rfl⟩
       have hpos:=Ui _ hz;rw[hqd] at hz hpos;rw[M9] at hpos;obtain⟨hd1,hd2⟩:=hpos;simp only at hd1 hd2 hz;have hq:((q:Int) == 0)=false:=by rw[beq_eq_false_iff_ne];omega
       have HE:Hid (Ez (L s)=pre++(q,((L s).drop k).take d,k)::FJ (L s) (k+d+Gc ((L s).drop (k+d)))):=bcI (by rw[HX.out,QP _ _ hlt' (by rw[hqd];exact hz),hqd]);have HO:Hid (U7 k (Bt ((L s).drop k))=.tuple #[.int .i64 q,.int .i64 (k+d:Nat)]):=bcI (by unfold U7;rw[hqd,if_neg hz]);clear hz hqd;have hsk2:=cB ((L s).drop (k+d));rw[M9] at hsk2;obtain⟨fn,tmps,assign,body,hy,hR⟩:=hY pre (q,((L s).drop k).take d,k) wr hJs (by rw[HE.out];simp);have HT:Hid ((⟨(((L s).drop k).take d).toArray⟩:ByteArray)=s.extract k (k+d)):=bcI (Go.WideShapes.bytes_inj (by rw[Lib.extract_data];simp));dsimp only[axH] at hy;rw[HT.out] at hy;have hkd:k+d<=s.size:=by omega
       gi_wp2_with (refine⟨trivial,?_⟩;gi_at_call 117;refine(callsIn_wide.2 (xU s k _ hs hTr (by omega) (by omega))).mono ?_;rintro e w' ⟨rfl,rfl⟩;rw[biW,HO.out])
       refine hR.mono ?_;rintro e W3 (⟨rfl,hJ3,hk3⟩ | ⟨rfl,hJx3⟩)
       · have hT3:Od W3:=hTr.below hn0 hk3.1
         have hB3:Boxed W3 Bn 9 (.string s):=hk3.2.trans hBr;have hc3:=hB3.cell
         gi_wp2_with (refine⟨trivial,?_⟩;gi_at_call 116;refine(callsIn_wide.2 (yJ s _ _ (by omega) hT3 (by omega) (by omega))).mono ?_;rintro e w' ⟨rfl,rfl⟩)
         go_roundw
         case rel=>
           refine⟨_,k+d+Gc ((L s).drop (k+d)),?_,by omega,bcI ?_,hB3,hT3,hJ3⟩
           · rw[show((k:Int)+(d:Int)).toNat=k+d from by omega]
             exact congrArg (Value.int .i64) (by omega)
           · rw[HE.out];simp
         case measure =>
           rw[show((k:Int)+(d:Int)).toNat=k+d from by omega];simp only[intOf];omega
       · gi_wp2
         refine bodyPost_ret (results_none rfl _ _ _) rfl ?_;exact⟨⟨_,rfl⟩,.inr ⟨_,by rw[HE.out];exact⟨FJ (L s) (k+d+Gc ((L s).drop (k+d))),by simp⟩,hJx3⟩⟩
   · have hge:s.size<=k:=by omega
     have HE:Hid (Ez (L s)=pre):=bcI (by rw[HX.out,UA _ _ (by simpa using hge)];simp)
     gi_wp2
     go_end0
     exact⟨⟨_,rfl⟩,.inl ⟨pre,HE.out.symm,hJs⟩⟩
set_option maxHeartbeats 1000000 in
def amF(n:Nat)(s:ByteArray)(w:World) :
   CallsIn brB n Tryz.prog 67 #[.string s] w λe w'=>e=.returned (.func (.func 115) #[] #[.pointer (some ⟨w.heap.size,0,none⟩)])/\w'=w.alloc (.cells #[.string s] 9):=by
 refine callsIn_of_wp Tryz.func67 rfl trivial ?_ rfl;simp only[Tryz.ntmps67,bkR,Yy,aOD,bqT,bqU,boQ,boR,bpO,boX,bcJ,bcE]
 gi_wp2
 go_ret
 exact⟨rfl,rfl⟩
def sP(n:Nat)(hn:1<=n)(Bn n₀:Nat)(hn0:TB n₀)(s:ByteArray)(hs:s.size<=6000)(w:World)(hB:Bn < w.heap.size)(hn1:n₀<=w.heap.size)(hb:Boxed w Bn 9 (.string s))(hT:Od w) :
   SeqStopsK brB n Tryz.prog 115 #[.pointer (some ⟨Bn,0,none⟩)] (λx:Tok=>#[axH x]) (KpL n₀ Bn) (λys=>ys=Ez (L s)) (λpre=>pre <+: Ez (L s)) (Ez (L s)).length w:=λl J Jx W hW _ _ hY h0 =>
 adP n hn l Bn n₀ hn0 s hs J Jx hY W ((hW.block Bn hB).trans hb) (hT.below (n₀:=w.heap.size) hT.tb hW) h0
end Go.Proofs.YtpbkhogolfegfaaGreatDoor
