/- Part of a proof: see the last text. -/
import Derived.Test.YtpbkhogolfegfaaGreatDoorPnl
import Derived.Maps.AppendAt
set_option linter.unusedVariables false
set_option linter.unusedSimpArgs false
set_option linter.defProp false
noncomputable section
open Go.Boxed renaming new->bqN
open Go.KeepsOthers renaming setCell->bmH
open Go.Lib renaming hid->bcI
open Go.OwnFrom renaming and->boS
open Go.World renaming ownsRow_nil->bpP,size_alloc->bkU
open List renaming cons_append->bcE,length_append->V5,length_take->bjG,mem_append->bjK,mem_singleton->bjB,nil_append->bcJ
open Nat renaming le_refl->aOC
namespace Go.Proofs.YtpbkhogolfegfaaGreatDoor
open Go.RowKit Go.Shelf LexS
attribute [local go_sem] Oper.semAt_some
def KS(l:List Tok):List Value:=l.flatMap λx=>[.int .i64 x.1,.string ⟨x.2.1.toArray⟩,.int .i64 x.2.2]
def oS(r:List Tok×Nat×Nat)(w:World)(e:Ending)(w':World):Prop :=
 ∃v,e=.returned (.tuple #[v,.int .i64 r.2.1,.int .i64 r.2.2])/\w'.ownsRow w.heap.size 43 3 v r.1.length (KS r.1)/\Below w.heap.size w w'
def Tryz.aAZ:(Tryz.prog.info? 43).map (λi=>(i.zero,i.size,i.bytes))=some (some (.agg #[.int .i64 0,.string ⟨#[]⟩,.int .i64 0]),3,32):=by kernel_rfl
def lP(l:List Tok)(x:Tok):KS (l++[x])=KS l++[.int .i64 x.1,.string ⟨x.2.1.toArray⟩,.int .i64 x.2.2]:=by
 unfold KS;simp
set_option maxHeartbeats 1000000 in
def asZ(s:ByteArray)(w:World)(hs:6000 < s.size) :
   Calls Tryz.prog 34 #[.string s] w (oS ([],2,0) w):=by
 go_enter Tryz.func34,Tryz.ntmps34
 go_wp2_with fail
 refine bodyPost_ret (v:=.tuple #[.slice none 0 0,.int .i64 2,.int .i64 0]) (by simp[results,Tryz.results34,go_sem]) rfl ?_;exact⟨_,rfl,bpP _ _ _ _,(((Below.refl _ _).alloc (aOC _) _).alloc (by simp) _).alloc (by simp;omega) _⟩
def aUP(s:ByteArray)(w:World)(pre:List Tok)(W:World):Prop :=
 (((((∃v,Boxed W (w.heap.size+1+1+1) 38 v/\W.ownsRow w.heap.size 43 3 v pre.length (KS pre)/\True) /\
   Boxed W w.heap.size 38 (.slice none 0 0))/\Boxed W (w.heap.size+1) 39 (.int .i64 0))/\Boxed W (w.heap.size+1+1) 3 (.int .i64 0))/\Boxed W (w.heap.size+1+1+1+1) 9 (.string s))/\SV pre/\Below w.heap.size w W
def asX(s:ByteArray)(w:World)(B:Nat)(hB:w.heap.size<=B):OwnFrom B (aUP s w) :=
 boS (boS (boS (boS (boS (Own.from (holdsRow_own w.heap.size (w.heap.size+1+1+1) 38 43 3 (λpre:List Tok=>pre.length) KS (λ_ _=>True)) _) (Own.from (boxed_own _ _ (λ_=>_)) _)) (Own.from (boxed_own _ _ (λ_=>_)) _)) (Own.from (boxed_own _ _ (λ_=>_)) _)) (Own.from (boxed_own _ _ (λ_=>_)) _)) (boS (ownFrom_pure _ SV) (ownFrom_below (aOC _) hB))
def aLY(w:World)(c:Code)(pre:List Tok)(W:World):Prop :=
 (c=.ret/\(∃q x err,(pre=q++[x]/\SV q/\((q.length=2000/\err=2)\/(q.length < 2000/\x.1=0/\err=61))) /\
   Boxed W w.heap.size 38 (.slice none 0 0)/\Boxed W (w.heap.size+1) 39 (.int .i64 (err:Nat))/\Boxed W (w.heap.size+1+1) 3 (.int .i64 x.2.2)))/\Below w.heap.size w W
def TG{X Y:World}{row:Option Nat}{B b:Nat}{t:TypeId}{v:Value}(h:Boxed X b t v)(hg:X.grownBy Y row)(hr:∀r,row=some r->B<=r/\∃o:Obj,X.heap[r]?=some o/\o.isCells=false):Boxed Y b t v :=
 boxed_own b t (λ(_:Unit)=>v) () X Y row h hg (λr e=>(hr r e).2)
def asY(w:World)(B:Nat)(hB:w.heap.size<=B)(c:Code):OwnFrom B (aLY w c):=by
 intro pre X Y row hs hg hr;obtain⟨⟨hc,q,x,err,h1,h2,h3,h4⟩,h5⟩:=hs;exact⟨⟨hc,q,x,err,h1,TG h2 hg hr,TG h3 hg hr,TG h4 hg hr⟩,ownFrom_below (β:=Unit) (aOC _) hB () X Y row h5 hg hr⟩
def VR(W:World)(B:Nat)(x:Tok):Prop:=W.heap[B]?=some (.cells #[.int .i64 x.1,.string ⟨x.2.1.toArray⟩,.int .i64 x.2.2] 43 (0,0))
def VR.kept{X Y:World}{row:Option Nat}{b:Nat}{x:Tok}(h:VR X b x)(hg:X.grownBy Y row)(hr:some b≠row):VR Y b x :=
 (hg.block b (Array.getElem?_eq_some_iff.1 h).1 hr).trans h
def VR.keeps{X Y:World}{row:Option Nat}{B b:Nat}{x:Tok}(h:VR X b x)(hg:X.grownBy Y row)(hr:∀r,row=some r->B<=r/\∃o:Obj,X.heap[r]?=some o/\o.isCells=false):VR Y b x:=by
 refine h.kept hg (λe=>?_);obtain⟨_,o,ho,hc⟩:=hr b e.symm;rw[show X.heap[b]?=_ from h] at ho;cases ho;cases hc
def ajQ(w:World)(a b c:Value)(t:TypeId):∀(j:Nat) u,[a,b,c][j]?=some u->(w.alloc (.cells #[a,b,c] t)).cell? ((⟨w.heap.size,0,none⟩:Addr).add j)=some u:=by
 intro j u hu;have hh:=heap_alloc_new w (.cells #[a,b,c] t)
 match j,hu with
 | 0,hu=>rw[show(⟨w.heap.size,0,none⟩:Addr).add 0=⟨w.heap.size,0,none⟩ from rfl,cell_of_row _ _ _ _ _ _ hh];simpa using hu
 | 1,hu=>rw[show(⟨w.heap.size,0,none⟩:Addr).add 1=⟨w.heap.size,1,none⟩ from rfl,cell_of_row _ _ _ _ _ _ hh];simpa using hu
 | 2,hu=>rw[show(⟨w.heap.size,0,none⟩:Addr).add 2=⟨w.heap.size,2,none⟩ from rfl,cell_of_row _ _ _ _ _ _ hh];simpa using hu
 | n+3,hu=>simp at hu
def ON{X:World}{b D:Nat}{t:TypeId}{v:Value}{o:Obj}(h:Boxed X b t v)(hne:b≠D):Boxed (X.putObj D o) b t v :=
 h.kept (grownBy_putObj' X D o) (λe=>hne (by cases e;rfl))
def afY{w W:World}{B:Nat}{pre:List Tok}{x:Tok}{err:Nat}(c0:Boxed W w.heap.size 38 (.slice none 0 0))(c1:Boxed W (w.heap.size+1) 39 (.int .i64 0))(c2:Boxed W (w.heap.size+1+1) 3 (.int .i64 0))(hG:SV pre)(hB:Below w.heap.size w W)
   (he:(pre.length=2000/\err=2)\/(pre.length < 2000/\x.1=0/\err=61)) :
   KeepsFrom B W (((W.setCell ⟨w.heap.size,0,none⟩ (.slice none 0 0)).setCell ⟨w.heap.size+1,0,none⟩ (.int .i64 (err:Nat))).setCell ⟨w.heap.size+1+1,0,none⟩ (.int .i64 x.2.2)).drew /\
   aLY w .ret (pre++[x]) (((W.setCell ⟨w.heap.size,0,none⟩ (.slice none 0 0)).setCell ⟨w.heap.size+1,0,none⟩ (.int .i64 (err:Nat))).setCell ⟨w.heap.size+1+1,0,none⟩ (.int .i64 x.2.2)).drew:=by
 refine⟨((((bmH _ _ _).trans (bmH _ _ _)).trans (bmH _ _ _)).trans (KeepsOthers.drew _)).from _,⟨rfl,pre,x,err,⟨rfl,hG,he⟩,?_,?_,?_⟩,?_⟩
 · exact((c0.set _).other (by omega) _).other (by omega) _
 · exact((c1.other (by omega) _).set _).other (by omega) _
 · exact((c2.other (by omega) _).other (by omega) _).set _
 · exact(((hB.setCell (p:=⟨w.heap.size,0,none⟩) (aOC _) _).setCell (p:=⟨w.heap.size+1,0,none⟩) (by simp) _).setCell (p:=⟨w.heap.size+1+1,0,none⟩) (by simp;omega) _).drew
set_option maxRecDepth 100000 in
set_option maxHeartbeats 2000000 in
def akQ(s:ByteArray)(w:World)(hT:Od w)(hs:s.size<=6000) :
   Calls Tryz.prog 34 #[.string s] w (oS (Ev [] (Ez (L s))) w):=by
 have hb:decide ((6000:Int) < (s.size:Int))=false:=by simp;omega
 have hT2:TB w.heap.size:=hT.tb;obtain⟨i0,hi,hz0,hz1,hz2⟩:=info_parts Tryz.aAZ;have hmo:Tryz.prog.follows Departure.mixedOrders=true:=by kernel_rfl
 refine(callsIn_wide (n:=8)).1 ?_;refine callsIn_of_wp_marks Tryz.func34 rfl trivial ?_ rfl;simp only[Tryz.ntmps34,List.size_toArray,List.length_cons,List.length_nil,Nat.reduceAdd,Nat.reduceSub,Array.replicate_succ,Array.replicate_zero,List.push_toArray,List.append_toArray,bcJ,bcE]
 gi_wp2_with (refine⟨trivial,?_⟩;gi_at_call 67;refine(amF _ s _).mono ?_;rintro e w' ⟨rfl,rfl⟩)
 obtain⟨W0,hW0⟩:∃W0,((((w.alloc (.cells #[.slice none 0 0] 38)).alloc (.cells #[.int .i64 0] 39)).alloc (.cells #[.int .i64 0] 3)).alloc (.cells #[.slice none 0 0] 38)).alloc (.cells #[.string s] 9)=W0:=⟨_,rfl⟩;have hsz:W0.heap.size=w.heap.size+5:=by rw[<- hW0];simp
 have b0:Boxed W0 w.heap.size 38 (.slice none 0 0):=by
   rw[<- hW0];exact((((bqN w _ _).alloc _).alloc _).alloc _).alloc _
 have b1:Boxed W0 (w.heap.size+1) 39 (.int .i64 0):=by
   rw[<- hW0];have:=((((bqN (w.alloc (.cells #[.slice none 0 0] 38)) 39 (.int .i64 0)).alloc (.cells #[.int .i64 0] 3)).alloc (.cells #[.slice none 0 0] 38)).alloc (.cells #[.string s] 9));rw[bkU] at this;exact this
 have b2:Boxed W0 (w.heap.size+1+1) 3 (.int .i64 0):=by
   rw[<- hW0];have:=(((bqN ((w.alloc (.cells #[.slice none 0 0] 38)).alloc (.cells #[.int .i64 0] 39)) 3 (.int .i64 0)).alloc (.cells #[.slice none 0 0] 38)).alloc (.cells #[.string s] 9));rw[bkU,bkU] at this;exact this
 have b3:Boxed W0 (w.heap.size+1+1+1) 38 (.slice none 0 0):=by
   rw[<- hW0];have:=((bqN (((w.alloc (.cells #[.slice none 0 0] 38)).alloc (.cells #[.int .i64 0] 39)).alloc (.cells #[.int .i64 0] 3)) 38 (.slice none 0 0)).alloc (.cells #[.string s] 9));rw[bkU,bkU,bkU] at this;exact this
 have b4:Boxed W0 (w.heap.size+1+1+1+1) 9 (.string s):=by
   rw[<- hW0];have:=(bqN ((((w.alloc (.cells #[.slice none 0 0] 38)).alloc (.cells #[.int .i64 0] 39)).alloc (.cells #[.int .i64 0] 3)).alloc (.cells #[.slice none 0 0] 38)) 9 (.string s));rw[bkU,bkU,bkU,bkU] at this;exact this
 have hB0:Below w.heap.size w W0:=by
   rw[<- hW0];exact(((((Below.refl _ w).alloc (aOC _) _).alloc (by simp) _).alloc (by simp;omega) _).alloc (by simp;omega) _).alloc (by simp;omega) _
 have hT0:Od W0:=hT.below hT2 hB0;rw[hW0];clear hW0
 refine wpIn_rangeFunc_ownH rfl (by omega) (gf:=115) (lb:=#[.pointer (some ⟨w.heap.size+1+1+1+1,0,none⟩)]) rfl trivial (enters_of Tryz.func115 (by kernel_rfl) rfl)
   (sP 7 (by omega) (w.heap.size+1+1+1+1) w.heap.size hT2 s hs W0 (by omega) (by omega) b4 hT0) aYK (aYJ (by omega) (by omega)) (Below.refl _ _) (λ_=>rfl)
   (aUP s w) (aLY w) (asX s w _ (by omega)) (asY w _ (by omega))
   ⟨⟨⟨⟨⟨⟨_,b3,bpP _ _ _ _,trivial⟩,b0⟩,b1⟩,b2⟩,b4⟩,⟨by simp,by simp⟩,hB0⟩
   (λx a' W=>∃Bx,w.heap.size+1+1+1+1 < Bx/\VR W Bx x/\a'={ tmps:=#[.string s,undef,.pointer (some ⟨w.heap.size,0,none⟩),.pointer (some ⟨w.heap.size+1,0,none⟩),.pointer (some ⟨w.heap.size+1+1,0,none⟩),.pointer (some ⟨w.heap.size+1+1+1,0,none⟩),.pointer (some ⟨Bx,0,none⟩),.string s,.int .i64 s.size,.bool false,.string s,.func (.func 115) #[] #[.pointer (some ⟨w.heap.size+1+1+1+1,0,none⟩)],.agg #[.int .i64 x.1,.string ⟨x.2.1.toArray⟩,.int .i64 x.2.2],undef,undef,undef,undef,undef,undef,undef,undef,undef,undef,undef,undef,undef,undef,undef],defers:=[] })
   (λx a' _ X Y row hs hg hr=>by obtain⟨Bx,h1,h2,h3⟩:=hs;exact⟨Bx,h1,h2.keeps hg hr,h3⟩)
   ?assign ?body ?done ?stop
 case assign =>
   rintro l pre x W K hI hK;dsimp only[axH]
   gi_wp2
   obtain⟨⟨⟨⟨⟨⟨v,hv,hrow,_⟩,c0⟩,c1⟩,c2⟩,c4⟩,hG,hB⟩:=hI;exact hK _ _ ((KeepsOthers.alloc _ _).from _) ⟨(Below.refl _ W).alloc hB.size _,Below.heap_alloc _ _ _ c4.lt⟩ ⟨⟨⟨⟨⟨⟨v,hv.alloc _,hrow.alloc _,trivial⟩,c0.alloc _⟩,c1.alloc _⟩,c2.alloc _⟩,c4.alloc _⟩,hG,hB.alloc hB.size _⟩ ⟨W.heap.size,c4.lt,heap_alloc_new W _,rfl⟩
 case body =>
   rintro l pre x a' W hl ⟨r,hr⟩ hI ⟨Bx,hBx,bX,rfl⟩ hlt;obtain⟨⟨⟨⟨⟨⟨v,hv,hrow,_⟩,c0⟩,c1⟩,c2⟩,c4⟩,hG,hB⟩:=hI
   obtain⟨A,cp,rfl⟩:∃A cp,v=.slice A pre.length cp:=by
     rcases hrow.2 with ⟨h,h0⟩ | ⟨g,cap,cur,h,_⟩
     · exact⟨none,0,by rw[h,h0]⟩
     · exact⟨_,cap,h⟩
   have hc:=hv.cell;have k0:W.cell? ⟨Bx,0,none⟩=some (.int .i64 x.1):=by rw[cell_of_row W Bx 0 _ _ _ bX];rfl
   have k1:W.cell? ⟨Bx,1,none⟩=some (.string ⟨x.2.1.toArray⟩):=by rw[cell_of_row W Bx 1 _ _ _ bX];rfl
   have k2:W.cell? ⟨Bx,2,none⟩=some (.int .i64 x.2.2):=by rw[cell_of_row W Bx 2 _ _ _ bX];rfl
   have hlen:=hG.1;by_cases h2000:pre.length=2000
   · have hb2:((pre.length:Int) == 2000)=true:=by rw[beq_iff_eq];omega
     have f0:=c0.frozen;have f1:=c1.frozen;have f2:=c2.frozen;have d0:=c0.cell;have d1:=c1.cell;have d2:=c2.cell;have HL:=bcI h2000;clear h2000
     gi_wp2
     gi_region_o
     all_goals gi_wp2
     all_goals exact afY (err:=2) c0 c1 c2 hG hB (.inl ⟨HL.out,rfl⟩)
   · have hb2:((pre.length:Int) == 2000)=false:=by rw[beq_eq_false_iff_ne];omega
     have HL:=bcI h2000;clear h2000;by_cases hx0:x.1=0
     · have hb3:((x.1:Int) == 0)=true:=by rw[beq_iff_eq];omega
       have HX:=bcI hx0;clear hx0;have f0:=c0.frozen;have f1:=c1.frozen;have f2:=c2.frozen;have d0:=c0.cell;have d1:=c1.cell;have d2:=c2.cell
       gi_wp2
       gi_region_o
       all_goals gi_wp2
       all_goals exact afY (err:=61) c0 c1 c2 hG hB (.inr ⟨by have:=HL.out;omega,HX.out,rfl⟩)
     · have hb3:((x.1:Int) == 0)=false:=by rw[beq_eq_false_iff_ne];omega
       have HX:=bcI hx0;clear hx0;have hlen2:pre.length+1<=2000:=by have:=HL.out;omega
       gi_wp2_with (gi_at_builtin;refine wpListIn_append_own _ rfl _ _ 38 rfl w.heap.size 43 i0 _ 3 32 Tryz.underlying38 hi hz0 hz1 hz2 rfl (by decide) _ _ _ rfl (hrow.alloc _) ⟨W.heap.size,0,none⟩ 1 1 [.int .i64 x.1,.string ⟨x.2.1.toArray⟩,.int .i64 x.2.2] rfl rfl (ajQ _ _ _ _ _) (by simp[Value.oneCell']) (by unfold maxLen;omega) (by omega) (by have:=hB.size;simp;omega) ?_;intro v' w1 hown' hgrow _;obtain⟨g',cap',rfl⟩:=ownsRow_succ hown';obtain⟨hv1,hv2,hr2,hk2,hb2'⟩:=hv.appended (by decide) hrow hB.size (by omega) hown' hgrow;have hc1:=hv1.cell;have hf1:=hv1.frozen)
       have e0:=((c0.alloc _).kept hgrow (c0.not_row (by decide) hrow)).other (B':=w.heap.size+1+1+1) (by omega) (.slice (some ⟨g',0,none⟩) (pre.length+1) cap');have e1:=((c1.alloc _).kept hgrow (c1.not_row (by decide) hrow)).other (B':=w.heap.size+1+1+1) (by omega) (.slice (some ⟨g',0,none⟩) (pre.length+1) cap');have e2:=((c2.alloc _).kept hgrow (c2.not_row (by decide) hrow)).other (B':=w.heap.size+1+1+1) (by omega) (.slice (some ⟨g',0,none⟩) (pre.length+1) cap');have e4:=((c4.alloc _).kept hgrow (c4.not_row (by decide) hrow)).other (B':=w.heap.size+1+1+1) (by omega) (.slice (some ⟨g',0,none⟩) (pre.length+1) cap');refine⟨hk2.from _,⟨hb2',e4.trans c4.symm⟩,⟨⟨⟨⟨⟨_,hv2,?_,trivial⟩,e0⟩,e1⟩,e2⟩,e4⟩,⟨by simp;omega,?_⟩,hB.trans hb2'⟩
       · rw[lP,V5]
         exact hr2
       · intro y hy
         rcases bjK.1 hy with h | h
         · exact hG.2 y h
         · rw[bjB] at h;rw[h];exact HX.out
 case done =>
   rintro D ys W hD rfl hI hK;obtain⟨⟨⟨⟨⟨⟨v,hv,hrow,_⟩,c0⟩,c1⟩,c2⟩,c4⟩,hG,hB⟩:=hI
   have HO:Hid (Ev [] (Ez (L s))=(Ez (L s),0,0)):=by
     refine bcI ?_;have:=ZG [] (Ez (L s)) [] (by simpa using hG)
     simpa[Ev] using this
   obtain⟨A,cp,rfl⟩:∃A cp,v=.slice A (Ez (L s)).length cp:=by
     rcases hrow.2 with ⟨h,h0⟩ | ⟨g,cap,cur,h,_⟩
     · exact⟨none,0,by rw[h,h0]⟩
     · exact⟨_,cap,h⟩
   have hc:=hv.cell;have f0:=c0.frozen;have f1:=c1.frozen;have f2:=c2.frozen;have d0:=c0.cell;have d1:=c1.cell;have d2:=c2.cell
   gi_wp2
   have hKF:=(((bmH W ⟨w.heap.size,0,none⟩ (.slice A (Ez (L s)).length cp)).trans (bmH _ ⟨w.heap.size+1,0,none⟩ (.int .i64 0))).trans (bmH _ ⟨w.heap.size+1+1,0,none⟩ (.int .i64 0))).same D _ hK rfl;refine⟨by simp,.inl ⟨_,_,rfl,run_takeDeferred hKF,?_⟩⟩;have g0:=ON (D:=D) (o:=.deferred none) (((c0.set (.slice A (Ez (L s)).length cp)).other (B':=w.heap.size+1) (by omega) (.int .i64 0)).other (B':=w.heap.size+1+1) (by omega) (.int .i64 0)) (by omega);have g1:=ON (D:=D) (o:=.deferred none) (((c1.other (B':=w.heap.size) (by omega) (.slice A (Ez (L s)).length cp)).set (.int .i64 0)).other (B':=w.heap.size+1+1) (by omega) (.int .i64 0)) (by omega);have g2:=ON (D:=D) (o:=.deferred none) (((c2.other (B':=w.heap.size) (by omega) (.slice A (Ez (L s)).length cp)).other (B':=w.heap.size+1) (by omega) (.int .i64 0)).set (.int .i64 0)) (by omega);refine⟨.tuple #[.slice A (Ez (L s)).length cp,.int .i64 0,.int .i64 0],?_,?_⟩
   · have g0':=g0.cell
     have g1':=g1.cell;have g2':=g2.cell;simp[results,Tryz.results34,go_sem,g0',g1',g2']
   · rw[HO.out]
     refine⟨_,rfl,?_,?_⟩
     · refine ownsRow_putObj (l:=D) ?_ _ hKF rfl
       have r1:=hrow.kept (grownBy_setCell' W w.heap.size (.slice A (Ez (L s)).length cp)) (.inr (c0.not_row (by decide) hrow).symm);have r2:=r1.kept (grownBy_setCell' _ (w.heap.size+1) (.int .i64 0)) (.inr (c1.not_row (by decide) hrow).symm);exact r2.kept (grownBy_setCell' _ (w.heap.size+1+1) (.int .i64 0)) (.inr (c2.not_row (by decide) hrow).symm)
     · exact(((hB.setCell (p:=⟨w.heap.size,0,none⟩) (aOC _) _).setCell (p:=⟨w.heap.size+1,0,none⟩) (by simp) _).setCell (p:=⟨w.heap.size+1+1,0,none⟩) (by simp;omega) _).trans (belowK_b (w:=w) (aOC _) _ D _ _ (by omega) hKF rfl rfl)
 case stop =>
   rintro D c pre W hD hpre hX hK;obtain⟨⟨rfl,q,x,err,⟨rfl,hG,he⟩,c0,c1,c2⟩,hB⟩:=hX
   have HO:Hid (Ev [] (Ez (L s))=([],err,x.2.2)):=by
     refine bcI ?_;obtain⟨r,hr⟩:=hpre;rw[<- hr,List.append_assoc,ZG [] q _ (by simpa using hG)]
     simp only[bcJ,bcE,Ev];rcases he with ⟨h1,h2⟩ | ⟨h1,h2,h3⟩
     · rw[if_pos h1,h2]
     · rw[if_neg (by omega),if_pos h2,h3]
   have d0:=c0.cell;have d1:=c1.cell;have d2:=c2.cell
   gi_wp2
   refine⟨by simp,.inl ⟨_,_,rfl,run_takeDeferred hK,?_⟩⟩;have g0:=ON (D:=D) (o:=.deferred none) c0 (by omega);have g1:=ON (D:=D) (o:=.deferred none) c1 (by omega);have g2:=ON (D:=D) (o:=.deferred none) c2 (by omega);refine⟨.tuple #[.slice none 0 0,.int .i64 err,.int .i64 x.2.2],?_,?_⟩
   · have g0':=g0.cell
     have g1':=g1.cell;have g2':=g2.cell;simp[results,Tryz.results34,go_sem,g0',g1',g2']
   · rw[HO.out]
     exact⟨_,rfl,bpP _ _ _ _,hB.trans (belowK_b (w:=w) (aOC _) W D _ _ (by omega) hK rfl rfl)⟩
def aBN(s:ByteArray)(w:World)(hT:Od w):Calls Tryz.prog 34 #[.string s] w (oS (Mf (L s)) w):=by
 unfold Mf;have hl:(L s).length=s.size:=by simp
 rw[hl];by_cases h:6000 < s.size
 · rw[if_pos h];exact asZ s w h
 · rw[if_neg h];exact akQ s w hT (by omega)
end Go.Proofs.YtpbkhogolfegfaaGreatDoor
namespace LexS
def aBD(m:Nat)(t u:List UInt8)(n:Nat)(hn:1<=n)(ht:t≠[]):F7 m (t.take n++u)=F7 m t:=by
 cases t with
 | nil=>exact absurd rfl ht
 | cons c t =>
   obtain⟨n',rfl⟩:∃n',n=n'+1:=⟨n - 1,by omega⟩;rfl
def apE(t u:List UInt8)(n k:Nat)(h1:k<=n)(h2:k<=t.length):(t.take n++u).drop k=(t.drop k).take (n - k)++u:=by
 rw[List.drop_append_of_le_length (by rw[bjG];omega),List.drop_take]
def aaR(t u:List UInt8)(n i:Nat)(h1:i < n)(h2:i < t.length):FM (t.take n++u) i=FM t i:=by
 unfold FM;split;rw[List.getElem?_append_left (by rw[bjG];omega),List.getElem?_take,if_pos h1];rw[apE t u n i (by omega) (by omega),aBD 8 _ u _ (by omega) (by intro e;have:=congrArg List.length e;simp at this;omega)]
def TL(t:List UInt8):EN t=true↔10<=t.length/\∀i,i < 10->FM t i=true:=by
 unfold EN;simp[List.all_eq_true]
def pM(t u:List UInt8)(n:Nat)(hn:10<=n)(h:EN t=true):EN (t.take n++u)=true:=by
 rw[TL] at h ⊢;refine⟨by simp;omega,λi hi=>?_⟩;rw[aaR t u n i (by omega) (by omega)];exact h.2 i hi
end LexS
namespace LexS
def akY(l:List Tok):(SV l/\Ev [] l=(l,0,0))\/∃q x r e,l=q++x::r/\SV q/\((q.length=2000/\e=2)\/(q.length < 2000/\x.1=0/\e=61))/\Ev [] l=([],e,x.2.2):=by
 have main:∀(r q:List Tok),SV q->(SV (q++r)/\Ev q r=(q++r,0,0))\/∃q' x r' e,q++r=q'++x::r'/\SV q'/\((q'.length=2000/\e=2)\/(q'.length < 2000/\x.1=0/\e=61))/\Ev q r=([],e,x.2.2):=by
   intro r
   induction r with
   | nil=>intro q hq;left;simp only[List.append_nil,Ev];exact⟨hq,trivial⟩
   | cons x r ih =>
     intro q hq;rw[Ev];by_cases h1:q.length=2000;right;rw[if_pos h1];exact⟨q,x,r,2,rfl,hq,.inl ⟨h1,rfl⟩,rfl⟩;rw[if_neg h1];have hq1:=hq.1;by_cases h2:x.1=0;right;rw[if_pos h2];exact⟨q,x,r,61,rfl,hq,.inr ⟨by omega,h2,rfl⟩,rfl⟩;rw[if_neg h2]
     have hg:SV (q++[x]):=by
       refine⟨by rw[V5,List.length_singleton];omega,λy hy=>?_⟩;rcases bjK.1 hy with h | h
       exact hq.2 y h;rw[bjB] at h;rw[h];exact h2
     have:=ih (q++[x]) hg;simpa using this
 simpa using main l [] ⟨by simp,by simp⟩
end LexS
namespace LexS
def aBM(s:List UInt8)(h:(Mf s).2.1=0):s.length<=6000/\Ez s=(Mf s).1/\SV (Ez s)/\(Mf s).2.2=0:=by
 unfold Mf at h ⊢;by_cases hs:6000 < s.length;rw[if_pos hs] at h;simp at h;rw[if_neg hs] at h ⊢;rcases akY (Ez s) with ⟨hg,e⟩ | ⟨q,x,r,e,hq,hg,hc,he⟩
 rw[e];exact⟨by omega,rfl,hg,rfl⟩;rw[he] at h;simp only at h;rcases hc with ⟨_,h2⟩ | ⟨_,_,h2⟩<;>omega
def Za(t:List UInt8)(ys:List (List UInt8)):(Nv t ys).1=0\/(Nv t ys).1=6:=by
 induction ys with
 | nil=>left;rfl
 | cons y ys ih=>rw[Nv];split
                 right;rfl;exact ih
end LexS
