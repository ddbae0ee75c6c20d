/- Part of a proof: see the last text. -/
import Derived.Test.YtpbkhogolfegfaaGreatDoorPik
import Derived.Maps.AppendAt
set_option linter.unusedVariables false
set_option linter.unusedSimpArgs false
set_option linter.defProp false
noncomputable section
namespace Go.Proofs.YtpbkhogolfegfaaGreatDoor
open Go.RowKit Go.Shelf LexS
attribute [local go_sem] Oper.semAt_some
def KD(l:List Tok):List Value:=l.flatMap λx=>[.int .i64 x.1,.string ⟨x.2.1.toArray⟩,.int .i64 x.2.2]
def cI(r:List Tok×Nat×Nat)(w:World)(e:Ending)(w':World):Prop :=
 ∃v,e=.returned (.tuple #[v,.int .i64 r.2.1,.int .i64 r.2.2])/\w'.ownsRow w.heap.size 43 3 v r.1.length (KD r.1)/\Below w.heap.size w w'
def Tryz.amP:(Tryz.prog.info? 43).map (λi=>(i.zero,i.size,i.bytes))=some (some (.agg #[.int .i64 0,.string ⟨#[]⟩,.int .i64 0]),3,32):=by kernel_rfl
def Z3(l:List Tok)(x:Tok):KD (l++[x])=KD l++[.int .i64 x.1,.string ⟨x.2.1.toArray⟩,.int .i64 x.2.2]:=by
 unfold KD;simp
set_option maxHeartbeats 1000000 in
def aeP(s:ByteArray)(w:World)(hs:6000 < s.size) :
   Calls Tryz.prog 34 #[.string s] w (cI ([],2,0) w):=by
 go_enter Tryz.func34,Tryz.ntmps34
 go_wp2_with fail
 refine bodyPost_ret (v:=.tuple #[.slice none 0 0,.int .i64 2,.int .i64 0]) (by simp[results,Tryz.results34,go_sem]) rfl ?_;exact⟨_,rfl,World.ownsRow_nil _ _ _ _,(((Below.refl _ _).alloc (Nat.le_refl _) _).alloc (by simp) _).alloc (by simp;omega) _⟩
def aAR(s:ByteArray)(w:World)(pre:List Tok)(W:World):Prop :=
 (((((∃v,Boxed W (w.heap.size+1+1+1) 38 v/\W.ownsRow w.heap.size 43 3 v pre.length (KD pre)/\True) /\
   Boxed W w.heap.size 38 (.slice none 0 0))/\Boxed W (w.heap.size+1) 39 (.int .i64 0))/\Boxed W (w.heap.size+1+1) 3 (.int .i64 0))/\Boxed W (w.heap.size+1+1+1+1) 9 (.string s))/\Ri pre/\Below w.heap.size w W
def aeN(s:ByteArray)(w:World)(B:Nat)(hB:w.heap.size<=B):OwnFrom B (aAR s w) :=
 OwnFrom.and (OwnFrom.and (OwnFrom.and (OwnFrom.and (OwnFrom.and (Own.from (holdsRow_own w.heap.size (w.heap.size+1+1+1) 38 43 3 (λpre:List Tok=>pre.length) KD (λ_ _=>True)) _) (Own.from (boxed_own _ _ (λ_=>_)) _)) (Own.from (boxed_own _ _ (λ_=>_)) _)) (Own.from (boxed_own _ _ (λ_=>_)) _)) (Own.from (boxed_own _ _ (λ_=>_)) _)) (OwnFrom.and (ownFrom_pure _ Ri) (ownFrom_below (Nat.le_refl _) hB))
def auT(w:World)(c:Code)(pre:List Tok)(W:World):Prop :=
 (c=.ret/\(∃q x err,(pre=q++[x]/\Ri q/\((q.length=2000/\err=2)\/(q.length < 2000/\x.1=0/\err=61))) /\
   Boxed W w.heap.size 38 (.slice none 0 0)/\Boxed W (w.heap.size+1) 39 (.int .i64 (err:Nat))/\Boxed W (w.heap.size+1+1) 3 (.int .i64 x.2.2)))/\Below w.heap.size w W
def R1{X Y:World}{row:Option Nat}{B b:Nat}{t:TypeId}{v:Value}(h:Boxed X b t v)(hg:X.grownBy Y row)(hr:∀r,row=some r->B<=r/\∃o:Obj,X.heap[r]?=some o/\o.isCells=false):Boxed Y b t v :=
 boxed_own b t (λ(_:Unit)=>v) () X Y row h hg (λr e=>(hr r e).2)
def aeO(w:World)(B:Nat)(hB:w.heap.size<=B)(c:Code):OwnFrom B (auT w c):=by
 intro pre X Y row hs hg hr;obtain⟨⟨hc,q,x,err,h1,h2,h3,h4⟩,h5⟩:=hs;exact⟨⟨hc,q,x,err,h1,R1 h2 hg hr,R1 h3 hg hr,R1 h4 hg hr⟩,ownFrom_below (β:=Unit) (Nat.le_refl _) hB () X Y row h5 hg hr⟩
def TA(W:World)(B:Nat)(x:Tok):Prop:=W.heap[B]?=some (.cells #[.int .i64 x.1,.string ⟨x.2.1.toArray⟩,.int .i64 x.2.2] 43 (0,0))
def TA.kept{X Y:World}{row:Option Nat}{b:Nat}{x:Tok}(h:TA X b x)(hg:X.grownBy Y row)(hr:some b≠row):TA Y b x :=
 (hg.block b (Array.getElem?_eq_some_iff.1 h).1 hr).trans h
def TA.keeps{X Y:World}{row:Option Nat}{B b:Nat}{x:Tok}(h:TA X b x)(hg:X.grownBy Y row)(hr:∀r,row=some r->B<=r/\∃o:Obj,X.heap[r]?=some o/\o.isCells=false):TA Y b x:=by
 refine h.kept hg (λe=>?_);obtain⟨_,o,ho,hc⟩:=hr b e.symm;rw[show X.heap[b]?=_ from h] at ho;cases ho;cases hc
def vV(w:World)(a b c:Value)(t:TypeId):∀(j:Nat) u,[a,b,c][j]?=some u->(w.alloc (.cells #[a,b,c] t)).cell? ((⟨w.heap.size,0,none⟩:Addr).add j)=some u:=by
 intro j u hu;have hh:=heap_alloc_new w (.cells #[a,b,c] t)
 match j,hu with
 | 0,hu=>rw[show(⟨w.heap.size,0,none⟩:Addr).add 0=⟨w.heap.size,0,none⟩ from rfl,cell_of_row _ _ _ _ _ _ hh];simpa using hu
 | 1,hu=>rw[show(⟨w.heap.size,0,none⟩:Addr).add 1=⟨w.heap.size,1,none⟩ from rfl,cell_of_row _ _ _ _ _ _ hh];simpa using hu
 | 2,hu=>rw[show(⟨w.heap.size,0,none⟩:Addr).add 2=⟨w.heap.size,2,none⟩ from rfl,cell_of_row _ _ _ _ _ _ hh];simpa using hu
 | n+3,hu=>simp at hu
def NM{X:World}{b D:Nat}{t:TypeId}{v:Value}{o:Obj}(h:Boxed X b t v)(hne:b≠D):Boxed (X.putObj D o) b t v :=
 h.kept (grownBy_putObj' X D o) (λe=>hne (by cases e;rfl))
def sU{w W:World}{B:Nat}{pre:List Tok}{x:Tok}{err:Nat}(c0:Boxed W w.heap.size 38 (.slice none 0 0))(c1:Boxed W (w.heap.size+1) 39 (.int .i64 0))(c2:Boxed W (w.heap.size+1+1) 3 (.int .i64 0))(hG:Ri pre)(hB:Below w.heap.size w W)
   (he:(pre.length=2000/\err=2)\/(pre.length < 2000/\x.1=0/\err=61)) :
   KeepsFrom B W (((W.setCell ⟨w.heap.size,0,none⟩ (.slice none 0 0)).setCell ⟨w.heap.size+1,0,none⟩ (.int .i64 (err:Nat))).setCell ⟨w.heap.size+1+1,0,none⟩ (.int .i64 x.2.2)).drew /\
   auT w .ret (pre++[x]) (((W.setCell ⟨w.heap.size,0,none⟩ (.slice none 0 0)).setCell ⟨w.heap.size+1,0,none⟩ (.int .i64 (err:Nat))).setCell ⟨w.heap.size+1+1,0,none⟩ (.int .i64 x.2.2)).drew:=by
 refine⟨((((KeepsOthers.setCell _ _ _).trans (KeepsOthers.setCell _ _ _)).trans (KeepsOthers.setCell _ _ _)).trans (KeepsOthers.drew _)).from _,⟨rfl,pre,x,err,⟨rfl,hG,he⟩,?_,?_,?_⟩,?_⟩
 · exact((c0.set _).other (by omega) _).other (by omega) _
 · exact((c1.other (by omega) _).set _).other (by omega) _
 · exact((c2.other (by omega) _).other (by omega) _).set _
 · exact(((hB.setCell (p:=⟨w.heap.size,0,none⟩) (Nat.le_refl _) _).setCell (p:=⟨w.heap.size+1,0,none⟩) (by simp) _).setCell (p:=⟨w.heap.size+1+1,0,none⟩) (by simp;omega) _).drew
set_option maxRecDepth 100000 in
set_option maxHeartbeats 2000000 in
def wU(s:ByteArray)(w:World)(hT:Np w)(hs:s.size<=6000) :
   Calls Tryz.prog 34 #[.string s] w (cI (DQ [] (Dh (L s))) w):=by
 have hb:decide ((6000:Int) < (s.size:Int))=false:=by simp;omega
 have hT2:TB w.heap.size:=hT.tb;obtain⟨i0,hi,hz0,hz1,hz2⟩:=info_parts Tryz.amP;have hmo:Tryz.prog.follows Departure.mixedOrders=true:=by kernel_rfl
 refine(callsIn_wide (n:=8)).1 ?_;refine callsIn_of_wp_marks Tryz.func34 rfl trivial ?_ rfl;simp only[Tryz.ntmps34,List.size_toArray,List.length_cons,List.length_nil,Nat.reduceAdd,Nat.reduceSub,Array.replicate_succ,Array.replicate_zero,List.push_toArray,List.append_toArray,List.nil_append,List.cons_append]
 gi_wp2_with (refine⟨trivial,?_⟩;gi_at_call 67;refine(yP _ s _).mono ?_;rintro e w' ⟨rfl,rfl⟩)
 obtain⟨W0,hW0⟩:∃W0,((((w.alloc (.cells #[.slice none 0 0] 38)).alloc (.cells #[.int .i64 0] 39)).alloc (.cells #[.int .i64 0] 3)).alloc (.cells #[.slice none 0 0] 38)).alloc (.cells #[.string s] 9)=W0:=⟨_,rfl⟩;have hsz:W0.heap.size=w.heap.size+5:=by rw[<- hW0];simp
 have b0:Boxed W0 w.heap.size 38 (.slice none 0 0):=by
   rw[<- hW0];exact((((Boxed.new w _ _).alloc _).alloc _).alloc _).alloc _
 have b1:Boxed W0 (w.heap.size+1) 39 (.int .i64 0):=by
   rw[<- hW0];have:=((((Boxed.new (w.alloc (.cells #[.slice none 0 0] 38)) 39 (.int .i64 0)).alloc (.cells #[.int .i64 0] 3)).alloc (.cells #[.slice none 0 0] 38)).alloc (.cells #[.string s] 9));rw[World.size_alloc] at this;exact this
 have b2:Boxed W0 (w.heap.size+1+1) 3 (.int .i64 0):=by
   rw[<- hW0];have:=(((Boxed.new ((w.alloc (.cells #[.slice none 0 0] 38)).alloc (.cells #[.int .i64 0] 39)) 3 (.int .i64 0)).alloc (.cells #[.slice none 0 0] 38)).alloc (.cells #[.string s] 9));rw[World.size_alloc,World.size_alloc] at this;exact this
 have b3:Boxed W0 (w.heap.size+1+1+1) 38 (.slice none 0 0):=by
   rw[<- hW0];have:=((Boxed.new (((w.alloc (.cells #[.slice none 0 0] 38)).alloc (.cells #[.int .i64 0] 39)).alloc (.cells #[.int .i64 0] 3)) 38 (.slice none 0 0)).alloc (.cells #[.string s] 9));rw[World.size_alloc,World.size_alloc,World.size_alloc] at this;exact this
 have b4:Boxed W0 (w.heap.size+1+1+1+1) 9 (.string s):=by
   rw[<- hW0];have:=(Boxed.new ((((w.alloc (.cells #[.slice none 0 0] 38)).alloc (.cells #[.int .i64 0] 39)).alloc (.cells #[.int .i64 0] 3)).alloc (.cells #[.slice none 0 0] 38)) 9 (.string s));rw[World.size_alloc,World.size_alloc,World.size_alloc,World.size_alloc] at this;exact this
 have hB0:Below w.heap.size w W0:=by
   rw[<- hW0];exact(((((Below.refl _ w).alloc (Nat.le_refl _) _).alloc (by simp) _).alloc (by simp;omega) _).alloc (by simp;omega) _).alloc (by simp;omega) _
 have hT0:Np W0:=hT.below hT2 hB0;rw[hW0];clear hW0
 refine wpIn_rangeFunc_ownH rfl (by omega) (gf:=115) (lb:=#[.pointer (some ⟨w.heap.size+1+1+1+1,0,none⟩)]) rfl trivial (enters_of Tryz.func115 (by kernel_rfl) rfl)
   (fP 7 (by omega) (w.heap.size+1+1+1+1) w.heap.size hT2 s hs W0 (by omega) (by omega) b4 hT0) aDJ (aDI (by omega) (by omega)) (Below.refl _ _) (λ_=>rfl)
   (aAR s w) (auT w) (aeN s w _ (by omega)) (aeO w _ (by omega))
   ⟨⟨⟨⟨⟨⟨_,b3,World.ownsRow_nil _ _ _ _,trivial⟩,b0⟩,b1⟩,b2⟩,b4⟩,⟨by simp,by simp⟩,hB0⟩
   (λx a' W=>∃Bx,w.heap.size+1+1+1+1 < Bx/\TA W Bx x/\a'={ tmps:=#[.string s,undef,.pointer (some ⟨w.heap.size,0,none⟩),.pointer (some ⟨w.heap.size+1,0,none⟩),.pointer (some ⟨w.heap.size+1+1,0,none⟩),.pointer (some ⟨w.heap.size+1+1+1,0,none⟩),.pointer (some ⟨Bx,0,none⟩),.string s,.int .i64 s.size,.bool false,.string s,.func (.func 115) #[] #[.pointer (some ⟨w.heap.size+1+1+1+1,0,none⟩)],.agg #[.int .i64 x.1,.string ⟨x.2.1.toArray⟩,.int .i64 x.2.2],undef,undef,undef,undef,undef,undef,undef,undef,undef,undef,undef,undef,undef,undef,undef],defers:=[] })
   (λx a' _ X Y row hs hg hr=>by obtain⟨Bx,h1,h2,h3⟩:=hs;exact⟨Bx,h1,h2.keeps hg hr,h3⟩)
   ?assign ?body ?done ?stop
 case assign =>
   rintro l pre x W K hI hK;dsimp only[ahZ]
   gi_wp2
   obtain⟨⟨⟨⟨⟨⟨v,hv,hrow,_⟩,c0⟩,c1⟩,c2⟩,c4⟩,hG,hB⟩:=hI;exact hK _ _ ((KeepsOthers.alloc _ _).from _) ⟨(Below.refl _ W).alloc hB.size _,Below.heap_alloc _ _ _ c4.lt⟩ ⟨⟨⟨⟨⟨⟨v,hv.alloc _,hrow.alloc _,trivial⟩,c0.alloc _⟩,c1.alloc _⟩,c2.alloc _⟩,c4.alloc _⟩,hG,hB.alloc hB.size _⟩ ⟨W.heap.size,c4.lt,heap_alloc_new W _,rfl⟩
 case body =>
   rintro l pre x a' W hl ⟨r,hr⟩ hI ⟨Bx,hBx,bX,rfl⟩ hlt;obtain⟨⟨⟨⟨⟨⟨v,hv,hrow,_⟩,c0⟩,c1⟩,c2⟩,c4⟩,hG,hB⟩:=hI
   obtain⟨A,cp,rfl⟩:∃A cp,v=.slice A pre.length cp:=by
     rcases hrow.2 with ⟨h,h0⟩ | ⟨g,cap,cur,h,_⟩
     · exact⟨none,0,by rw[h,h0]⟩
     · exact⟨_,cap,h⟩
   have hc:=hv.cell;have k0:W.cell? ⟨Bx,0,none⟩=some (.int .i64 x.1):=by rw[cell_of_row W Bx 0 _ _ _ bX];rfl
   have k1:W.cell? ⟨Bx,1,none⟩=some (.string ⟨x.2.1.toArray⟩):=by rw[cell_of_row W Bx 1 _ _ _ bX];rfl
   have k2:W.cell? ⟨Bx,2,none⟩=some (.int .i64 x.2.2):=by rw[cell_of_row W Bx 2 _ _ _ bX];rfl
   have hlen:=hG.1;by_cases h2000:pre.length=2000
   · have hb2:((pre.length:Int) == 2000)=true:=by rw[beq_iff_eq];omega
     have f0:=c0.frozen;have f1:=c1.frozen;have f2:=c2.frozen;have d0:=c0.cell;have d1:=c1.cell;have d2:=c2.cell;have HL:=Lib.hid h2000;clear h2000
     gi_wp2
     gi_region_o
     all_goals gi_wp2
     all_goals exact sU (err:=2) c0 c1 c2 hG hB (.inl ⟨HL.out,rfl⟩)
   · have hb2:((pre.length:Int) == 2000)=false:=by rw[beq_eq_false_iff_ne];omega
     have HL:=Lib.hid h2000;clear h2000;by_cases hx0:x.1=0
     · have hb3:((x.1:Int) == 0)=true:=by rw[beq_iff_eq];omega
       have HX:=Lib.hid hx0;clear hx0;have f0:=c0.frozen;have f1:=c1.frozen;have f2:=c2.frozen;have d0:=c0.cell;have d1:=c1.cell;have d2:=c2.cell
       gi_wp2
       gi_region_o
       all_goals gi_wp2
       all_goals exact sU (err:=61) c0 c1 c2 hG hB (.inr ⟨by have:=HL.out;omega,HX.out,rfl⟩)
     · have hb3:((x.1:Int) == 0)=false:=by rw[beq_eq_false_iff_ne];omega
       have HX:=Lib.hid hx0;clear hx0;have hlen2:pre.length+1<=2000:=by have:=HL.out;omega
       gi_wp2_with (gi_at_builtin;refine wpListIn_append_own _ rfl _ _ 38 rfl w.heap.size 43 i0 _ 3 32 Tryz.underlying38 hi hz0 hz1 hz2 rfl (by decide) _ _ _ rfl (hrow.alloc _) ⟨W.heap.size,0,none⟩ 1 1 [.int .i64 x.1,.string ⟨x.2.1.toArray⟩,.int .i64 x.2.2] rfl rfl (vV _ _ _ _ _) (by simp[Value.oneCell']) (by unfold maxLen;omega) (by omega) (by have:=hB.size;simp;omega) ?_;intro v' w1 hown' hgrow _;obtain⟨g',cap',rfl⟩:=ownsRow_succ hown';obtain⟨hv1,hv2,hr2,hk2,hb2'⟩:=hv.appended (by decide) hrow hB.size (by omega) hown' hgrow;have hc1:=hv1.cell;have hf1:=hv1.frozen)
       have e0:=((c0.alloc _).kept hgrow (c0.not_row (by decide) hrow)).other (B':=w.heap.size+1+1+1) (by omega) (.slice (some ⟨g',0,none⟩) (pre.length+1) cap');have e1:=((c1.alloc _).kept hgrow (c1.not_row (by decide) hrow)).other (B':=w.heap.size+1+1+1) (by omega) (.slice (some ⟨g',0,none⟩) (pre.length+1) cap');have e2:=((c2.alloc _).kept hgrow (c2.not_row (by decide) hrow)).other (B':=w.heap.size+1+1+1) (by omega) (.slice (some ⟨g',0,none⟩) (pre.length+1) cap');have e4:=((c4.alloc _).kept hgrow (c4.not_row (by decide) hrow)).other (B':=w.heap.size+1+1+1) (by omega) (.slice (some ⟨g',0,none⟩) (pre.length+1) cap');refine⟨hk2.from _,⟨hb2',e4.trans c4.symm⟩,⟨⟨⟨⟨⟨_,hv2,?_,trivial⟩,e0⟩,e1⟩,e2⟩,e4⟩,⟨by simp;omega,?_⟩,hB.trans hb2'⟩
       · rw[Z3,List.length_append]
         exact hr2
       · intro y hy
         rcases List.mem_append.1 hy with h | h
         · exact hG.2 y h
         · rw[List.mem_singleton] at h;rw[h];exact HX.out
 case done =>
   rintro D ys W hD rfl hI hK;obtain⟨⟨⟨⟨⟨⟨v,hv,hrow,_⟩,c0⟩,c1⟩,c2⟩,c4⟩,hG,hB⟩:=hI
   have HO:Hid (DQ [] (Dh (L s))=(Dh (L s),0,0)):=by
     refine Lib.hid ?_;have:=WB [] (Dh (L s)) [] (by simpa using hG)
     simpa[DQ] using this
   obtain⟨A,cp,rfl⟩:∃A cp,v=.slice A (Dh (L s)).length cp:=by
     rcases hrow.2 with ⟨h,h0⟩ | ⟨g,cap,cur,h,_⟩
     · exact⟨none,0,by rw[h,h0]⟩
     · exact⟨_,cap,h⟩
   have hc:=hv.cell;have f0:=c0.frozen;have f1:=c1.frozen;have f2:=c2.frozen;have d0:=c0.cell;have d1:=c1.cell;have d2:=c2.cell
   gi_wp2
   have hKF:=(((KeepsOthers.setCell W ⟨w.heap.size,0,none⟩ (.slice A (Dh (L s)).length cp)).trans (KeepsOthers.setCell _ ⟨w.heap.size+1,0,none⟩ (.int .i64 0))).trans (KeepsOthers.setCell _ ⟨w.heap.size+1+1,0,none⟩ (.int .i64 0))).same D _ hK rfl;refine⟨by simp,.inl ⟨_,_,rfl,run_takeDeferred hKF,?_⟩⟩;have g0:=NM (D:=D) (o:=.deferred none) (((c0.set (.slice A (Dh (L s)).length cp)).other (B':=w.heap.size+1) (by omega) (.int .i64 0)).other (B':=w.heap.size+1+1) (by omega) (.int .i64 0)) (by omega);have g1:=NM (D:=D) (o:=.deferred none) (((c1.other (B':=w.heap.size) (by omega) (.slice A (Dh (L s)).length cp)).set (.int .i64 0)).other (B':=w.heap.size+1+1) (by omega) (.int .i64 0)) (by omega);have g2:=NM (D:=D) (o:=.deferred none) (((c2.other (B':=w.heap.size) (by omega) (.slice A (Dh (L s)).length cp)).other (B':=w.heap.size+1) (by omega) (.int .i64 0)).set (.int .i64 0)) (by omega);refine⟨.tuple #[.slice A (Dh (L s)).length cp,.int .i64 0,.int .i64 0],?_,?_⟩
   · have g0':=g0.cell
     have g1':=g1.cell;have g2':=g2.cell;simp[results,Tryz.results34,go_sem,g0',g1',g2']
   · rw[HO.out]
     refine⟨_,rfl,?_,?_⟩
     · refine ownsRow_putObj (l:=D) ?_ _ hKF rfl
       have r1:=hrow.kept (grownBy_setCell' W w.heap.size (.slice A (Dh (L s)).length cp)) (.inr (c0.not_row (by decide) hrow).symm);have r2:=r1.kept (grownBy_setCell' _ (w.heap.size+1) (.int .i64 0)) (.inr (c1.not_row (by decide) hrow).symm);exact r2.kept (grownBy_setCell' _ (w.heap.size+1+1) (.int .i64 0)) (.inr (c2.not_row (by decide) hrow).symm)
     · exact(((hB.setCell (p:=⟨w.heap.size,0,none⟩) (Nat.le_refl _) _).setCell (p:=⟨w.heap.size+1,0,none⟩) (by simp) _).setCell (p:=⟨w.heap.size+1+1,0,none⟩) (by simp;omega) _).trans (belowK_b (w:=w) (Nat.le_refl _) _ D _ _ (by omega) hKF rfl rfl)
 case stop =>
   rintro D c pre W hD hpre hX hK;obtain⟨⟨rfl,q,x,err,⟨rfl,hG,he⟩,c0,c1,c2⟩,hB⟩:=hX
   have HO:Hid (DQ [] (Dh (L s))=([],err,x.2.2)):=by
     refine Lib.hid ?_;obtain⟨r,hr⟩:=hpre;rw[<- hr,List.append_assoc,WB [] q _ (by simpa using hG)]
     simp only[List.nil_append,List.cons_append,DQ];rcases he with ⟨h1,h2⟩ | ⟨h1,h2,h3⟩
     · rw[if_pos h1,h2]
     · rw[if_neg (by omega),if_pos h2,h3]
   have d0:=c0.cell;have d1:=c1.cell;have d2:=c2.cell
   gi_wp2
   refine⟨by simp,.inl ⟨_,_,rfl,run_takeDeferred hK,?_⟩⟩;have g0:=NM (D:=D) (o:=.deferred none) c0 (by omega);have g1:=NM (D:=D) (o:=.deferred none) c1 (by omega);have g2:=NM (D:=D) (o:=.deferred none) c2 (by omega);refine⟨.tuple #[.slice none 0 0,.int .i64 err,.int .i64 x.2.2],?_,?_⟩
   · have g0':=g0.cell
     have g1':=g1.cell;have g2':=g2.cell;simp[results,Tryz.results34,go_sem,g0',g1',g2']
   · rw[HO.out]
     exact⟨_,rfl,World.ownsRow_nil _ _ _ _,hB.trans (belowK_b (w:=w) (Nat.le_refl _) W D _ _ (by omega) hK rfl rfl)⟩
def anC(s:ByteArray)(w:World)(hT:Np w):Calls Tryz.prog 34 #[.string s] w (cI (Lg (L s)) w):=by
 unfold Lg;have hl:(L s).length=s.size:=by simp
 rw[hl];by_cases h:6000 < s.size
 · rw[if_pos h];exact aeP s w h
 · rw[if_neg h];exact wU s w hT (by omega)
end Go.Proofs.YtpbkhogolfegfaaGreatDoor
namespace LexS
def Sep(u:List UInt8):Prop:=u=[]\/∃c u',u=c::u'/\cin 1 c=true
def Wf(c:UInt8)(h:cin 1 c=true):LY c.toNat=1/\(c=32\/c=9\/c=10\/c=13):=by
 unfold cin at h;rw[bne_iff_ne] at h;by_cases h1:c.toNat=32\/c.toNat=9\/c.toNat=10\/c.toNat=13;refine⟨by unfold LY;rw[if_pos h1],?_⟩;rcases h1 with h1 | h1 | h1 | h1
 exact .inl (UInt8.toNat_inj.1 h1);exact .inr (.inl (UInt8.toNat_inj.1 h1));exact .inr (.inr (.inl (UInt8.toNat_inj.1 h1)));exact .inr (.inr (.inr (UInt8.toNat_inj.1 h1)))
 · exfalso;apply h
   unfold LY;rw[if_neg h1]
   repeat (split;simp)
   simp
def Wg(c:UInt8)(m:Nat)(h:cin 1 c=true)(hm:(1 &&& m)=0):cin m c=false:=by
 unfold cin;rw[(Wf c h).1,hm];rfl
def lA(u:List UInt8)(m:Nat)(h:Sep u)(hm:(1 &&& m)=0):Be m u=0:=by
 rcases h with rfl | ⟨c,u',rfl,hc⟩
 rfl;rw[Dp,Wg c m hc hm];rfl
def apG(u:List UInt8)(m:Nat)(h:Sep u)(hm:(1 &&& m)=0):GJ m u=false:=by
 rcases h with rfl | ⟨c,u',rfl,hc⟩
 rfl;exact Wg c m hc hm
def Qo(m:Nat)(t u:List UInt8)(n:Nat)(hm:(1 &&& m)=0)(hu:Sep u)(hn:Be m t<=n):Be m (t.take n++u)=Be m t:=by
 induction t generalizing n with
 | nil=>simpa[SS] using lA u m hu hm
 | cons c t ih =>
   rw[Dp] at hn ⊢;by_cases hc:cin m c=true;rw[if_pos hc] at hn ⊢;obtain⟨n',rfl⟩:∃n',n=n'+1:=⟨n - 1,by omega⟩;rw[List.take_succ_cons,List.cons_append,Dp,if_pos hc,ih n' (by omega)];rw[if_neg hc];cases n with
   | zero=>simpa using lA u m hu hm
   | succ n=>rw[List.take_succ_cons,List.cons_append,Dp,if_neg hc]
def Xn(m:Nat)(t u:List UInt8)(n:Nat)(hn:1<=n)(ht:t≠[]):GJ m (t.take n++u)=GJ m t:=by
 cases t with
 | nil=>exact absurd rfl ht
 | cons c t =>
   obtain⟨n',rfl⟩:∃n',n=n'+1:=⟨n - 1,by omega⟩;rfl
def NX(t u:List UInt8)(n k:Nat)(h1:k<=n)(h2:k<=t.length):(t.take n++u).drop k=(t.drop k).take (n - k)++u:=by
 rw[List.drop_append_of_le_length (by rw[List.length_take];omega),List.drop_take]
def Ym(t u:List UInt8)(n:Nat)(hu:Sep u)(h:free t=true):free (t.take n++u)=true:=by
 have hfu:free u=true:=by
   rcases hu with rfl | ⟨c,u',rfl,hc⟩
   rfl;unfold free;rw[show GJ 30 (c::u')=false from Wg c 30 hc rfl];rcases(Wf c hc).2 with h | h | h | h<;>subst h<;>rfl
 cases t with
 | nil=>simpa using hfu
 | cons c t =>
   cases n with
   | zero=>simpa using hfu
   | succ n=>exact h
def adH(t u:List UInt8)(n:Nat)(hu:Sep u)(c:UInt8)(hc:cin 1 c=false)(h:t.head?≠some c):(t.take n++u).head?≠some c:=by
 have hfu:u.head?≠some c:=by
   rcases hu with rfl | ⟨c',u',rfl,hc'⟩
   simp;intro e;simp at e;subst e;rw[hc] at hc';cases hc'
 cases t with
 | nil=>simpa using hfu
 | cons d t =>
   cases n with
   | zero=>simpa using hfu
   | succ n=>exact h
def VJ(t u:List UInt8)(n:Nat)(hn:1<=n)(ht:t≠[]):(t.take n++u).head?=t.head?:=by
 cases t with
 | nil=>exact absurd rfl ht
 | cons d t =>
   obtain⟨n',rfl⟩:∃n',n=n'+1:=⟨n - 1,by omega⟩;rfl
def X9(t u:List UInt8)(n i:Nat)(h1:i < n)(h2:i < t.length):FJ (t.take n++u) i=FJ t i:=by
 unfold FJ;split;rw[List.getElem?_append_left (by rw[List.length_take];omega),List.getElem?_take,if_pos h1];rw[NX t u n i (by omega) (by omega),Xn 8 _ u _ (by omega) (by intro e;have:=congrArg List.length e;simp at this;omega)]
def nQ(t u:List UInt8)(n i:Nat)(hu:Sep u)(hi:i=(t.take n).length):FJ (t.take n++u) i=false:=by
 subst hi;unfold FJ;split;rw[List.getElem?_append_right (Nat.le_refl _),Nat.sub_self];rcases hu with rfl | ⟨c,u',rfl,hc⟩
 rfl;rcases(Wf c hc).2 with h | h | h | h<;>subst h<;>rfl
 rw[List.drop_left];exact apG u 8 hu rfl
def Ya(t:List UInt8):EJ t=true↔10<=t.length/\∀i,i < 10->FJ t i=true:=by
 unfold EJ;simp[List.all_eq_true]
def dD(t u:List UInt8)(n:Nat)(hn:10<=n)(h:EJ t=true):EJ (t.take n++u)=true:=by
 rw[Ya] at h ⊢;refine⟨by simp;omega,λi hi=>?_⟩;rw[X9 t u n i (by omega) (by omega)];exact h.2 i hi
def iK(t u:List UInt8)(n:Nat)(hu:Sep u)(h:EJ t=false):EJ (t.take n++u)=false:=by
 rw[Bool.eq_false_iff] at h ⊢;intro h';apply h;rw[Ya] at h' ⊢
 have hlen:10<=(t.take n).length:=by
   rcases Nat.lt_or_ge (t.take n).length 10 with hlt | hge
   have:=h'.2 _ hlt;rw[nQ t u n _ hu rfl] at this;cases this;exact hge
 rw[List.length_take] at hlen;refine⟨by omega,λi hi=>?_⟩;rw[<- X9 t u n i (by omega) (by omega)];exact h'.2 i hi
def dG(t:List UInt8)(k:Nat)(h:k < t.length):t.drop k≠[]:=by
 intro e;have:=congrArg List.length e;simp at this;omega
def acD(t u:List UInt8)(n:Nat)(hu:Sep u)(h8:GJ 8 t=true)(h:(GB t).1≠0)(hn:(GB t).2<=n):GB (t.take n++u)=GB t:=by
 have hd:=Se 8 t h8;have hl:=LI 8 t;have hp:=iR t h8 h;have ht:t≠[]:=by intro e;subst e;simp[GJ] at h8
 have e0:∀d,d=Be 8 t->GB t =
   if EJ t then (if free (t.drop 10) then (5,10) else (0,0))
   else if t.head?=some 48/\1 < d then (0,0)
   else if (t.drop d).head?=some 46 then
     (if 10 < d\/GJ 8 (t.drop (d+1))=false\/GJ 8 (t.drop (d+2))=false then (0,0)
      else if free (t.drop (d+3)) then (4,d+3) else (0,0))
   else if 12 < d then (0,0)
   else if free (t.drop d) then (3,d) else (0,0):=by intro d hd;subst hd;rfl
 by_cases h1:EJ t=true
 have hf:free (t.drop 10)=true/\GB t=(5,10):=by
   rw[e0 _ rfl,if_pos h1] at h ⊢;by_cases h2:free (t.drop 10)=true;exact⟨h2,by rw[if_pos h2]⟩;rw[if_neg h2] at h;simp at h
 rw[hf.2] at hn ⊢;have hlen:10<=t.length:=((Ya t).1 h1).1;unfold GB;simp only;simp only at hn;rw[dD t u n hn h1,if_pos rfl,NX t u n 10 hn hlen,Ym _ u _ hu hf.1,if_pos rfl];have h1':EJ t=false:=by simpa using h1
 have hv:=iK t u n hu h1';obtain⟨d,hdd⟩:∃d,d=Be 8 t:=⟨_,rfl⟩;have e1:=e0 d hdd;rw[if_neg h1] at e1;by_cases h2:t.head?=some 48/\1 < d;rw[e1,if_pos h2] at h;simp at h;rw[if_neg h2] at e1;by_cases h3:(t.drop d).head?=some 46;rw[if_pos h3] at e1;by_cases h4:10 < d\/GJ 8 (t.drop (d+1))=false\/GJ 8 (t.drop (d+2))=false;rw[e1,if_pos h4] at h;simp at h;rw[if_neg h4] at e1;by_cases h5:free (t.drop (d+3))=true;rw[if_pos h5] at e1;rw[e1] at hn hp ⊢;simp only at hn hp;have hs:Be 8 (t.take n++u)=d:=by rw[Qo 8 t u n rfl hu (by omega)];exact hdd.symm
 have i1:GJ 8 ((t.take n++u).drop (d+1))=GJ 8 (t.drop (d+1)):=by
   rw[NX t u n _ (by omega) (by omega),Xn 8 _ u _ (by omega) (dG t _ (by omega))]
 have i2:GJ 8 ((t.take n++u).drop (d+2))=GJ 8 (t.drop (d+2)):=by
   rw[NX t u n _ (by omega) (by omega),Xn 8 _ u _ (by omega) (dG t _ (by omega))]
 unfold GB;simp only;rw[hv,if_neg (by simp),hs,VJ t u n (by omega) ht,if_neg h2,NX t u n d (by omega) (by omega),VJ _ u _ (by omega) (dG t _ (by omega)),if_pos h3,i1,i2,if_neg h4,NX t u n (d+3) (by omega) (by omega),Ym _ u _ hu h5,if_pos rfl];rw[e1,if_neg h5] at h;simp at h;rw[if_neg h3] at e1;by_cases h4:12 < d;rw[e1,if_pos h4] at h;simp at h;rw[if_neg h4] at e1;by_cases h5:free (t.drop d)=true;rw[if_pos h5] at e1;rw[e1] at hn hp ⊢;simp only at hn hp;have hs:Be 8 (t.take n++u)=d:=by rw[Qo 8 t u n rfl hu (by omega)];exact hdd.symm
 unfold GB;simp only;rw[hv,if_neg (by simp),hs,VJ t u n (by omega) ht,if_neg h2,NX t u n d (by omega) (by omega),if_neg (adH _ u _ hu 46 rfl h3),if_neg h4,Ym _ u _ hu h5,if_pos rfl];rw[e1,if_neg h5] at h;simp at h
def pT(y t u:List UInt8)(n:Nat)(hu:Sep u)(hy:∀c∈y,cin 1 c=false)(h:y.isPrefixOf (t.take n++u)=true):y.isPrefixOf t=true:=by
 rw[List.isPrefixOf_iff_prefix] at h ⊢;rcases Nat.lt_or_ge (t.take n).length y.length with hlt | hge
 exfalso;rcases hu with rfl | ⟨c,u',rfl,hc⟩
 have:=h.length_le;simp only[List.append_nil] at this;omega;have hg:(t.take n++c::u')[(t.take n).length]?=some c:=by rw[List.getElem?_append_right (Nat.le_refl _),Nat.sub_self];rfl
 obtain⟨z,hz⟩:=h;rw[<- hz,List.getElem?_append_left hlt] at hg;have:=hy c (List.mem_of_getElem? hg);rw[this] at hc;cases hc;have h1:y <+: t.take n:=List.prefix_of_prefix_length_le h (List.prefix_append _ _) hge;exact h1.trans (List.take_prefix n t)
def ahN(t u:List UInt8)(n:Nat)(hu:Sep u)(ys:List (List UInt8))(hy:∀y∈ys,∀c∈y,cin 1 c=false)(h:(Li t ys).1≠0)(hn:(Li t ys).2<=n):Li (t.take n++u) ys=Li t ys:=by
 induction ys with
 | nil=>rfl
 | cons y ys ih =>
   rw[Li] at h hn;rw[Li,Li];by_cases hp:y.isPrefixOf t=true;rw[if_pos hp] at hn ⊢;simp only at hn;rw[if_pos];rw[List.isPrefixOf_iff_prefix] at hp ⊢
   have:y <+: t.take n:=by
     rw[List.prefix_take_iff];exact⟨hp,hn⟩
   exact this.trans (List.prefix_append _ _);rw[if_neg hp] at h hn ⊢;have:¬y.isPrefixOf (t.take n++u)=true:=λhh=>hp (pT y t u n hu (hy y (by simp)) hh);rw[if_neg this];exact ih (λy' h'=>hy y' (by simp[h'])) h hn
def afV(t u:List UInt8)(n:Nat)(hu:Sep u)(h:(A2 t).1≠0)(hn:(A2 t).2<=n):A2 (t.take n++u)=A2 t:=by
 have hp:=Ou t h;have ht:t≠[]:=by intro e;subst e;simp at hp;omega
 have hi:∀m,GJ m (t.take n++u)=GJ m t:=λm=>Xn m t u n (by omega) ht;unfold A2 at h hn ⊢;rw[hi 2,hi 4,hi 8];by_cases h2:GJ 2 t=true;rw[if_pos h2] at h hn ⊢;rw[if_pos h2];by_cases hc:Be 30 t<=16/\Be 26 t=Be 30 t;rw[if_pos hc] at hn ⊢;simp only at hn;rw[Qo 30 t u n rfl hu hn,Qo 26 t u n rfl hu (by rw[hc.2];exact hn),if_pos hc];rw[if_neg hc] at h;simp at h;rw[if_neg h2] at h hn ⊢;rw[if_neg h2];by_cases h4:GJ 4 t=true;rw[if_pos h4] at h hn ⊢;rw[if_pos h4];by_cases hc:Be 30 t=3/\Be 4 t=Be 30 t;rw[if_pos hc] at hn ⊢;simp only at hn;rw[Qo 30 t u n rfl hu hn,Qo 4 t u n rfl hu (by rw[hc.2];exact hn),if_pos hc];rw[if_neg hc] at h;simp at h;rw[if_neg h4] at h hn ⊢;rw[if_neg h4];by_cases h8:GJ 8 t=true;rw[if_pos h8] at h hn ⊢;rw[if_pos h8];exact acD t u n hu h8 h hn;rw[if_neg h8] at h hn ⊢;rw[if_neg h8];exact ahN t u n hu Gc (by decide) h hn
end LexS
namespace LexS
def xE(l:List Tok):(Ri l/\DQ [] l=(l,0,0))\/∃q x r e,l=q++x::r/\Ri q/\((q.length=2000/\e=2)\/(q.length < 2000/\x.1=0/\e=61))/\DQ [] l=([],e,x.2.2):=by
 have main:∀(r q:List Tok),Ri q->(Ri (q++r)/\DQ q r=(q++r,0,0))\/∃q' x r' e,q++r=q'++x::r'/\Ri q'/\((q'.length=2000/\e=2)\/(q'.length < 2000/\x.1=0/\e=61))/\DQ q r=([],e,x.2.2):=by
   intro r
   induction r with
   | nil=>intro q hq;left;simp only[List.append_nil,DQ];exact⟨hq,trivial⟩
   | cons x r ih =>
     intro q hq;rw[DQ];by_cases h1:q.length=2000;right;rw[if_pos h1];exact⟨q,x,r,2,rfl,hq,.inl ⟨h1,rfl⟩,rfl⟩;rw[if_neg h1];have hq1:=hq.1;by_cases h2:x.1=0;right;rw[if_pos h2];exact⟨q,x,r,61,rfl,hq,.inr ⟨by omega,h2,rfl⟩,rfl⟩;rw[if_neg h2]
     have hg:Ri (q++[x]):=by
       refine⟨by rw[List.length_append,List.length_singleton];omega,λy hy=>?_⟩;rcases List.mem_append.1 hy with h | h
       exact hq.2 y h;rw[List.mem_singleton] at h;rw[h];exact h2
     have:=ih (q++[x]) hg;simpa using this
 simpa using main l [] ⟨by simp,by simp⟩
end LexS
namespace LexS
def U1(s:List UInt8)(h:(Lg s).2.1=0):s.length<=6000/\Dh s=(Lg s).1/\Ri (Dh s)/\(Lg s).2.2=0:=by
 unfold Lg at h ⊢;by_cases hs:6000 < s.length;rw[if_pos hs] at h;simp at h;rw[if_neg hs] at h ⊢;rcases xE (Dh s) with ⟨hg,e⟩ | ⟨q,x,r,e,hq,hg,hc,he⟩
 rw[e];exact⟨by omega,rfl,hg,rfl⟩;rw[he] at h;simp only at h;rcases hc with ⟨_,h2⟩ | ⟨_,_,h2⟩<;>omega
def SV(t:List UInt8)(ys:List (List UInt8)):(Li t ys).1=0\/(Li t ys).1=6:=by
 induction ys with
 | nil=>left;rfl
 | cons y ys ih=>rw[Li];split
                 right;rfl;exact ih
def rX(b:Bool)(t u:List UInt8):F5 b (t++10::u)=if F5 b t=t.length then t.length+1+F5 false u else F5 b t:=by
 induction t generalizing b with
 | nil =>
   rw[List.nil_append,F5];cases b;simp[F5,cin,LY];simp[F5]
 | cons c t ih =>
   rw[List.cons_append,F5]
   conv=>rhs;rw[F5]
   by_cases hb:b=true;rw[if_pos hb,if_pos hb];by_cases hc:c=10;rw[if_pos hc,if_pos hc,ih false];by_cases h:F5 false t=t.length;rw[if_pos h,if_pos (by simp;omega)];simp;omega;rw[if_neg h,if_neg (by simp;omega)];rw[if_neg hc,if_neg hc,ih true];by_cases h:F5 true t=t.length;rw[if_pos h,if_pos (by simp;omega)];simp;omega;rw[if_neg h,if_neg (by simp;omega)];rw[if_neg hb,if_neg hb];by_cases hw:cin 1 c=true;rw[if_pos hw,if_pos hw,ih false];by_cases h:F5 false t=t.length;rw[if_pos h,if_pos (by simp;omega)];simp;omega;rw[if_neg h,if_neg (by simp;omega)];rw[if_neg hw,if_neg hw]
   have hh:(c=47/\(t++10::u).head?=some 47)↔(c=47/\t.head?=some 47):=by
     cases t with
     | nil=>simp
     | cons d t=>simp
   by_cases hs:c=47/\t.head?=some 47;rw[if_pos hs,if_pos (hh.2 hs),ih true];by_cases h:F5 true t=t.length;rw[if_pos h,if_pos (by simp;omega)];simp;omega;rw[if_neg h,if_neg (by simp;omega)];rw[if_neg hs,if_neg (λx=>hs (hh.1 x)),if_neg (by simp)]
def agX(u:List UInt8):Sep (10::u):=.inr ⟨10,u,rfl,rfl⟩
def Sz(d:Nat)(l:List Tok):List Tok:=l.map λx=>(x.1,x.2.1,x.2.2+d)
def gE(d n o:Nat)(t:List UInt8):Iz n (o+d) t=Sz d (Iz n o t):=by
 induction n generalizing o t with
 | zero=>rfl
 | succ n ih =>
   rw[Iz,Iz];by_cases ht:t=[];rw[if_pos ht,if_pos ht];rfl;rw[if_neg ht,if_neg ht];by_cases hz:(A2 t).1=0;rw[if_pos hz,if_pos hz];rfl;rw[if_neg hz,if_neg hz];unfold Sz;rw[List.map_cons];refine congrArg _ ?_;have:=ih (o+(A2 t).2+DX (t.drop (A2 t).2)) ((t.drop (A2 t).2).drop (DX (t.drop (A2 t).2)));unfold Sz at this;rw[<- this];congr 1;omega
def Z7(p b:List UInt8)(k:Nat):DN (p++b) (p.length+k)=Sz p.length (DN b k):=by
 unfold DN;rw[<- gE,List.length_append,show p.length+b.length - (p.length+k)=b.length - k from by omega,Nat.add_comm k,List.drop_append];rw[List.drop_eq_nil_of_le (by omega:p.length<=p.length+k),List.nil_append,show p.length+k - p.length=k from by omega]
def gF(a b:List UInt8)(m:Nat):∀k,a.length - k<=m->k < a.length->(∀x∈DN a k,x.1≠0) ->
   DN (a++10::b) k=DN a k++DN (a++10::b) (a.length+1+DX b):=by
 induction m with
 | zero=>intro k h1 h2;omega
 | succ m ih =>
   intro k h1 h2 hg;by_cases hz:(A2 (a.drop k)).1=0;have:=hg (0,[],k) (by rw[Pe a k h2 hz];simp);exact absurd rfl this;have hp:=Ou _ hz;have hpl:=hp.2;rw[List.length_drop] at hpl;have hd:(a++10::b).drop k=a.drop k++10::b:=List.drop_append_of_le_length (by omega)
   have hr:A2 ((a++10::b).drop k)=A2 (a.drop k):=by
     rw[hd];have:=afV (a.drop k) (10::b) (a.drop k).length (agX b) hz hp.2;rwa[List.take_length] at this
   have hkl:k < (a++10::b).length:=by rw[List.length_append];omega
   rw[Lc _ k hkl (by rw[hr];exact hz),hr,Lc a k h2 hz,hd];have htk:(a.drop k++10::b).take (A2 (a.drop k)).2=(a.drop k).take (A2 (a.drop k)).2:=List.take_append_of_le_length hp.2;rw[htk,List.cons_append];refine congrArg _ ?_;have hd2:(a++10::b).drop (k+(A2 (a.drop k)).2)=a.drop (k+(A2 (a.drop k)).2)++10::b:=List.drop_append_of_le_length (by omega);have hsl:=O2 (a.drop (k+(A2 (a.drop k)).2));rw[List.length_drop] at hsl;rw[hd2,show DX (a.drop (k+(A2 (a.drop k)).2)++10::b)=_ from rX false _ b,List.length_drop];by_cases he:F5 false (a.drop (k+(A2 (a.drop k)).2))=a.length - (k+(A2 (a.drop k)).2);rw[if_pos he];rw[Pd a (k+(A2 (a.drop k)).2+DX (a.drop (k+(A2 (a.drop k)).2))) (by unfold DX;omega),List.nil_append];congr 1;unfold DX;omega;rw[if_neg he];have hlt:k+(A2 (a.drop k)).2+DX (a.drop (k+(A2 (a.drop k)).2)) < a.length:=by unfold DX at hsl ⊢;omega
   refine ih _ (by omega) hlt (λx hx=>hg x ?_);rw[Lc a k h2 hz];exact List.mem_cons_of_mem _ hx
end LexS
