/- Part of a proof: see the last text. -/
import Derived.Test.YtpbkhogolfegfaaGreatDoorPll
import Derived.Maps.AppendAt
set_option linter.unusedVariables false
set_option linter.unusedSimpArgs false
set_option linter.defProp false
noncomputable section
namespace Go.Proofs.YtpbkhogolfegfaaGreatDoor
open Go.RowKit Go.Shelf LexS
attribute [local go_sem] Oper.semAt_some
def Ki(l:List Tok):List Value:=l.flatMap λx=>[.int .i64 x.1,.string ⟨x.2.1.toArray⟩,.int .i64 x.2.2]
def bJ(r:List Tok×Nat×Nat)(w:World)(e:Ending)(w':World):Prop :=
 ∃v,e=.returned (.tuple #[v,.int .i64 r.2.1,.int .i64 r.2.2])/\w'.ownsRow w.heap.size 43 3 v r.1.length (Ki r.1)/\Below w.heap.size w w'
def Tryz.anL:(Tryz.prog.info? 43).map (λi=>(i.zero,i.size,i.bytes))=some (some (.agg #[.int .i64 0,.string ⟨#[]⟩,.int .i64 0]),3,32):=by kernel_rfl
def ZG(l:List Tok)(x:Tok):Ki (l++[x])=Ki l++[.int .i64 x.1,.string ⟨x.2.1.toArray⟩,.int .i64 x.2.2]:=by
 unfold Ki;simp
set_option maxHeartbeats 1000000 in
def afL(s:ByteArray)(w:World)(hs:6000 < s.size) :
   Calls Tryz.prog 34 #[.string s] w (bJ ([],2,0) w):=by
 go_enter Tryz.func34,Tryz.ntmps34
 go_wp2_with fail
 refine bodyPost_ret (v:=.tuple #[.slice none 0 0,.int .i64 2,.int .i64 0]) (by simp[results,Tryz.results34,go_sem]) rfl ?_;exact⟨_,rfl,World.ownsRow_nil _ _ _ _,(((Below.refl _ _).alloc (Nat.le_refl _) _).alloc (by simp) _).alloc (by simp;omega) _⟩
def aBD(s:ByteArray)(w:World)(pre:List Tok)(W:World):Prop :=
 (((((∃v,Boxed W (w.heap.size+1+1+1) 38 v/\W.ownsRow w.heap.size 43 3 v pre.length (Ki pre)/\True) /\
   Boxed W w.heap.size 38 (.slice none 0 0))/\Boxed W (w.heap.size+1) 39 (.int .i64 0))/\Boxed W (w.heap.size+1+1) 3 (.int .i64 0))/\Boxed W (w.heap.size+1+1+1+1) 9 (.string s))/\ZN pre/\Below w.heap.size w W
def afJ(s:ByteArray)(w:World)(B:Nat)(hB:w.heap.size<=B):OwnFrom B (aBD s w) :=
 OwnFrom.and (OwnFrom.and (OwnFrom.and (OwnFrom.and (OwnFrom.and (Own.from (holdsRow_own w.heap.size (w.heap.size+1+1+1) 38 43 3 (λpre:List Tok=>pre.length) Ki (λ_ _=>True)) _) (Own.from (boxed_own _ _ (λ_=>_)) _)) (Own.from (boxed_own _ _ (λ_=>_)) _)) (Own.from (boxed_own _ _ (λ_=>_)) _)) (Own.from (boxed_own _ _ (λ_=>_)) _)) (OwnFrom.and (ownFrom_pure _ ZN) (ownFrom_below (Nat.le_refl _) hB))
def avN(w:World)(c:Code)(pre:List Tok)(W:World):Prop :=
 (c=.ret/\(∃q x err,(pre=q++[x]/\ZN q/\((q.length=2000/\err=2)\/(q.length < 2000/\x.1=0/\err=61))) /\
   Boxed W w.heap.size 38 (.slice none 0 0)/\Boxed W (w.heap.size+1) 39 (.int .i64 (err:Nat))/\Boxed W (w.heap.size+1+1) 3 (.int .i64 x.2.2)))/\Below w.heap.size w W
def Rq{X Y:World}{row:Option Nat}{B b:Nat}{t:TypeId}{v:Value}(h:Boxed X b t v)(hg:X.grownBy Y row)(hr:∀r,row=some r->B<=r/\∃o:Obj,X.heap[r]?=some o/\o.isCells=false):Boxed Y b t v :=
 boxed_own b t (λ(_:Unit)=>v) () X Y row h hg (λr e=>(hr r e).2)
def afK(w:World)(B:Nat)(hB:w.heap.size<=B)(c:Code):OwnFrom B (avN w c):=by
 intro pre X Y row hs hg hr;obtain⟨⟨hc,q,x,err,h1,h2,h3,h4⟩,h5⟩:=hs;exact⟨⟨hc,q,x,err,h1,Rq h2 hg hr,Rq h3 hg hr,Rq h4 hg hr⟩,ownFrom_below (β:=Unit) (Nat.le_refl _) hB () X Y row h5 hg hr⟩
def Ti(W:World)(B:Nat)(x:Tok):Prop:=W.heap[B]?=some (.cells #[.int .i64 x.1,.string ⟨x.2.1.toArray⟩,.int .i64 x.2.2] 43 (0,0))
def Ti.kept{X Y:World}{row:Option Nat}{b:Nat}{x:Tok}(h:Ti X b x)(hg:X.grownBy Y row)(hr:some b≠row):Ti Y b x :=
 (hg.block b (Array.getElem?_eq_some_iff.1 h).1 hr).trans h
def Ti.keeps{X Y:World}{row:Option Nat}{B b:Nat}{x:Tok}(h:Ti X b x)(hg:X.grownBy Y row)(hr:∀r,row=some r->B<=r/\∃o:Obj,X.heap[r]?=some o/\o.isCells=false):Ti Y b x:=by
 refine h.kept hg (λe=>?_);obtain⟨_,o,ho,hc⟩:=hr b e.symm;rw[show X.heap[b]?=_ from h] at ho;cases ho;cases hc
def wP(w:World)(a b c:Value)(t:TypeId):∀(j:Nat) u,[a,b,c][j]?=some u->(w.alloc (.cells #[a,b,c] t)).cell? ((⟨w.heap.size,0,none⟩:Addr).add j)=some u:=by
 intro j u hu;have hh:=heap_alloc_new w (.cells #[a,b,c] t)
 match j,hu with
 | 0,hu=>rw[show(⟨w.heap.size,0,none⟩:Addr).add 0=⟨w.heap.size,0,none⟩ from rfl,cell_of_row _ _ _ _ _ _ hh];simpa using hu
 | 1,hu=>rw[show(⟨w.heap.size,0,none⟩:Addr).add 1=⟨w.heap.size,1,none⟩ from rfl,cell_of_row _ _ _ _ _ _ hh];simpa using hu
 | 2,hu=>rw[show(⟨w.heap.size,0,none⟩:Addr).add 2=⟨w.heap.size,2,none⟩ from rfl,cell_of_row _ _ _ _ _ _ hh];simpa using hu
 | n+3,hu=>simp at hu
def M8{X:World}{b D:Nat}{t:TypeId}{v:Value}{o:Obj}(h:Boxed X b t v)(hne:b≠D):Boxed (X.putObj D o) b t v :=
 h.kept (grownBy_putObj' X D o) (λe=>hne (by cases e;rfl))
def tH{w W:World}{B:Nat}{pre:List Tok}{x:Tok}{err:Nat}(c0:Boxed W w.heap.size 38 (.slice none 0 0))(c1:Boxed W (w.heap.size+1) 39 (.int .i64 0))(c2:Boxed W (w.heap.size+1+1) 3 (.int .i64 0))(hG:ZN pre)(hB:Below w.heap.size w W)
   (he:(pre.length=2000/\err=2)\/(pre.length < 2000/\x.1=0/\err=61)) :
   KeepsFrom B W (((W.setCell ⟨w.heap.size,0,none⟩ (.slice none 0 0)).setCell ⟨w.heap.size+1,0,none⟩ (.int .i64 (err:Nat))).setCell ⟨w.heap.size+1+1,0,none⟩ (.int .i64 x.2.2)).drew /\
   avN w .ret (pre++[x]) (((W.setCell ⟨w.heap.size,0,none⟩ (.slice none 0 0)).setCell ⟨w.heap.size+1,0,none⟩ (.int .i64 (err:Nat))).setCell ⟨w.heap.size+1+1,0,none⟩ (.int .i64 x.2.2)).drew:=by
 refine⟨((((KeepsOthers.setCell _ _ _).trans (KeepsOthers.setCell _ _ _)).trans (KeepsOthers.setCell _ _ _)).trans (KeepsOthers.drew _)).from _,⟨rfl,pre,x,err,⟨rfl,hG,he⟩,?_,?_,?_⟩,?_⟩
 · exact((c0.set _).other (by omega) _).other (by omega) _
 · exact((c1.other (by omega) _).set _).other (by omega) _
 · exact((c2.other (by omega) _).other (by omega) _).set _
 · exact(((hB.setCell (p:=⟨w.heap.size,0,none⟩) (Nat.le_refl _) _).setCell (p:=⟨w.heap.size+1,0,none⟩) (by simp) _).setCell (p:=⟨w.heap.size+1+1,0,none⟩) (by simp;omega) _).drew
set_option maxRecDepth 100000 in
set_option maxHeartbeats 2000000 in
def xT(s:ByteArray)(w:World)(hT:ML w)(hs:s.size<=6000) :
   Calls Tryz.prog 34 #[.string s] w (bJ (KX [] (Em (L s))) w):=by
 have hb:decide ((6000:Int) < (s.size:Int))=false:=by simp;omega
 have hT2:TB w.heap.size:=hT.tb;obtain⟨i0,hi,hz0,hz1,hz2⟩:=info_parts Tryz.anL;have hmo:Tryz.prog.follows Departure.mixedOrders=true:=by kernel_rfl
 refine(callsIn_wide (n:=8)).1 ?_;refine callsIn_of_wp_marks Tryz.func34 rfl trivial ?_ rfl;simp only[Tryz.ntmps34,List.size_toArray,List.length_cons,List.length_nil,Nat.reduceAdd,Nat.reduceSub,Array.replicate_succ,Array.replicate_zero,List.push_toArray,List.append_toArray,List.nil_append,List.cons_append]
 gi_wp2_with (refine⟨trivial,?_⟩;gi_at_call 67;refine(zQ _ s _).mono ?_;rintro e w' ⟨rfl,rfl⟩)
 obtain⟨W0,hW0⟩:∃W0,((((w.alloc (.cells #[.slice none 0 0] 38)).alloc (.cells #[.int .i64 0] 39)).alloc (.cells #[.int .i64 0] 3)).alloc (.cells #[.slice none 0 0] 38)).alloc (.cells #[.string s] 9)=W0:=⟨_,rfl⟩;have hsz:W0.heap.size=w.heap.size+5:=by rw[<- hW0];simp
 have b0:Boxed W0 w.heap.size 38 (.slice none 0 0):=by
   rw[<- hW0];exact((((Boxed.new w _ _).alloc _).alloc _).alloc _).alloc _
 have b1:Boxed W0 (w.heap.size+1) 39 (.int .i64 0):=by
   rw[<- hW0];have:=((((Boxed.new (w.alloc (.cells #[.slice none 0 0] 38)) 39 (.int .i64 0)).alloc (.cells #[.int .i64 0] 3)).alloc (.cells #[.slice none 0 0] 38)).alloc (.cells #[.string s] 9));rw[World.size_alloc] at this;exact this
 have b2:Boxed W0 (w.heap.size+1+1) 3 (.int .i64 0):=by
   rw[<- hW0];have:=(((Boxed.new ((w.alloc (.cells #[.slice none 0 0] 38)).alloc (.cells #[.int .i64 0] 39)) 3 (.int .i64 0)).alloc (.cells #[.slice none 0 0] 38)).alloc (.cells #[.string s] 9));rw[World.size_alloc,World.size_alloc] at this;exact this
 have b3:Boxed W0 (w.heap.size+1+1+1) 38 (.slice none 0 0):=by
   rw[<- hW0];have:=((Boxed.new (((w.alloc (.cells #[.slice none 0 0] 38)).alloc (.cells #[.int .i64 0] 39)).alloc (.cells #[.int .i64 0] 3)) 38 (.slice none 0 0)).alloc (.cells #[.string s] 9));rw[World.size_alloc,World.size_alloc,World.size_alloc] at this;exact this
 have b4:Boxed W0 (w.heap.size+1+1+1+1) 9 (.string s):=by
   rw[<- hW0];have:=(Boxed.new ((((w.alloc (.cells #[.slice none 0 0] 38)).alloc (.cells #[.int .i64 0] 39)).alloc (.cells #[.int .i64 0] 3)).alloc (.cells #[.slice none 0 0] 38)) 9 (.string s));rw[World.size_alloc,World.size_alloc,World.size_alloc,World.size_alloc] at this;exact this
 have hB0:Below w.heap.size w W0:=by
   rw[<- hW0];exact(((((Below.refl _ w).alloc (Nat.le_refl _) _).alloc (by simp) _).alloc (by simp;omega) _).alloc (by simp;omega) _).alloc (by simp;omega) _
 have hT0:ML W0:=hT.below hT2 hB0;rw[hW0];clear hW0
 refine wpIn_rangeFunc_ownH rfl (by omega) (gf:=115) (lb:=#[.pointer (some ⟨w.heap.size+1+1+1+1,0,none⟩)]) rfl trivial (enters_of Tryz.func115 (by kernel_rfl) rfl)
   (eS 7 (by omega) (w.heap.size+1+1+1+1) w.heap.size hT2 s hs W0 (by omega) (by omega) b4 hT0) aEA (aDZ (by omega) (by omega)) (Below.refl _ _) (λ_=>rfl)
   (aBD s w) (avN w) (afJ s w _ (by omega)) (afK w _ (by omega))
   ⟨⟨⟨⟨⟨⟨_,b3,World.ownsRow_nil _ _ _ _,trivial⟩,b0⟩,b1⟩,b2⟩,b4⟩,⟨by simp,by simp⟩,hB0⟩
   (λx a' W=>∃Bx,w.heap.size+1+1+1+1 < Bx/\Ti W Bx x/\a'={ tmps:=#[.string s,undef,.pointer (some ⟨w.heap.size,0,none⟩),.pointer (some ⟨w.heap.size+1,0,none⟩),.pointer (some ⟨w.heap.size+1+1,0,none⟩),.pointer (some ⟨w.heap.size+1+1+1,0,none⟩),.pointer (some ⟨Bx,0,none⟩),.string s,.int .i64 s.size,.bool false,.string s,.func (.func 115) #[] #[.pointer (some ⟨w.heap.size+1+1+1+1,0,none⟩)],.agg #[.int .i64 x.1,.string ⟨x.2.1.toArray⟩,.int .i64 x.2.2],undef,undef,undef,undef,undef,undef,undef,undef,undef,undef,undef,undef,undef,undef,undef],defers:=[] })
   (λx a' _ X Y row hs hg hr=>by obtain⟨Bx,h1,h2,h3⟩:=hs;exact⟨Bx,h1,h2.keeps hg hr,h3⟩)
   ?assign ?body ?done ?stop
 case assign =>
   rintro l pre x W K hI hK;dsimp only[aiX]
   gi_wp2
   obtain⟨⟨⟨⟨⟨⟨v,hv,hrow,_⟩,c0⟩,c1⟩,c2⟩,c4⟩,hG,hB⟩:=hI;exact hK _ _ ((KeepsOthers.alloc _ _).from _) ⟨(Below.refl _ W).alloc hB.size _,Below.heap_alloc _ _ _ c4.lt⟩ ⟨⟨⟨⟨⟨⟨v,hv.alloc _,hrow.alloc _,trivial⟩,c0.alloc _⟩,c1.alloc _⟩,c2.alloc _⟩,c4.alloc _⟩,hG,hB.alloc hB.size _⟩ ⟨W.heap.size,c4.lt,heap_alloc_new W _,rfl⟩
 case body =>
   rintro l pre x a' W hl ⟨r,hr⟩ hI ⟨Bx,hBx,bX,rfl⟩ hlt;obtain⟨⟨⟨⟨⟨⟨v,hv,hrow,_⟩,c0⟩,c1⟩,c2⟩,c4⟩,hG,hB⟩:=hI
   obtain⟨A,cp,rfl⟩:∃A cp,v=.slice A pre.length cp:=by
     rcases hrow.2 with ⟨h,h0⟩ | ⟨g,cap,cur,h,_⟩
     · exact⟨none,0,by rw[h,h0]⟩
     · exact⟨_,cap,h⟩
   have hc:=hv.cell;have k0:W.cell? ⟨Bx,0,none⟩=some (.int .i64 x.1):=by rw[cell_of_row W Bx 0 _ _ _ bX];rfl
   have k1:W.cell? ⟨Bx,1,none⟩=some (.string ⟨x.2.1.toArray⟩):=by rw[cell_of_row W Bx 1 _ _ _ bX];rfl
   have k2:W.cell? ⟨Bx,2,none⟩=some (.int .i64 x.2.2):=by rw[cell_of_row W Bx 2 _ _ _ bX];rfl
   have hlen:=hG.1;by_cases h2000:pre.length=2000
   · have hb2:((pre.length:Int) == 2000)=true:=by rw[beq_iff_eq];omega
     have f0:=c0.frozen;have f1:=c1.frozen;have f2:=c2.frozen;have d0:=c0.cell;have d1:=c1.cell;have d2:=c2.cell;have HL:=Lib.hid h2000;clear h2000
     gi_wp2
     gi_region_o
     all_goals gi_wp2
     all_goals exact tH (err:=2) c0 c1 c2 hG hB (.inl ⟨HL.out,rfl⟩)
   · have hb2:((pre.length:Int) == 2000)=false:=by rw[beq_eq_false_iff_ne];omega
     have HL:=Lib.hid h2000;clear h2000;by_cases hx0:x.1=0
     · have hb3:((x.1:Int) == 0)=true:=by rw[beq_iff_eq];omega
       have HX:=Lib.hid hx0;clear hx0;have f0:=c0.frozen;have f1:=c1.frozen;have f2:=c2.frozen;have d0:=c0.cell;have d1:=c1.cell;have d2:=c2.cell
       gi_wp2
       gi_region_o
       all_goals gi_wp2
       all_goals exact tH (err:=61) c0 c1 c2 hG hB (.inr ⟨by have:=HL.out;omega,HX.out,rfl⟩)
     · have hb3:((x.1:Int) == 0)=false:=by rw[beq_eq_false_iff_ne];omega
       have HX:=Lib.hid hx0;clear hx0;have hlen2:pre.length+1<=2000:=by have:=HL.out;omega
       gi_wp2_with (gi_at_builtin;refine wpListIn_append_own _ rfl _ _ 38 rfl w.heap.size 43 i0 _ 3 32 Tryz.underlying38 hi hz0 hz1 hz2 rfl (by decide) _ _ _ rfl (hrow.alloc _) ⟨W.heap.size,0,none⟩ 1 1 [.int .i64 x.1,.string ⟨x.2.1.toArray⟩,.int .i64 x.2.2] rfl rfl (wP _ _ _ _ _) (by simp[Value.oneCell']) (by unfold maxLen;omega) (by omega) (by have:=hB.size;simp;omega) ?_;intro v' w1 hown' hgrow _;obtain⟨g',cap',rfl⟩:=ownsRow_succ hown';obtain⟨hv1,hv2,hr2,hk2,hb2'⟩:=hv.appended (by decide) hrow hB.size (by omega) hown' hgrow;have hc1:=hv1.cell;have hf1:=hv1.frozen)
       have e0:=((c0.alloc _).kept hgrow (c0.not_row (by decide) hrow)).other (B':=w.heap.size+1+1+1) (by omega) (.slice (some ⟨g',0,none⟩) (pre.length+1) cap');have e1:=((c1.alloc _).kept hgrow (c1.not_row (by decide) hrow)).other (B':=w.heap.size+1+1+1) (by omega) (.slice (some ⟨g',0,none⟩) (pre.length+1) cap');have e2:=((c2.alloc _).kept hgrow (c2.not_row (by decide) hrow)).other (B':=w.heap.size+1+1+1) (by omega) (.slice (some ⟨g',0,none⟩) (pre.length+1) cap');have e4:=((c4.alloc _).kept hgrow (c4.not_row (by decide) hrow)).other (B':=w.heap.size+1+1+1) (by omega) (.slice (some ⟨g',0,none⟩) (pre.length+1) cap');refine⟨hk2.from _,⟨hb2',e4.trans c4.symm⟩,⟨⟨⟨⟨⟨_,hv2,?_,trivial⟩,e0⟩,e1⟩,e2⟩,e4⟩,⟨by simp;omega,?_⟩,hB.trans hb2'⟩
       · rw[ZG,List.length_append]
         exact hr2
       · intro y hy
         rcases List.mem_append.1 hy with h | h
         · exact hG.2 y h
         · rw[List.mem_singleton] at h;rw[h];exact HX.out
 case done =>
   rintro D ys W hD rfl hI hK;obtain⟨⟨⟨⟨⟨⟨v,hv,hrow,_⟩,c0⟩,c1⟩,c2⟩,c4⟩,hG,hB⟩:=hI
   have HO:Hid (KX [] (Em (L s))=(Em (L s),0,0)):=by
     refine Lib.hid ?_;have:=RH [] (Em (L s)) [] (by simpa using hG)
     simpa[KX] using this
   obtain⟨A,cp,rfl⟩:∃A cp,v=.slice A (Em (L s)).length cp:=by
     rcases hrow.2 with ⟨h,h0⟩ | ⟨g,cap,cur,h,_⟩
     · exact⟨none,0,by rw[h,h0]⟩
     · exact⟨_,cap,h⟩
   have hc:=hv.cell;have f0:=c0.frozen;have f1:=c1.frozen;have f2:=c2.frozen;have d0:=c0.cell;have d1:=c1.cell;have d2:=c2.cell
   gi_wp2
   have hKF:=(((KeepsOthers.setCell W ⟨w.heap.size,0,none⟩ (.slice A (Em (L s)).length cp)).trans (KeepsOthers.setCell _ ⟨w.heap.size+1,0,none⟩ (.int .i64 0))).trans (KeepsOthers.setCell _ ⟨w.heap.size+1+1,0,none⟩ (.int .i64 0))).same D _ hK rfl;refine⟨by simp,.inl ⟨_,_,rfl,run_takeDeferred hKF,?_⟩⟩;have g0:=M8 (D:=D) (o:=.deferred none) (((c0.set (.slice A (Em (L s)).length cp)).other (B':=w.heap.size+1) (by omega) (.int .i64 0)).other (B':=w.heap.size+1+1) (by omega) (.int .i64 0)) (by omega);have g1:=M8 (D:=D) (o:=.deferred none) (((c1.other (B':=w.heap.size) (by omega) (.slice A (Em (L s)).length cp)).set (.int .i64 0)).other (B':=w.heap.size+1+1) (by omega) (.int .i64 0)) (by omega);have g2:=M8 (D:=D) (o:=.deferred none) (((c2.other (B':=w.heap.size) (by omega) (.slice A (Em (L s)).length cp)).other (B':=w.heap.size+1) (by omega) (.int .i64 0)).set (.int .i64 0)) (by omega);refine⟨.tuple #[.slice A (Em (L s)).length cp,.int .i64 0,.int .i64 0],?_,?_⟩
   · have g0':=g0.cell
     have g1':=g1.cell;have g2':=g2.cell;simp[results,Tryz.results34,go_sem,g0',g1',g2']
   · rw[HO.out]
     refine⟨_,rfl,?_,?_⟩
     · refine ownsRow_putObj (l:=D) ?_ _ hKF rfl
       have r1:=hrow.kept (grownBy_setCell' W w.heap.size (.slice A (Em (L s)).length cp)) (.inr (c0.not_row (by decide) hrow).symm);have r2:=r1.kept (grownBy_setCell' _ (w.heap.size+1) (.int .i64 0)) (.inr (c1.not_row (by decide) hrow).symm);exact r2.kept (grownBy_setCell' _ (w.heap.size+1+1) (.int .i64 0)) (.inr (c2.not_row (by decide) hrow).symm)
     · exact(((hB.setCell (p:=⟨w.heap.size,0,none⟩) (Nat.le_refl _) _).setCell (p:=⟨w.heap.size+1,0,none⟩) (by simp) _).setCell (p:=⟨w.heap.size+1+1,0,none⟩) (by simp;omega) _).trans (belowK_b (w:=w) (Nat.le_refl _) _ D _ _ (by omega) hKF rfl rfl)
 case stop =>
   rintro D c pre W hD hpre hX hK;obtain⟨⟨rfl,q,x,err,⟨rfl,hG,he⟩,c0,c1,c2⟩,hB⟩:=hX
   have HO:Hid (KX [] (Em (L s))=([],err,x.2.2)):=by
     refine Lib.hid ?_;obtain⟨r,hr⟩:=hpre;rw[<- hr,List.append_assoc,RH [] q _ (by simpa using hG)]
     simp only[List.nil_append,List.cons_append,KX];rcases he with ⟨h1,h2⟩ | ⟨h1,h2,h3⟩
     · rw[if_pos h1,h2]
     · rw[if_neg (by omega),if_pos h2,h3]
   have d0:=c0.cell;have d1:=c1.cell;have d2:=c2.cell
   gi_wp2
   refine⟨by simp,.inl ⟨_,_,rfl,run_takeDeferred hK,?_⟩⟩;have g0:=M8 (D:=D) (o:=.deferred none) c0 (by omega);have g1:=M8 (D:=D) (o:=.deferred none) c1 (by omega);have g2:=M8 (D:=D) (o:=.deferred none) c2 (by omega);refine⟨.tuple #[.slice none 0 0,.int .i64 err,.int .i64 x.2.2],?_,?_⟩
   · have g0':=g0.cell
     have g1':=g1.cell;have g2':=g2.cell;simp[results,Tryz.results34,go_sem,g0',g1',g2']
   · rw[HO.out]
     exact⟨_,rfl,World.ownsRow_nil _ _ _ _,hB.trans (belowK_b (w:=w) (Nat.le_refl _) W D _ _ (by omega) hK rfl rfl)⟩
def anZ(s:ByteArray)(w:World)(hT:ML w):Calls Tryz.prog 34 #[.string s] w (bJ (Ly (L s)) w):=by
 unfold Ly;have hl:(L s).length=s.size:=by simp
 rw[hl];by_cases h:6000 < s.size
 · rw[if_pos h];exact afL s w h
 · rw[if_neg h];exact xT s w hT (by omega)
end Go.Proofs.YtpbkhogolfegfaaGreatDoor
namespace LexS
def Sep(u:List UInt8):Prop:=u=[]\/∃c u',u=c::u'/\cin 1 c=true
def aqJ:Sep []:=.inl rfl
def VT(c:UInt8)(h:cin 1 c=true):P5 c.toNat=1/\(c=32\/c=9\/c=10\/c=13):=by
 unfold cin at h;rw[bne_iff_ne] at h;by_cases h1:c.toNat=32\/c.toNat=9\/c.toNat=10\/c.toNat=13;refine⟨by unfold P5;rw[if_pos h1],?_⟩;rcases h1 with h1 | h1 | h1 | h1
 exact .inl (UInt8.toNat_inj.1 h1);exact .inr (.inl (UInt8.toNat_inj.1 h1));exact .inr (.inr (.inl (UInt8.toNat_inj.1 h1)));exact .inr (.inr (.inr (UInt8.toNat_inj.1 h1)))
 · exfalso;apply h
   unfold P5;rw[if_neg h1]
   repeat (split;simp)
   simp
def VU(c:UInt8)(m:Nat)(h:cin 1 c=true)(hm:(1 &&& m)=0):cin m c=false:=by
 unfold cin;rw[(VT c h).1,hm];rfl
def kW(u:List UInt8)(m:Nat)(h:Sep u)(hm:(1 &&& m)=0):BE m u=0:=by
 rcases h with rfl | ⟨c,u',rfl,hc⟩
 rfl;rw[IP,VU c m hc hm];rfl
def aqI(u:List UInt8)(m:Nat)(h:Sep u)(hm:(1 &&& m)=0):I1 m u=false:=by
 rcases h with rfl | ⟨c,u',rfl,hc⟩
 rfl;exact VU c m hc hm
def PO(m:Nat)(t u:List UInt8)(n:Nat)(hm:(1 &&& m)=0)(hu:Sep u)(hn:BE m t<=n):BE m (t.take n++u)=BE m t:=by
 induction t generalizing n with
 | nil=>simpa[yX] using kW u m hu hm
 | cons c t ih =>
   rw[IP] at hn ⊢;by_cases hc:cin m c=true;rw[if_pos hc] at hn ⊢;obtain⟨n',rfl⟩:∃n',n=n'+1:=⟨n - 1,by omega⟩;rw[List.take_succ_cons,List.cons_append,IP,if_pos hc,ih n' (by omega)];rw[if_neg hc];cases n with
   | zero=>simpa using kW u m hu hm
   | succ n=>rw[List.take_succ_cons,List.cons_append,IP,if_neg hc]
def W1(m:Nat)(t u:List UInt8)(n:Nat)(hn:1<=n)(ht:t≠[]):I1 m (t.take n++u)=I1 m t:=by
 cases t with
 | nil=>exact absurd rfl ht
 | cons c t =>
   obtain⟨n',rfl⟩:∃n',n=n'+1:=⟨n - 1,by omega⟩;rfl
def Nj(t u:List UInt8)(n k:Nat)(h1:k<=n)(h2:k<=t.length):(t.take n++u).drop k=(t.drop k).take (n - k)++u:=by
 rw[List.drop_append_of_le_length (by rw[List.length_take];omega),List.drop_take]
def XY(t u:List UInt8)(n:Nat)(hu:Sep u)(h:free t=true):free (t.take n++u)=true:=by
 have hfu:free u=true:=by
   rcases hu with rfl | ⟨c,u',rfl,hc⟩
   rfl;unfold free;rw[show I1 30 (c::u')=false from VU c 30 hc rfl];rcases(VT c hc).2 with h | h | h | h<;>subst h<;>rfl
 cases t with
 | nil=>simpa using hfu
 | cons c t =>
   cases n with
   | zero=>simpa using hfu
   | succ n=>exact h
def iO(t u:List UInt8)(n:Nat)(hu:Sep u)(c:UInt8)(hc:cin 1 c=false)(h:t.head?≠some c):(t.take n++u).head?≠some c:=by
 have hfu:u.head?≠some c:=by
   rcases hu with rfl | ⟨c',u',rfl,hc'⟩
   simp;intro e;simp at e;subst e;rw[hc] at hc';cases hc'
 cases t with
 | nil=>simpa using hfu
 | cons d t =>
   cases n with
   | zero=>simpa using hfu
   | succ n=>exact h
def Vq(t u:List UInt8)(n:Nat)(hn:1<=n)(ht:t≠[]):(t.take n++u).head?=t.head?:=by
 cases t with
 | nil=>exact absurd rfl ht
 | cons d t =>
   obtain⟨n',rfl⟩:∃n',n=n'+1:=⟨n - 1,by omega⟩;rfl
def XM(t u:List UInt8)(n i:Nat)(h1:i < n)(h2:i < t.length):Ju (t.take n++u) i=Ju t i:=by
 unfold Ju;split;rw[List.getElem?_append_left (by rw[List.length_take];omega),List.getElem?_take,if_pos h1];rw[Nj t u n i (by omega) (by omega),W1 8 _ u _ (by omega) (by intro e;have:=congrArg List.length e;simp at this;omega)]
def nK(t u:List UInt8)(n i:Nat)(hu:Sep u)(hi:i=(t.take n).length):Ju (t.take n++u) i=false:=by
 subst hi;unfold Ju;split;rw[List.getElem?_append_right (Nat.le_refl _),Nat.sub_self];rcases hu with rfl | ⟨c,u',rfl,hc⟩
 rfl;rcases(VT c hc).2 with h | h | h | h<;>subst h<;>rfl
 rw[List.drop_left];exact aqI u 8 hu rfl
def XN(t:List UInt8):GI t=true↔10<=t.length/\∀i,i < 10->Ju t i=true:=by
 unfold GI;simp[List.all_eq_true]
def cC(t u:List UInt8)(n:Nat)(hn:10<=n)(h:GI t=true):GI (t.take n++u)=true:=by
 rw[XN] at h ⊢;refine⟨by simp;omega,λi hi=>?_⟩;rw[XM t u n i (by omega) (by omega)];exact h.2 i hi
def gU(t u:List UInt8)(n:Nat)(hu:Sep u)(h:GI t=false):GI (t.take n++u)=false:=by
 rw[Bool.eq_false_iff] at h ⊢;intro h';apply h;rw[XN] at h' ⊢
 have hlen:10<=(t.take n).length:=by
   rcases Nat.lt_or_ge (t.take n).length 10 with hlt | hge
   have:=h'.2 _ hlt;rw[nK t u n _ hu rfl] at this;cases this;exact hge
 rw[List.length_take] at hlen;refine⟨by omega,λi hi=>?_⟩;rw[<- XM t u n i (by omega) (by omega)];exact h'.2 i hi
def WU(t:List UInt8)(k:Nat)(h:k < t.length):t.drop k≠[]:=by
 intro e;have:=congrArg List.length e;simp at this;omega
def acV(t u:List UInt8)(n:Nat)(hu:Sep u)(h8:I1 8 t=true)(h:(IU t).1≠0)(hn:(IU t).2<=n):IU (t.take n++u)=IU t:=by
 have hd:=Uv 8 t h8;have hl:=Sh 8 t;have hp:=hU t h8 h;have ht:t≠[]:=by intro e;subst e;simp[I1] at h8
 have e0:∀d,d=BE 8 t->IU t =
   if GI t then (if free (t.drop 10) then (5,10) else (0,0))
   else if t.head?=some 48/\1 < d then (0,0)
   else if (t.drop d).head?=some 46 then
     (if 10 < d\/I1 8 (t.drop (d+1))=false\/I1 8 (t.drop (d+2))=false then (0,0)
      else if free (t.drop (d+3)) then (4,d+3) else (0,0))
   else if 12 < d then (0,0)
   else if free (t.drop d) then (3,d) else (0,0):=by intro d hd;subst hd;rfl
 by_cases h1:GI t=true
 have hf:free (t.drop 10)=true/\IU t=(5,10):=by
   rw[e0 _ rfl,if_pos h1] at h ⊢;by_cases h2:free (t.drop 10)=true;exact⟨h2,by rw[if_pos h2]⟩;rw[if_neg h2] at h;simp at h
 rw[hf.2] at hn ⊢;have hlen:10<=t.length:=((XN t).1 h1).1;unfold IU;simp only;simp only at hn;rw[cC t u n hn h1,if_pos rfl,Nj t u n 10 hn hlen,XY _ u _ hu hf.1,if_pos rfl];have h1':GI t=false:=by simpa using h1
 have hv:=gU t u n hu h1';obtain⟨d,hdd⟩:∃d,d=BE 8 t:=⟨_,rfl⟩;have e1:=e0 d hdd;rw[if_neg h1] at e1;by_cases h2:t.head?=some 48/\1 < d;rw[e1,if_pos h2] at h;simp at h;rw[if_neg h2] at e1;by_cases h3:(t.drop d).head?=some 46;rw[if_pos h3] at e1;by_cases h4:10 < d\/I1 8 (t.drop (d+1))=false\/I1 8 (t.drop (d+2))=false;rw[e1,if_pos h4] at h;simp at h;rw[if_neg h4] at e1;by_cases h5:free (t.drop (d+3))=true;rw[if_pos h5] at e1;rw[e1] at hn hp ⊢;simp only at hn hp;have hs:BE 8 (t.take n++u)=d:=by rw[PO 8 t u n rfl hu (by omega)];exact hdd.symm
 have i1:I1 8 ((t.take n++u).drop (d+1))=I1 8 (t.drop (d+1)):=by
   rw[Nj t u n _ (by omega) (by omega),W1 8 _ u _ (by omega) (WU t _ (by omega))]
 have i2:I1 8 ((t.take n++u).drop (d+2))=I1 8 (t.drop (d+2)):=by
   rw[Nj t u n _ (by omega) (by omega),W1 8 _ u _ (by omega) (WU t _ (by omega))]
 unfold IU;simp only;rw[hv,if_neg (by simp),hs,Vq t u n (by omega) ht,if_neg h2,Nj t u n d (by omega) (by omega),Vq _ u _ (by omega) (WU t _ (by omega)),if_pos h3,i1,i2,if_neg h4,Nj t u n (d+3) (by omega) (by omega),XY _ u _ hu h5,if_pos rfl];rw[e1,if_neg h5] at h;simp at h;rw[if_neg h3] at e1;by_cases h4:12 < d;rw[e1,if_pos h4] at h;simp at h;rw[if_neg h4] at e1;by_cases h5:free (t.drop d)=true;rw[if_pos h5] at e1;rw[e1] at hn hp ⊢;simp only at hn hp;have hs:BE 8 (t.take n++u)=d:=by rw[PO 8 t u n rfl hu (by omega)];exact hdd.symm
 unfold IU;simp only;rw[hv,if_neg (by simp),hs,Vq t u n (by omega) ht,if_neg h2,Nj t u n d (by omega) (by omega),if_neg (iO _ u _ hu 46 rfl h3),if_neg h4,XY _ u _ hu h5,if_pos rfl];rw[e1,if_neg h5] at h;simp at h
def pX(y t u:List UInt8)(n:Nat)(hu:Sep u)(hy:∀c∈y,cin 1 c=false)(h:y.isPrefixOf (t.take n++u)=true):y.isPrefixOf t=true:=by
 rw[List.isPrefixOf_iff_prefix] at h ⊢;rcases Nat.lt_or_ge (t.take n).length y.length with hlt | hge
 exfalso;rcases hu with rfl | ⟨c,u',rfl,hc⟩
 have:=h.length_le;simp only[List.append_nil] at this;omega;have hg:(t.take n++c::u')[(t.take n).length]?=some c:=by rw[List.getElem?_append_right (Nat.le_refl _),Nat.sub_self];rfl
 obtain⟨z,hz⟩:=h;rw[<- hz,List.getElem?_append_left hlt] at hg;have:=hy c (List.mem_of_getElem? hg);rw[this] at hc;cases hc;have h1:y <+: t.take n:=List.prefix_of_prefix_length_le h (List.prefix_append _ _) hge;exact h1.trans (List.take_prefix n t)
def aiM(t u:List UInt8)(n:Nat)(hu:Sep u)(ys:List (List UInt8))(hy:∀y∈ys,∀c∈y,cin 1 c=false)(h:(Mh t ys).1≠0)(hn:(Mh t ys).2<=n):Mh (t.take n++u) ys=Mh t ys:=by
 induction ys with
 | nil=>rfl
 | cons y ys ih =>
   rw[Mh] at h hn;rw[Mh,Mh];by_cases hp:y.isPrefixOf t=true;rw[if_pos hp] at hn ⊢;simp only at hn;rw[if_pos];rw[List.isPrefixOf_iff_prefix] at hp ⊢
   have:y <+: t.take n:=by
     rw[List.prefix_take_iff];exact⟨hp,hn⟩
   exact this.trans (List.prefix_append _ _);rw[if_neg hp] at h hn ⊢;have:¬y.isPrefixOf (t.take n++u)=true:=λhh=>hp (pX y t u n hu (hy y (by simp)) hh);rw[if_neg this];exact ih (λy' h'=>hy y' (by simp[h'])) h hn
def agU(t u:List UInt8)(n:Nat)(hu:Sep u)(h:(BI t).1≠0)(hn:(BI t).2<=n):BI (t.take n++u)=BI t:=by
 have hp:=PJ t h;have ht:t≠[]:=by intro e;subst e;simp at hp;omega
 have hi:∀m,I1 m (t.take n++u)=I1 m t:=λm=>W1 m t u n (by omega) ht;unfold BI at h hn ⊢;rw[hi 2,hi 4,hi 8];by_cases h2:I1 2 t=true;rw[if_pos h2] at h hn ⊢;rw[if_pos h2];by_cases hc:BE 30 t<=16/\BE 26 t=BE 30 t;rw[if_pos hc] at hn ⊢;simp only at hn;rw[PO 30 t u n rfl hu hn,PO 26 t u n rfl hu (by rw[hc.2];exact hn),if_pos hc];rw[if_neg hc] at h;simp at h;rw[if_neg h2] at h hn ⊢;rw[if_neg h2];by_cases h4:I1 4 t=true;rw[if_pos h4] at h hn ⊢;rw[if_pos h4];by_cases hc:BE 30 t=3/\BE 4 t=BE 30 t;rw[if_pos hc] at hn ⊢;simp only at hn;rw[PO 30 t u n rfl hu hn,PO 4 t u n rfl hu (by rw[hc.2];exact hn),if_pos hc];rw[if_neg hc] at h;simp at h;rw[if_neg h4] at h hn ⊢;rw[if_neg h4];by_cases h8:I1 8 t=true;rw[if_pos h8] at h hn ⊢;rw[if_pos h8];exact acV t u n hu h8 h hn;rw[if_neg h8] at h hn ⊢;rw[if_neg h8];exact aiM t u n hu Gq (by decide) h hn
end LexS
namespace LexS
def fF(s:List UInt8)(l:List Tok)(k:Nat)(h:Ie s k=l):∀x∈l,k<=x.2.2/\x.2.2 < s.length/\x.2.2+x.2.1.length<=s.length/\x.2.1=(s.drop x.2.2).take x.2.1.length/\(x.1≠0->1<=x.2.1.length/\BI (s.drop x.2.2)=(x.1,x.2.1.length)):=by
 induction l generalizing k with
 | nil=>intro x hx;simp at hx
 | cons y l ih =>
   intro x hx;rcases Nat.lt_or_ge k s.length with hk | hk
   by_cases hz:(BI (s.drop k)).1=0;rw[R0 s k hk hz] at h;injection h with h1 h2
   subst h1;subst h2;simp at hx;subst hx;exact⟨Nat.le_refl _,hk,by simp;omega,by simp,λhh=>absurd rfl hh⟩;have hp:=PJ _ hz;rw[List.length_drop] at hp;rw[OJ s k hk hz] at h;injection h with h1 h2
   rcases List.mem_cons.1 hx with rfl | Tv
   rw[<- h1];simp only;have hl:((s.drop k).take (BI (s.drop k)).2).length=(BI (s.drop k)).2:=by rw[List.length_take,List.length_drop];omega
   rw[hl];exact⟨Nat.le_refl _,hk,by omega,rfl,λ_=>⟨by omega,rfl⟩⟩;have:=ih _ h2 x Tv;exact⟨by omega,this.2⟩;rw[OI s k hk] at h;cases h
end LexS
namespace LexS
def xS(s:List UInt8)(l:List Tok)(hs:s.length<=6000)(h:Em s=l)(hg:ZN l):Ly s=(l,0,0):=by
 unfold Ly;rw[if_neg (by omega),h];have:=RH [] l [] (by simpa using hg)
 simpa[KX] using this
def acZ(b:Bool)(t:List UInt8):JP false (t.drop (JP b t))=0:=by
 induction t generalizing b with
 | nil=>rfl
 | cons c t ih =>
   rw[JP];by_cases hb:b=true;rw[if_pos hb];by_cases hc:c=10;rw[if_pos hc,Nat.add_comm,List.drop_succ_cons];exact ih false;rw[if_neg hc,Nat.add_comm,List.drop_succ_cons];exact ih true;rw[if_neg hb];by_cases hw:cin 1 c=true;rw[if_pos hw,Nat.add_comm,List.drop_succ_cons];exact ih false;rw[if_neg hw];by_cases hs:c=47/\t.head?=some 47;rw[if_pos hs,Nat.add_comm,List.drop_succ_cons];exact ih true;rw[if_neg hs,List.drop_zero,JP,if_neg (by simp),if_neg hw,if_neg hs]
def aO(s:List UInt8)(k:Nat):Fk (s.drop (k+Fk (s.drop k)))=0:=by
 have:=acZ false (s.drop k);rw[List.drop_drop] at this;exact this
def fG(s:List UInt8)(l:List Tok)(k:Nat)(h:Ie s k=l)(hk:Fk (s.drop k)=0):∀x∈l,Fk (s.drop x.2.2)=0:=by
 induction l generalizing k with
 | nil=>intro x hx;simp at hx
 | cons y l ih =>
   intro x hx;rcases Nat.lt_or_ge k s.length with hk' | hk'
   by_cases hz:(BI (s.drop k)).1=0;rw[R0 s k hk' hz] at h;injection h with h1 h2
   subst h2;rcases List.mem_cons.1 hx with rfl | Tv
   rw[<- h1];exact hk;simp at Tv;rw[OJ s k hk' hz] at h;injection h with h1 h2
   rcases List.mem_cons.1 hx with rfl | Tv
   rw[<- h1];exact hk;exact ih _ h2 (aO s _) x Tv;rw[OI s k hk'] at h;cases h
def Si(t:List UInt8)(ys:List (List UInt8)):(Mh t ys).1=0\/(Mh t ys).1=6:=by
 induction ys with
 | nil=>left;rfl
 | cons y ys ih=>rw[Mh];split
                 right;rfl;exact ih
def alG(g:List UInt8):Prop:=(∀u,Fk u=0->Fk (g++u)=g.length)/\∃c g',g=c::g'/\cin 1 c=true
def avO(x:Tok):Prop:=x.1≠0/\∀u,Sep u->Fk (x.2.1++u)=0/\BI (x.2.1++u)=(x.1,x.2.1.length)
def ahY(t u:List UInt8)(n:Nat)(hu:Sep u)(hn:1<=n)(ht:t≠[])(h:Fk t=0):Fk (t.take n++u)=0:=by
 cases t with
 | nil=>exact absurd rfl ht
 | cons c t =>
   obtain⟨n',rfl⟩:∃n',n=n'+1:=⟨n - 1,by omega⟩;unfold Fk at h ⊢;rw[List.take_succ_cons,List.cons_append];rw[JP,if_neg (by simp)] at h ⊢;by_cases hw:cin 1 c=true;rw[if_pos hw] at h;omega;rw[if_neg hw] at h ⊢;by_cases hs:c=47/\t.head?=some 47;rw[if_pos hs] at h;omega;rw[if_neg];rintro⟨h1,h2⟩;have:t.head?≠some 47:=λhh=>hs ⟨h1,hh⟩;exact iO t u n' hu 47 rfl this h2
def qZ(s:List UInt8)(hg:∀x∈Em s,x.1≠0):∀x∈Em s,avO x:=by
 intro x hx;have hb:=fF s _ _ rfl x (by rw[<- Sw];exact hx);have hk:Fk (s.drop (Fk s))=0:=by have:=aO s 0;simpa using this
 have hn:=fG s _ _ rfl hk x (by rw[<- Sw];exact hx);have h0:=hg x hx;obtain⟨h1,h2⟩:=hb.2.2.2.2 h0;refine⟨h0,λu hu=>?_⟩;have ht:s.drop x.2.2≠[]:=WU s _ hb.2.1;constructor;have:=ahY (s.drop x.2.2) u x.2.1.length hu h1 ht hn;rwa[<- hb.2.2.2.1] at this;have:=agU (s.drop x.2.2) u x.2.1.length hu (by rw[h2];exact h0) (by rw[h2];exact Nat.le_refl _);rw[<- hb.2.2.2.1,h2] at this;exact this
end LexS
