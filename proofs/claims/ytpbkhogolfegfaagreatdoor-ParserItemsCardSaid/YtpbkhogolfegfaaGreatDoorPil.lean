/- Part of a proof: see the last text. -/
import Derived.Test.YtpbkhogolfegfaaGreatDoorPik
import Derived.Maps.AppendAt
set_option linter.unusedVariables false
set_option linter.unusedSimpArgs false
set_option linter.defProp false
noncomputable section
namespace Go.Proofs.YtpbkhogolfegfaaGreatDoor
open Go.RowKit Go.Shelf LexS
attribute [local go_sem] Oper.semAt_some
def KP(l:List Tok):List Value:=l.flatMap λx=>[.int .i64 x.1,.string ⟨x.2.1.toArray⟩,.int .i64 x.2.2]
def dO(r:List Tok×Nat×Nat)(w:World)(e:Ending)(w':World):Prop :=
 ∃v,e=.returned (.tuple #[v,.int .i64 r.2.1,.int .i64 r.2.2])/\w'.ownsRow w.heap.size 43 3 v r.1.length (KP r.1)/\Below w.heap.size w w'
def Tryz.afC:(Tryz.prog.info? 43).map (λi=>(i.zero,i.size,i.bytes))=some (some (.agg #[.int .i64 0,.string ⟨#[]⟩,.int .i64 0]),3,32):=by kernel_rfl
def aU(l:List Tok)(x:Tok):KP (l++[x])=KP l++[.int .i64 x.1,.string ⟨x.2.1.toArray⟩,.int .i64 x.2.2]:=by
 unfold KP;simp
set_option maxHeartbeats 1000000 in
def ab9(s:ByteArray)(w:World)(hs:6000 < s.size) :
   Calls Tryz.prog 34 #[.string s] w (dO ([],2,0) w):=by
 go_enter Tryz.func34,Tryz.ntmps34
 go_wp2_with fail
 refine bodyPost_ret (v:=.tuple #[.slice none 0 0,.int .i64 2,.int .i64 0]) (by simp[results,Tryz.results34,go_sem]) rfl ?_;exact⟨_,rfl,World.ownsRow_nil _ _ _ _,(((Below.refl _ _).alloc (Nat.le_refl _) _).alloc (by simp) _).alloc (by simp;omega) _⟩
def alC(s:ByteArray)(w:World)(pre:List Tok)(W:World):Prop :=
 (((((∃v,Boxed W (w.heap.size+1+1+1) 38 v/\W.ownsRow w.heap.size 43 3 v pre.length (KP pre)/\True) /\
   Boxed W w.heap.size 38 (.slice none 0 0))/\Boxed W (w.heap.size+1) 39 (.int .i64 0))/\Boxed W (w.heap.size+1+1) 3 (.int .i64 0))/\Boxed W (w.heap.size+1+1+1+1) 9 (.string s))/\RG pre/\Below w.heap.size w W
def ab7(s:ByteArray)(w:World)(B:Nat)(hB:w.heap.size<=B):OwnFrom B (alC s w) :=
 OwnFrom.and (OwnFrom.and (OwnFrom.and (OwnFrom.and (OwnFrom.and (Own.from (holdsRow_own w.heap.size (w.heap.size+1+1+1) 38 43 3 (λpre:List Tok=>pre.length) KP (λ_ _=>True)) _) (Own.from (boxed_own _ _ (λ_=>_)) _)) (Own.from (boxed_own _ _ (λ_=>_)) _)) (Own.from (boxed_own _ _ (λ_=>_)) _)) (Own.from (boxed_own _ _ (λ_=>_)) _)) (OwnFrom.and (ownFrom_pure _ RG) (ownFrom_below (Nat.le_refl _) hB))
def ai4(w:World)(c:Code)(pre:List Tok)(W:World):Prop :=
 (c=.ret/\(∃q x err,(pre=q++[x]/\RG q/\((q.length=2000/\err=2)\/(q.length < 2000/\x.1=0/\err=61))) /\
   Boxed W w.heap.size 38 (.slice none 0 0)/\Boxed W (w.heap.size+1) 39 (.int .i64 (err:Nat))/\Boxed W (w.heap.size+1+1) 3 (.int .i64 x.2.2)))/\Below w.heap.size w W
def Sr{X Y:World}{row:Option Nat}{B b:Nat}{t:TypeId}{v:Value}(h:Boxed X b t v)(hg:X.grownBy Y row)(hr:∀r,row=some r->B<=r/\∃o:Obj,X.heap[r]?=some o/\o.isCells=false):Boxed Y b t v :=
 boxed_own b t (λ(_:Unit)=>v) () X Y row h hg (λr e=>(hr r e).2)
def ab8(w:World)(B:Nat)(hB:w.heap.size<=B)(c:Code):OwnFrom B (ai4 w c):=by
 intro pre X Y row hs hg hr;obtain⟨⟨hc,q,x,err,h1,h2,h3,h4⟩,h5⟩:=hs;exact⟨⟨hc,q,x,err,h1,Sr h2 hg hr,Sr h3 hg hr,Sr h4 hg hr⟩,ownFrom_below (β:=Unit) (Nat.le_refl _) hB () X Y row h5 hg hr⟩
def TX(W:World)(B:Nat)(x:Tok):Prop:=W.heap[B]?=some (.cells #[.int .i64 x.1,.string ⟨x.2.1.toArray⟩,.int .i64 x.2.2] 43 (0,0))
def TX.kept{X Y:World}{row:Option Nat}{b:Nat}{x:Tok}(h:TX X b x)(hg:X.grownBy Y row)(hr:some b≠row):TX Y b x :=
 (hg.block b (Array.getElem?_eq_some_iff.1 h).1 hr).trans h
def TX.keeps{X Y:World}{row:Option Nat}{B b:Nat}{x:Tok}(h:TX X b x)(hg:X.grownBy Y row)(hr:∀r,row=some r->B<=r/\∃o:Obj,X.heap[r]?=some o/\o.isCells=false):TX Y b x:=by
 refine h.kept hg (λe=>?_);obtain⟨_,o,ho,hc⟩:=hr b e.symm;rw[show X.heap[b]?=_ from h] at ho;cases ho;cases hc
def wE(w:World)(a b c:Value)(t:TypeId):∀(j:Nat) u,[a,b,c][j]?=some u->(w.alloc (.cells #[a,b,c] t)).cell? ((⟨w.heap.size,0,none⟩:Addr).add j)=some u:=by
 intro j u hu;have hh:=heap_alloc_new w (.cells #[a,b,c] t)
 match j,hu with
 | 0,hu=>rw[show(⟨w.heap.size,0,none⟩:Addr).add 0=⟨w.heap.size,0,none⟩ from rfl,cell_of_row _ _ _ _ _ _ hh];simpa using hu
 | 1,hu=>rw[show(⟨w.heap.size,0,none⟩:Addr).add 1=⟨w.heap.size,1,none⟩ from rfl,cell_of_row _ _ _ _ _ _ hh];simpa using hu
 | 2,hu=>rw[show(⟨w.heap.size,0,none⟩:Addr).add 2=⟨w.heap.size,2,none⟩ from rfl,cell_of_row _ _ _ _ _ _ hh];simpa using hu
 | n+3,hu=>simp at hu
def N1{X:World}{b D:Nat}{t:TypeId}{v:Value}{o:Obj}(h:Boxed X b t v)(KE:b≠D):Boxed (X.putObj D o) b t v :=
 h.kept (grownBy_putObj' X D o) (λe=>KE (by cases e;rfl))
def tJ{w W:World}{B:Nat}{pre:List Tok}{x:Tok}{err:Nat}(c0:Boxed W w.heap.size 38 (.slice none 0 0))(c1:Boxed W (w.heap.size+1) 39 (.int .i64 0))(c2:Boxed W (w.heap.size+1+1) 3 (.int .i64 0))(hG:RG pre)(hB:Below w.heap.size w W)
   (he:(pre.length=2000/\err=2)\/(pre.length < 2000/\x.1=0/\err=61)) :
   KeepsFrom B W (((W.setCell ⟨w.heap.size,0,none⟩ (.slice none 0 0)).setCell ⟨w.heap.size+1,0,none⟩ (.int .i64 (err:Nat))).setCell ⟨w.heap.size+1+1,0,none⟩ (.int .i64 x.2.2)).drew /\
   ai4 w .ret (pre++[x]) (((W.setCell ⟨w.heap.size,0,none⟩ (.slice none 0 0)).setCell ⟨w.heap.size+1,0,none⟩ (.int .i64 (err:Nat))).setCell ⟨w.heap.size+1+1,0,none⟩ (.int .i64 x.2.2)).drew:=by
 refine⟨((((KeepsOthers.setCell _ _ _).trans (KeepsOthers.setCell _ _ _)).trans (KeepsOthers.setCell _ _ _)).trans (KeepsOthers.drew _)).from _,⟨rfl,pre,x,err,⟨rfl,hG,he⟩,?_,?_,?_⟩,?_⟩;exact((c0.set _).other (by omega) _).other (by omega) _;exact((c1.other (by omega) _).set _).other (by omega) _;exact((c2.other (by omega) _).other (by omega) _).set _;exact(((hB.setCell (p:=⟨w.heap.size,0,none⟩) (Nat.le_refl _) _).setCell (p:=⟨w.heap.size+1,0,none⟩) (by simp) _).setCell (p:=⟨w.heap.size+1+1,0,none⟩) (by simp;omega) _).drew
set_option maxRecDepth 100000 in
set_option maxHeartbeats 2000000 in
def xD(s:ByteArray)(w:World)(hT:NB w)(hs:s.size<=6000) :
   Calls Tryz.prog 34 #[.string s] w (dO (DW [] (Dl (L s))) w):=by
 have hb:decide ((6000:Int) < (s.size:Int))=false:=by simp;omega
 have hT2:TB w.heap.size:=hT.tb;obtain⟨i0,hi,Y2,kI,hz2⟩:=info_parts Tryz.afC;have hmo:Tryz.prog.follows Departure.mixedOrders=true:=by kernel_rfl
 refine(callsIn_wide (n:=8)).1 ?_;refine callsIn_of_wp_marks Tryz.func34 rfl trivial ?_ rfl;simp only[Tryz.ntmps34,List.size_toArray,List.length_cons,List.length_nil,Nat.cH,Nat.cI,Array.replicate_succ,Array.replicate_zero,List.push_toArray,List.append_toArray,List.nil_append,List.cons_append]
 gi_wp2_with (refine⟨trivial,?_⟩;gi_at_call 67;refine(yY _ s _).mono ?_;rintro e w' ⟨rfl,rfl⟩)
 obtain⟨W0,hW0⟩:∃W0,((((w.alloc (.cells #[.slice none 0 0] 38)).alloc (.cells #[.int .i64 0] 39)).alloc (.cells #[.int .i64 0] 3)).alloc (.cells #[.slice none 0 0] 38)).alloc (.cells #[.string s] 9)=W0:=⟨_,rfl⟩;have Qi:W0.heap.size=w.heap.size+5:=by rw[<- hW0];simp
 have b0:Boxed W0 w.heap.size 38 (.slice none 0 0):=by
   rw[<- hW0];exact((((Boxed.new w _ _).alloc _).alloc _).alloc _).alloc _
 have b1:Boxed W0 (w.heap.size+1) 39 (.int .i64 0):=by
   rw[<- hW0];have:=((((Boxed.new (w.alloc (.cells #[.slice none 0 0] 38)) 39 (.int .i64 0)).alloc (.cells #[.int .i64 0] 3)).alloc (.cells #[.slice none 0 0] 38)).alloc (.cells #[.string s] 9));rw[World.size_alloc] at this;exact this
 have b2:Boxed W0 (w.heap.size+1+1) 3 (.int .i64 0):=by
   rw[<- hW0];have:=(((Boxed.new ((w.alloc (.cells #[.slice none 0 0] 38)).alloc (.cells #[.int .i64 0] 39)) 3 (.int .i64 0)).alloc (.cells #[.slice none 0 0] 38)).alloc (.cells #[.string s] 9));rw[World.size_alloc,World.size_alloc] at this;exact this
 have b3:Boxed W0 (w.heap.size+1+1+1) 38 (.slice none 0 0):=by
   rw[<- hW0];have:=((Boxed.new (((w.alloc (.cells #[.slice none 0 0] 38)).alloc (.cells #[.int .i64 0] 39)).alloc (.cells #[.int .i64 0] 3)) 38 (.slice none 0 0)).alloc (.cells #[.string s] 9));rw[World.size_alloc,World.size_alloc,World.size_alloc] at this;exact this
 have b4:Boxed W0 (w.heap.size+1+1+1+1) 9 (.string s):=by
   rw[<- hW0];have:=(Boxed.new ((((w.alloc (.cells #[.slice none 0 0] 38)).alloc (.cells #[.int .i64 0] 39)).alloc (.cells #[.int .i64 0] 3)).alloc (.cells #[.slice none 0 0] 38)) 9 (.string s));rw[World.size_alloc,World.size_alloc,World.size_alloc,World.size_alloc] at this;exact this
 have hB0:Below w.heap.size w W0:=by
   rw[<- hW0];exact(((((Below.refl _ w).alloc (Nat.le_refl _) _).alloc (by simp) _).alloc (by simp;omega) _).alloc (by simp;omega) _).alloc (by simp;omega) _
 have hT0:NB W0:=hT.below hT2 hB0;rw[hW0];clear hW0
 refine wpIn_rangeFunc_ownH rfl (by omega) (gf:=115) (lb:=#[.pointer (some ⟨w.heap.size+1+1+1+1,0,none⟩)]) rfl trivial (enters_of Tryz.func115 (by kernel_rfl) rfl)
   (hU 7 (by omega) (w.heap.size+1+1+1+1) w.heap.size hT2 s hs W0 (by omega) (by omega) b4 hT0) amQ (amP (by omega) (by omega)) (Below.refl _ _) (λ_=>rfl)
   (alC s w) (ai4 w) (ab7 s w _ (by omega)) (ab8 w _ (by omega))
   ⟨⟨⟨⟨⟨⟨_,b3,World.ownsRow_nil _ _ _ _,trivial⟩,b0⟩,b1⟩,b2⟩,b4⟩,⟨by simp,by simp⟩,hB0⟩
   (λx a' W=>∃Bx,w.heap.size+1+1+1+1 < Bx/\TX W Bx x/\a'={ tmps:=#[.string s,undef,.pointer (some ⟨w.heap.size,0,none⟩),.pointer (some ⟨w.heap.size+1,0,none⟩),.pointer (some ⟨w.heap.size+1+1,0,none⟩),.pointer (some ⟨w.heap.size+1+1+1,0,none⟩),.pointer (some ⟨Bx,0,none⟩),.string s,.int .i64 s.size,.bool false,.string s,.func (.func 115) #[] #[.pointer (some ⟨w.heap.size+1+1+1+1,0,none⟩)],.agg #[.int .i64 x.1,.string ⟨x.2.1.toArray⟩,.int .i64 x.2.2],undef,undef,undef,undef,undef,undef,undef,undef,undef,undef,undef,undef,undef,undef,undef],defers:=[] })
   (λx a' _ X Y row hs hg hr=>by obtain⟨Bx,h1,h2,h3⟩:=hs;exact⟨Bx,h1,h2.keeps hg hr,h3⟩)
   ?assign ?body ?done ?stop
 case assign =>
   rintro l pre x W K hI hK;dsimp only[adE]
   gi_wp2
   obtain⟨⟨⟨⟨⟨⟨v,hv,NG,_⟩,c0⟩,c1⟩,c2⟩,c4⟩,hG,hB⟩:=hI;exact hK _ _ ((KeepsOthers.alloc _ _).from _) ⟨(Below.refl _ W).alloc hB.size _,Below.heap_alloc _ _ _ c4.lt⟩ ⟨⟨⟨⟨⟨⟨v,hv.alloc _,NG.alloc _,trivial⟩,c0.alloc _⟩,c1.alloc _⟩,c2.alloc _⟩,c4.alloc _⟩,hG,hB.alloc hB.size _⟩ ⟨W.heap.size,c4.lt,heap_alloc_new W _,rfl⟩
 case body =>
   rintro l pre x a' W hl ⟨r,hr⟩ hI ⟨Bx,hBx,bX,rfl⟩ GM;obtain⟨⟨⟨⟨⟨⟨v,hv,NG,_⟩,c0⟩,c1⟩,c2⟩,c4⟩,hG,hB⟩:=hI
   obtain⟨A,cp,rfl⟩:∃A cp,v=.slice A pre.length cp:=by
     rcases NG.2 with ⟨h,h0⟩ | ⟨g,cap,oL,h,_⟩
     exact⟨none,0,by rw[h,h0]⟩;exact⟨_,cap,h⟩
   have hc:=hv.cell;have k0:W.cell? ⟨Bx,0,none⟩=some (.int .i64 x.1):=by rw[cell_of_row W Bx 0 _ _ _ bX];rfl
   have k1:W.cell? ⟨Bx,1,none⟩=some (.string ⟨x.2.1.toArray⟩):=by rw[cell_of_row W Bx 1 _ _ _ bX];rfl
   have k2:W.cell? ⟨Bx,2,none⟩=some (.int .i64 x.2.2):=by rw[cell_of_row W Bx 2 _ _ _ bX];rfl
   have hlen:=hG.1;by_cases sQ:pre.length=2000
   . have BZ:((pre.length:Int) == 2000)=true:=by rw[beq_iff_eq];omega
     have f0:=c0.frozen;have f1:=c1.frozen;have f2:=c2.frozen;have d0:=c0.cell;have d1:=c1.cell;have d2:=c2.cell;have HL:=Lib.hid sQ;clear sQ
     gi_wp2
     gi_region_o
     all_goals gi_wp2
     all_goals exact tJ (err:=2) c0 c1 c2 hG hB (.inl ⟨HL.out,rfl⟩)
   . have BZ:((pre.length:Int) == 2000)=false:=by rw[beq_eq_false_iff_ne];omega
     have HL:=Lib.hid sQ;clear sQ;by_cases wZ:x.1=0
     . have Dz:((x.1:Int) == 0)=true:=by rw[beq_iff_eq];omega
       have HX:=Lib.hid wZ;clear wZ;have f0:=c0.frozen;have f1:=c1.frozen;have f2:=c2.frozen;have d0:=c0.cell;have d1:=c1.cell;have d2:=c2.cell
       gi_wp2
       gi_region_o
       all_goals gi_wp2
       all_goals exact tJ (err:=61) c0 c1 c2 hG hB (.inr ⟨by have:=HL.out;omega,HX.out,rfl⟩)
     have Dz:((x.1:Int) == 0)=false:=by rw[beq_eq_false_iff_ne];omega
     have HX:=Lib.hid wZ;clear wZ;have ard:pre.length+1<=2000:=by have:=HL.out;omega
     gi_wp2_with (gi_at_builtin;refine wpListIn_append_own _ rfl _ _ 38 rfl w.heap.size 43 i0 _ 3 32 Tryz.underlying38 hi Y2 kI hz2 rfl (by decide) _ _ _ rfl (NG.alloc _) ⟨W.heap.size,0,none⟩ 1 1 [.int .i64 x.1,.string ⟨x.2.1.toArray⟩,.int .i64 x.2.2] rfl rfl (wE _ _ _ _ _) (by simp[Value.oneCell']) (by unfold maxLen;omega) (by omega) (by have:=hB.size;simp;omega) ?_;intro v' w1 aik kE _;obtain⟨g',CC,rfl⟩:=ownsRow_succ aik;obtain⟨hv1,hv2,bO,fF,amd⟩:=hv.appended (by decide) NG hB.size (by omega) aik kE;have R6:=hv1.cell;have hf1:=hv1.frozen)
     have e0:=((c0.alloc _).kept kE (c0.not_row (by decide) NG)).other (B':=w.heap.size+1+1+1) (by omega) (.slice (some ⟨g',0,none⟩) (pre.length+1) CC);have e1:=((c1.alloc _).kept kE (c1.not_row (by decide) NG)).other (B':=w.heap.size+1+1+1) (by omega) (.slice (some ⟨g',0,none⟩) (pre.length+1) CC);have e2:=((c2.alloc _).kept kE (c2.not_row (by decide) NG)).other (B':=w.heap.size+1+1+1) (by omega) (.slice (some ⟨g',0,none⟩) (pre.length+1) CC);have e4:=((c4.alloc _).kept kE (c4.not_row (by decide) NG)).other (B':=w.heap.size+1+1+1) (by omega) (.slice (some ⟨g',0,none⟩) (pre.length+1) CC);refine⟨fF.from _,⟨amd,e4.trans c4.symm⟩,⟨⟨⟨⟨⟨_,hv2,?_,trivial⟩,e0⟩,e1⟩,e2⟩,e4⟩,⟨by simp;omega,?_⟩,hB.trans amd⟩;rw[aU,List.length_append];exact bO;intro y hy;rcases List.mem_append.1 hy with h | h
     exact hG.2 y h;rw[List.mem_singleton] at h;rw[h];exact HX.out
 case done =>
   rintro D ys W hD rfl hI hK;obtain⟨⟨⟨⟨⟨⟨v,hv,NG,_⟩,c0⟩,c1⟩,c2⟩,c4⟩,hG,hB⟩:=hI
   have HO:Hid (DW [] (Dl (L s))=(Dl (L s),0,0)):=by
     refine Lib.hid ?_;have:=W5 [] (Dl (L s)) [] (by simpa using hG)
     simpa[DW] using this
   obtain⟨A,cp,rfl⟩:∃A cp,v=.slice A (Dl (L s)).length cp:=by
     rcases NG.2 with ⟨h,h0⟩ | ⟨g,cap,oL,h,_⟩
     exact⟨none,0,by rw[h,h0]⟩;exact⟨_,cap,h⟩
   have hc:=hv.cell;have f0:=c0.frozen;have f1:=c1.frozen;have f2:=c2.frozen;have d0:=c0.cell;have d1:=c1.cell;have d2:=c2.cell
   gi_wp2
   have hKF:=(((KeepsOthers.setCell W ⟨w.heap.size,0,none⟩ (.slice A (Dl (L s)).length cp)).trans (KeepsOthers.setCell _ ⟨w.heap.size+1,0,none⟩ (.int .i64 0))).trans (KeepsOthers.setCell _ ⟨w.heap.size+1+1,0,none⟩ (.int .i64 0))).same D _ hK rfl;refine⟨by simp,.inl ⟨_,_,rfl,run_takeDeferred hKF,?_⟩⟩;have g0:=N1 (D:=D) (o:=.deferred none) (((c0.set (.slice A (Dl (L s)).length cp)).other (B':=w.heap.size+1) (by omega) (.int .i64 0)).other (B':=w.heap.size+1+1) (by omega) (.int .i64 0)) (by omega);have g1:=N1 (D:=D) (o:=.deferred none) (((c1.other (B':=w.heap.size) (by omega) (.slice A (Dl (L s)).length cp)).set (.int .i64 0)).other (B':=w.heap.size+1+1) (by omega) (.int .i64 0)) (by omega);have g2:=N1 (D:=D) (o:=.deferred none) (((c2.other (B':=w.heap.size) (by omega) (.slice A (Dl (L s)).length cp)).other (B':=w.heap.size+1) (by omega) (.int .i64 0)).set (.int .i64 0)) (by omega);refine⟨.tuple #[.slice A (Dl (L s)).length cp,.int .i64 0,.int .i64 0],?_,?_⟩;have g0':=g0.cell;have g1':=g1.cell;have g2':=g2.cell;simp[results,Tryz.results34,go_sem,g0',g1',g2'];rw[HO.out];refine⟨_,rfl,?_,?_⟩;refine ownsRow_putObj (l:=D) ?_ _ hKF rfl;have r1:=NG.kept (grownBy_setCell' W w.heap.size (.slice A (Dl (L s)).length cp)) (.inr (c0.not_row (by decide) NG).symm);have r2:=r1.kept (grownBy_setCell' _ (w.heap.size+1) (.int .i64 0)) (.inr (c1.not_row (by decide) NG).symm);exact r2.kept (grownBy_setCell' _ (w.heap.size+1+1) (.int .i64 0)) (.inr (c2.not_row (by decide) NG).symm);exact(((hB.setCell (p:=⟨w.heap.size,0,none⟩) (Nat.le_refl _) _).setCell (p:=⟨w.heap.size+1,0,none⟩) (by simp) _).setCell (p:=⟨w.heap.size+1+1,0,none⟩) (by simp;omega) _).trans (belowK_b (w:=w) (Nat.le_refl _) _ D _ _ (by omega) hKF rfl rfl)
 case stop =>
   rintro D c pre W hD ap1 hX hK;obtain⟨⟨rfl,q,x,err,⟨rfl,hG,he⟩,c0,c1,c2⟩,hB⟩:=hX
   have HO:Hid (DW [] (Dl (L s))=([],err,x.2.2)):=by
     refine Lib.hid ?_;obtain⟨r,hr⟩:=ap1;rw[<- hr,List.append_assoc,W5 [] q _ (by simpa using hG)]
     simp only[List.nil_append,List.cons_append,DW];rcases he with ⟨h1,h2⟩ | ⟨h1,h2,h3⟩
     rw[if_pos h1,h2];rw[if_neg (by omega),if_pos h2,h3]
   have d0:=c0.cell;have d1:=c1.cell;have d2:=c2.cell
   gi_wp2
   refine⟨by simp,.inl ⟨_,_,rfl,run_takeDeferred hK,?_⟩⟩;have g0:=N1 (D:=D) (o:=.deferred none) c0 (by omega);have g1:=N1 (D:=D) (o:=.deferred none) c1 (by omega);have g2:=N1 (D:=D) (o:=.deferred none) c2 (by omega);refine⟨.tuple #[.slice none 0 0,.int .i64 err,.int .i64 x.2.2],?_,?_⟩;have g0':=g0.cell;have g1':=g1.cell;have g2':=g2.cell;simp[results,Tryz.results34,go_sem,g0',g1',g2'];rw[HO.out];exact⟨_,rfl,World.ownsRow_nil _ _ _ _,hB.trans (belowK_b (w:=w) (Nat.le_refl _) W D _ _ (by omega) hK rfl rfl)⟩
def afP(s:ByteArray)(w:World)(hT:NB w):Calls Tryz.prog 34 #[.string s] w (dO (Lt (L s)) w):=by
 unfold Lt;have hl:(L s).length=s.size:=by simp
 rw[hl];by_cases h:6000 < s.size;rw[if_pos h];exact ab9 s w h;rw[if_neg h];exact xD s w hT (by omega)
end Go.Proofs.YtpbkhogolfegfaaGreatDoor
namespace LexS
def Sep(u:List UInt8):Prop:=u=[]\/∃c u',u=c::u'/\cin 1 c=true
def WD(c:UInt8)(h:cin 1 c=true):L9 c.toNat=1/\(c=32\/c=9\/c=10\/c=13):=by
 unfold cin at h;rw[bne_iff_ne] at h;by_cases h1:c.toNat=32\/c.toNat=9\/c.toNat=10\/c.toNat=13;refine⟨by unfold L9;rw[if_pos h1],?_⟩;rcases h1 with h1 | h1 | h1 | h1
 exact .inl (UInt8.toNat_inj.1 h1);exact .inr (.inl (UInt8.toNat_inj.1 h1));exact .inr (.inr (.inl (UInt8.toNat_inj.1 h1)));exact .inr (.inr (.inr (UInt8.toNat_inj.1 h1)))
 . exfalso;apply h
   unfold L9;rw[if_neg h1]
   repeat (split;simp)
   simp
def WG(c:UInt8)(m:Nat)(h:cin 1 c=true)(hm:(1 &&& m)=0):cin m c=false:=by
 unfold cin;rw[(WD c h).1,hm];rfl
def mB(u:List UInt8)(m:Nat)(h:Sep u)(hm:(1 &&& m)=0):Be m u=0:=by
 rcases h with rfl | ⟨c,u',rfl,hc⟩
 rfl;rw[Dt,WG c m hc hm];rfl
def agJ(u:List UInt8)(m:Nat)(h:Sep u)(hm:(1 &&& m)=0):GQ m u=false:=by
 rcases h with rfl | ⟨c,u',rfl,hc⟩
 rfl;exact WG c m hc hm
def QK(m:Nat)(t u:List UInt8)(n:Nat)(hm:(1 &&& m)=0)(hu:Sep u)(hn:Be m t<=n):Be m (t.take n++u)=Be m t:=by
 induction t generalizing n with
 | nil=>simpa[Tg] using mB u m hu hm
 | cons c t ih =>
   rw[Dt] at hn ⊢;by_cases hc:cin m c=true;rw[if_pos hc] at hn ⊢;obtain⟨n',rfl⟩:∃n',n=n'+1:=⟨n - 1,by omega⟩;rw[List.take_succ_cons,List.cons_append,Dt,if_pos hc,ih n' (by omega)];rw[if_neg hc];cases n with
   | zero=>simpa using mB u m hu hm
   | succ n=>rw[List.take_succ_cons,List.cons_append,Dt,if_neg hc]
def XL(m:Nat)(t u:List UInt8)(n:Nat)(hn:1<=n)(ht:t≠[]):GQ m (t.take n++u)=GQ m t:=by
 cases t with
 | nil=>exact absurd rfl ht
 | cons c t =>
   obtain⟨n',rfl⟩:∃n',n=n'+1:=⟨n - 1,by omega⟩;rfl
def Oc(t u:List UInt8)(n k:Nat)(h1:k<=n)(h2:k<=t.length):(t.take n++u).drop k=(t.drop k).take (n - k)++u:=by
 rw[List.drop_append_of_le_length (by rw[List.length_take];omega),List.drop_take]
def YJ(t u:List UInt8)(n:Nat)(hu:Sep u)(h:free t=true):free (t.take n++u)=true:=by
 have hfu:free u=true:=by
   rcases hu with rfl | ⟨c,u',rfl,hc⟩
   rfl;unfold free;rw[show GQ 30 (c::u')=false from WG c 30 hc rfl];rcases(WD c hc).2 with h | h | h | h<;>subst h<;>rfl
 cases t with
 | nil=>simpa using hfu
 | cons c t =>
   cases n with
   | zero=>simpa using hfu
   | succ n=>exact h
def aby(t u:List UInt8)(n:Nat)(hu:Sep u)(c:UInt8)(hc:cin 1 c=false)(h:t.head?≠some c):(t.take n++u).head?≠some c:=by
 have hfu:u.head?≠some c:=by
   rcases hu with rfl | ⟨c',u',rfl,hc'⟩
   simp;intro e;simp at e;subst e;rw[hc] at hc';cases hc'
 cases t with
 | nil=>simpa using hfu
 | cons d t =>
   cases n with
   | zero=>simpa using hfu
   | succ n=>exact h
def V5(t u:List UInt8)(n:Nat)(hn:1<=n)(ht:t≠[]):(t.take n++u).head?=t.head?:=by
 cases t with
 | nil=>exact absurd rfl ht
 | cons d t =>
   obtain⟨n',rfl⟩:∃n',n=n'+1:=⟨n - 1,by omega⟩;rfl
def Yw(t u:List UInt8)(n i:Nat)(h1:i < n)(h2:i < t.length):FR (t.take n++u) i=FR t i:=by
 unfold FR;split;rw[List.getElem?_append_left (by rw[List.length_take];omega),List.getElem?_take,if_pos h1];rw[Oc t u n i (by omega) (by omega),XL 8 _ u _ (by omega) (by intro e;have:=congrArg List.length e;simp at this;omega)]
def oM(t u:List UInt8)(n i:Nat)(hu:Sep u)(hi:i=(t.take n).length):FR (t.take n++u) i=false:=by
 subst hi;unfold FR;split;rw[List.getElem?_append_right (Nat.le_refl _),Nat.sub_self];rcases hu with rfl | ⟨c,u',rfl,hc⟩
 rfl;rcases(WD c hc).2 with h | h | h | h<;>subst h<;>rfl
 rw[List.drop_left];exact agJ u 8 hu rfl
def Yx(t:List UInt8):EP t=true↔10<=t.length/\∀i,i < 10->FR t i=true:=by
 unfold EP;simp[List.all_eq_true]
def eK(t u:List UInt8)(n:Nat)(hn:10<=n)(h:EP t=true):EP (t.take n++u)=true:=by
 rw[Yx] at h ⊢;refine⟨by simp;omega,λi hi=>?_⟩;rw[Yw t u n i (by omega) (by omega)];exact h.2 i hi
def jS(t u:List UInt8)(n:Nat)(hu:Sep u)(h:EP t=false):EP (t.take n++u)=false:=by
 rw[Bool.eq_false_iff] at h ⊢;intro h';apply h;rw[Yx] at h' ⊢
 have hlen:10<=(t.take n).length:=by
   rcases Nat.lt_or_ge (t.take n).length 10 with GM | N4
   have:=h'.2 _ GM;rw[oM t u n _ hu rfl] at this;cases this;exact N4
 rw[List.length_take] at hlen;refine⟨by omega,λi hi=>?_⟩;rw[<- Yw t u n i (by omega) (by omega)];exact h'.2 i hi
def eQ(t:List UInt8)(k:Nat)(h:k < t.length):t.drop k≠[]:=by
 intro e;have:=congrArg List.length e;simp at this;omega
def aa3(t u:List UInt8)(n:Nat)(hu:Sep u)(h8:GQ 8 t=true)(h:(GI t).1≠0)(hn:(GI t).2<=n):GI (t.take n++u)=GI t:=by
 have hd:=SF 8 t h8;have hl:=LV 8 t;have hp:=jZ t h8 h;have ht:t≠[]:=by intro e;subst e;simp[GQ] at h8
 have e0:∀d,d=Be 8 t->GI t =
   if EP t then (if free (t.drop 10) then (5,10) else (0,0))
   else if t.head?=some 48/\1 < d then (0,0)
   else if (t.drop d).head?=some 46 then
     (if 10 < d\/GQ 8 (t.drop (d+1))=false\/GQ 8 (t.drop (d+2))=false then (0,0)
      else if free (t.drop (d+3)) then (4,d+3) else (0,0))
   else if 12 < d then (0,0)
   else if free (t.drop d) then (3,d) else (0,0):=by intro d hd;subst hd;rfl
 by_cases h1:EP t=true
 have hf:free (t.drop 10)=true/\GI t=(5,10):=by
   rw[e0 _ rfl,if_pos h1] at h ⊢;by_cases h2:free (t.drop 10)=true;exact⟨h2,by rw[if_pos h2]⟩;rw[if_neg h2] at h;simp at h
 rw[hf.2] at hn ⊢;have hlen:10<=t.length:=((Yx t).1 h1).1;unfold GI;simp only;simp only at hn;rw[eK t u n hn h1,if_pos rfl,Oc t u n 10 hn hlen,YJ _ u _ hu hf.1,if_pos rfl];have h1':EP t=false:=by simpa using h1
 have hv:=jS t u n hu h1';obtain⟨d,hdd⟩:∃d,d=Be 8 t:=⟨_,rfl⟩;have e1:=e0 d hdd;rw[if_neg h1] at e1;by_cases h2:t.head?=some 48/\1 < d;rw[e1,if_pos h2] at h;simp at h;rw[if_neg h2] at e1;by_cases h3:(t.drop d).head?=some 46;rw[if_pos h3] at e1;by_cases h4:10 < d\/GQ 8 (t.drop (d+1))=false\/GQ 8 (t.drop (d+2))=false;rw[e1,if_pos h4] at h;simp at h;rw[if_neg h4] at e1;by_cases h5:free (t.drop (d+3))=true;rw[if_pos h5] at e1;rw[e1] at hn hp ⊢;simp only at hn hp;have hs:Be 8 (t.take n++u)=d:=by rw[QK 8 t u n rfl hu (by omega)];exact hdd.symm
 have i1:GQ 8 ((t.take n++u).drop (d+1))=GQ 8 (t.drop (d+1)):=by
   rw[Oc t u n _ (by omega) (by omega),XL 8 _ u _ (by omega) (eQ t _ (by omega))]
 have i2:GQ 8 ((t.take n++u).drop (d+2))=GQ 8 (t.drop (d+2)):=by
   rw[Oc t u n _ (by omega) (by omega),XL 8 _ u _ (by omega) (eQ t _ (by omega))]
 unfold GI;simp only;rw[hv,if_neg (by simp),hs,V5 t u n (by omega) ht,if_neg h2,Oc t u n d (by omega) (by omega),V5 _ u _ (by omega) (eQ t _ (by omega)),if_pos h3,i1,i2,if_neg h4,Oc t u n (d+3) (by omega) (by omega),YJ _ u _ hu h5,if_pos rfl];rw[e1,if_neg h5] at h;simp at h;rw[if_neg h3] at e1;by_cases h4:12 < d;rw[e1,if_pos h4] at h;simp at h;rw[if_neg h4] at e1;by_cases h5:free (t.drop d)=true;rw[if_pos h5] at e1;rw[e1] at hn hp ⊢;simp only at hn hp;have hs:Be 8 (t.take n++u)=d:=by rw[QK 8 t u n rfl hu (by omega)];exact hdd.symm
 unfold GI;simp only;rw[hv,if_neg (by simp),hs,V5 t u n (by omega) ht,if_neg h2,Oc t u n d (by omega) (by omega),if_neg (aby _ u _ hu 46 rfl h3),if_neg h4,YJ _ u _ hu h5,if_pos rfl];rw[e1,if_neg h5] at h;simp at h
def qO(y t u:List UInt8)(n:Nat)(hu:Sep u)(hy:∀c∈y,cin 1 c=false)(h:y.isPrefixOf (t.take n++u)=true):y.isPrefixOf t=true:=by
 rw[List.isPrefixOf_iff_prefix] at h ⊢;rcases Nat.lt_or_ge (t.take n).length y.length with GM | N4
 exfalso;rcases hu with rfl | ⟨c,u',rfl,hc⟩
 have:=h.length_le;simp only[List.append_nil] at this;omega;have hg:(t.take n++c::u')[(t.take n).length]?=some c:=by rw[List.getElem?_append_right (Nat.le_refl _),Nat.sub_self];rfl
 obtain⟨z,hz⟩:=h;rw[<- hz,List.getElem?_append_left GM] at hg;have:=hy c (List.mem_of_getElem? hg);rw[this] at hc;cases hc;have h1:y <+: t.take n:=List.prefix_of_prefix_length_le h (List.prefix_append _ _) N4;exact h1.trans (List.take_prefix n t)
def ads(t u:List UInt8)(n:Nat)(hu:Sep u)(ys:List (List UInt8))(hy:∀y∈ys,∀c∈y,cin 1 c=false)(h:(Lv t ys).1≠0)(hn:(Lv t ys).2<=n):Lv (t.take n++u) ys=Lv t ys:=by
 induction ys with
 | nil=>rfl
 | cons y ys ih =>
   rw[Lv] at h hn;rw[Lv,Lv];by_cases hp:y.isPrefixOf t=true;rw[if_pos hp] at hn ⊢;simp only at hn;rw[if_pos];rw[List.isPrefixOf_iff_prefix] at hp ⊢
   have:y <+: t.take n:=by
     rw[List.prefix_take_iff];exact⟨hp,hn⟩
   exact this.trans (List.prefix_append _ _);rw[if_neg hp] at h hn ⊢;have:¬y.isPrefixOf (t.take n++u)=true:=λhh=>hp (qO y t u n hu (hy y (by simp)) hh);rw[if_neg this];exact ih (λy' h'=>hy y' (by simp[h'])) h hn
def acI(t u:List UInt8)(n:Nat)(hu:Sep u)(h:(A2 t).1≠0)(hn:(A2 t).2<=n):A2 (t.take n++u)=A2 t:=by
 have hp:=OJ t h;have ht:t≠[]:=by intro e;subst e;simp at hp;omega
 have hi:∀m,GQ m (t.take n++u)=GQ m t:=λm=>XL m t u n (by omega) ht;unfold A2 at h hn ⊢;rw[hi 2,hi 4,hi 8];by_cases h2:GQ 2 t=true;rw[if_pos h2] at h hn ⊢;rw[if_pos h2];by_cases hc:Be 30 t<=16/\Be 26 t=Be 30 t;rw[if_pos hc] at hn ⊢;simp only at hn;rw[QK 30 t u n rfl hu hn,QK 26 t u n rfl hu (by rw[hc.2];exact hn),if_pos hc];rw[if_neg hc] at h;simp at h;rw[if_neg h2] at h hn ⊢;rw[if_neg h2];by_cases h4:GQ 4 t=true;rw[if_pos h4] at h hn ⊢;rw[if_pos h4];by_cases hc:Be 30 t=3/\Be 4 t=Be 30 t;rw[if_pos hc] at hn ⊢;simp only at hn;rw[QK 30 t u n rfl hu hn,QK 4 t u n rfl hu (by rw[hc.2];exact hn),if_pos hc];rw[if_neg hc] at h;simp at h;rw[if_neg h4] at h hn ⊢;rw[if_neg h4];by_cases h8:GQ 8 t=true;rw[if_pos h8] at h hn ⊢;rw[if_pos h8];exact aa3 t u n hu h8 h hn;rw[if_neg h8] at h hn ⊢;rw[if_neg h8];exact ads t u n hu Gj (by decide) h hn
end LexS
namespace LexS
def xN(l:List Tok):(RG l/\DW [] l=(l,0,0))\/∃q x r e,l=q++x::r/\RG q/\((q.length=2000/\e=2)\/(q.length < 2000/\x.1=0/\e=61))/\DW [] l=([],e,x.2.2):=by
 have main:∀(r q:List Tok),RG q->(RG (q++r)/\DW q r=(q++r,0,0))\/∃q' x r' e,q++r=q'++x::r'/\RG q'/\((q'.length=2000/\e=2)\/(q'.length < 2000/\x.1=0/\e=61))/\DW q r=([],e,x.2.2):=by
   intro r
   induction r with
   | nil=>intro q hq;left;simp only[List.append_nil,DW];exact⟨hq,trivial⟩
   | cons x r ih =>
     intro q hq;rw[DW];by_cases h1:q.length=2000;right;rw[if_pos h1];exact⟨q,x,r,2,rfl,hq,.inl ⟨h1,rfl⟩,rfl⟩;rw[if_neg h1];have hq1:=hq.1;by_cases h2:x.1=0;right;rw[if_pos h2];exact⟨q,x,r,61,rfl,hq,.inr ⟨by omega,h2,rfl⟩,rfl⟩;rw[if_neg h2]
     have hg:RG (q++[x]):=by
       refine⟨by rw[List.length_append,List.length_singleton];omega,λy hy=>?_⟩;rcases List.mem_append.1 hy with h | h
       exact hq.2 y h;rw[List.mem_singleton] at h;rw[h];exact h2
     have:=ih (q++[x]) hg;simpa using this
 simpa using main l [] ⟨by simp,by simp⟩
end LexS
namespace LexS
def Vn(s:List UInt8)(h:(Lt s).2.1=0):s.length<=6000/\Dl s=(Lt s).1/\RG (Dl s)/\(Lt s).2.2=0:=by
 unfold Lt at h ⊢;by_cases hs:6000 < s.length;rw[if_pos hs] at h;simp at h;rw[if_neg hs] at h ⊢;rcases xN (Dl s) with ⟨hg,e⟩ | ⟨q,x,r,e,hq,hg,hc,he⟩
 rw[e];exact⟨by omega,rfl,hg,rfl⟩;rw[he] at h;simp only at h;rcases hc with ⟨_,h2⟩ | ⟨_,_,h2⟩<;>omega
def Th(t:List UInt8)(ys:List (List UInt8)):(Lv t ys).1=0\/(Lv t ys).1=6:=by
 induction ys with
 | nil=>left;rfl
 | cons y ys ih=>rw[Lv];split
                 right;rfl;exact ih
def sM(b:Bool)(t u:List UInt8):Gb b (t++10::u)=if Gb b t=t.length then t.length+1+Gb false u else Gb b t:=by
 induction t generalizing b with
 | nil =>
   rw[List.nil_append,Gb];cases b;simp[Gb,cin,L9];simp[Gb]
 | cons c t ih =>
   rw[List.cons_append,Gb]
   conv=>rhs;rw[Gb]
   by_cases hb:b=true;rw[if_pos hb,if_pos hb];by_cases hc:c=10;rw[if_pos hc,if_pos hc,ih false];by_cases h:Gb false t=t.length;rw[if_pos h,if_pos (by simp;omega)];simp;omega;rw[if_neg h,if_neg (by simp;omega)];rw[if_neg hc,if_neg hc,ih true];by_cases h:Gb true t=t.length;rw[if_pos h,if_pos (by simp;omega)];simp;omega;rw[if_neg h,if_neg (by simp;omega)];rw[if_neg hb,if_neg hb];by_cases hw:cin 1 c=true;rw[if_pos hw,if_pos hw,ih false];by_cases h:Gb false t=t.length;rw[if_pos h,if_pos (by simp;omega)];simp;omega;rw[if_neg h,if_neg (by simp;omega)];rw[if_neg hw,if_neg hw]
   have hh:(c=47/\(t++10::u).head?=some 47)↔(c=47/\t.head?=some 47):=by
     cases t with
     | nil=>simp
     | cons d t=>simp
   by_cases hs:c=47/\t.head?=some 47;rw[if_pos hs,if_pos (hh.2 hs),ih true];by_cases h:Gb true t=t.length;rw[if_pos h,if_pos (by simp;omega)];simp;omega;rw[if_neg h,if_neg (by simp;omega)];rw[if_neg hs,if_neg (λx=>hs (hh.1 x)),if_neg (by simp)]
def ada(u:List UInt8):Sep (10::u):=.inr ⟨10,u,rfl,rfl⟩
def SV(d:Nat)(l:List Tok):List Tok:=l.map λx=>(x.1,x.2.1,x.2.2+d)
def iK(d n o:Nat)(t:List UInt8):IG n (o+d) t=SV d (IG n o t):=by
 induction n generalizing o t with
 | zero=>rfl
 | succ n ih =>
   rw[IG,IG];by_cases ht:t=[];rw[if_pos ht,if_pos ht];rfl;rw[if_neg ht,if_neg ht];by_cases hz:(A2 t).1=0;rw[if_pos hz,if_pos hz];rfl;rw[if_neg hz,if_neg hz];unfold SV;rw[List.map_cons];refine congrArg _ ?_;have:=ih (o+(A2 t).2+D2 (t.drop (A2 t).2)) ((t.drop (A2 t).2).drop (D2 (t.drop (A2 t).2)));unfold SV at this;rw[<- this];congr 1;omega
def aY(p b:List UInt8)(k:Nat):DT (p++b) (p.length+k)=SV p.length (DT b k):=by
 unfold DT;rw[<- iK,List.length_append,show p.length+b.length - (p.length+k)=b.length - k from by omega,Nat.add_comm k,List.drop_append];rw[List.drop_eq_nil_of_le (by omega:p.length<=p.length+k),List.nil_append,show p.length+k - p.length=k from by omega]
def iL(a b:List UInt8)(m:Nat):∀k,a.length - k<=m->k < a.length->(∀x∈DT a k,x.1≠0) ->
   DT (a++10::b) k=DT a k++DT (a++10::b) (a.length+1+D2 b):=by
 induction m with
 | zero=>intro k h1 h2;omega
 | succ m ih =>
   intro k h1 h2 hg;by_cases hz:(A2 (a.drop k)).1=0;have:=hg (0,[],k) (by rw[Py a k h2 hz];simp);exact absurd rfl this;have hp:=OJ _ hz;have hpl:=hp.2;rw[List.length_drop] at hpl;have hd:(a++10::b).drop k=a.drop k++10::b:=List.drop_append_of_le_length (by omega)
   have hr:A2 ((a++10::b).drop k)=A2 (a.drop k):=by
     rw[hd];have:=acI (a.drop k) (10::b) (a.drop k).length (ada b) hz hp.2;rwa[List.take_length] at this
   have hkl:k < (a++10::b).length:=by rw[List.length_append];omega
   rw[Ln _ k hkl (by rw[hr];exact hz),hr,Ln a k h2 hz,hd];have htk:(a.drop k++10::b).take (A2 (a.drop k)).2=(a.drop k).take (A2 (a.drop k)).2:=List.take_append_of_le_length hp.2;rw[htk,List.cons_append];refine congrArg _ ?_;have fD:(a++10::b).drop (k+(A2 (a.drop k)).2)=a.drop (k+(A2 (a.drop k)).2)++10::b:=List.drop_append_of_le_length (by omega);have hsl:=Pk (a.drop (k+(A2 (a.drop k)).2));rw[List.length_drop] at hsl;rw[fD,show D2 (a.drop (k+(A2 (a.drop k)).2)++10::b)=_ from sM false _ b,List.length_drop];by_cases he:Gb false (a.drop (k+(A2 (a.drop k)).2))=a.length - (k+(A2 (a.drop k)).2);rw[if_pos he];rw[Px a (k+(A2 (a.drop k)).2+D2 (a.drop (k+(A2 (a.drop k)).2))) (by unfold D2;omega),List.nil_append];congr 1;unfold D2;omega;rw[if_neg he];have GM:k+(A2 (a.drop k)).2+D2 (a.drop (k+(A2 (a.drop k)).2)) < a.length:=by unfold D2 at hsl ⊢;omega
   refine ih _ (by omega) GM (λx hx=>hg x ?_);rw[Ln a k h2 hz];exact List.mem_cons_of_mem _ hx
end LexS
