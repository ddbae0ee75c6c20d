/- Part of a proof: see the last text. -/
import Derived.Test.YtpbkhogolfegfaaGreatDoorPls
set_option linter.unusedVariables false
set_option linter.unusedSimpArgs false
set_option linter.defProp false
noncomputable section
namespace Go.Proofs.YtpbkhogolfegfaaGreatDoor
open AI Go
namespace Mo
set_option maxRecDepth 100000
section
variable {S:Int->Int->Prop} {en en':Int} {w:List Tk} {α β:Type} {b:Bool} {Q:α->α->Prop}
theorem vE{f:Tk->Option Bool}(hf:∀k t a a',f ⟨k,t,a⟩=f ⟨k,t,a'⟩){t t':Tk}(h:TR S t t'):f t=f t':=by
 obtain⟨k,x,a⟩:=t;obtain⟨k',x',a'⟩:=t';obtain⟨h1,h2,_⟩:=h;dsimp only at h1 h2;subst h1 h2;exact hf _ _ _ _
theorem apW{X X':Option β}{K K':β->Rd α}(h:∀a a',X=some a->X'=some a'->RP S en en' w b Q (K a) (K' a')):RP S en en' w b Q (Lh X K) (Lh X' K'):=by
 intro l l1 s s' r r' f e1 e2;obtain⟨a,ha,e1⟩:=JX e1;obtain⟨a',ha',e2⟩:=JX e2;exact h a a' ha ha' f e1 e2
theorem UJ{f:Tk->Option Bool}(hf:∀k t a a',f ⟨k,t,a⟩=f ⟨k,t,a'⟩):RP S en en' w b (TR S) (Mi en f) (Mi en' f):=by
 refine ahD λt t' ht=>?_;rw[vE hf ht];exact Ql λc _=>DG (λ_=>UH (FA ht)) λ_=>NQ ht.2.2
theorem amK{f:Tk->Option Bool}:EO en b (Mi en f):=rR
theorem NS(x:ByteArray):RP S en en' w b (TR S) (JO en x) (JO en' x):=UJ λ_ _ _ _=>rfl
theorem Vj{x:ByteArray}:EO en b (JO en x):=rR
def QA(S:Int->Int->Prop)(p p':Int×Int):Prop:=p.1=p'.1/\S p.2 p'.2
theorem aI:RP S en en' w b (QA S) (Om en) (Om en'):=by
 refine Fy (UJ λ_ _ _ _=>rfl) λt t' h=>?_;rw[h.2.1];exact Ql λn _=>FA ⟨rfl,h.2.2⟩
theorem UI(least:Int):RP S en en' w b (QA S) (Mw en least) (Mw en' least):=by
 refine Fy aI λp p' h=>?_;rw[h.1];exact DG (λ_=>NQ h.2) λ_=>DG (λ_=>NQ h.2) λ_=>FA h
theorem JB{kind n:Int}{name unit:ByteArray}{ks ks':List Nd}{p p':Int}(h:NRs S ks ks')(hp:S p p'):NR S (Ee kind name unit n ks p) (Ee kind name unit n ks' p'):=.mk h hp
theorem aoK{l l' m m':List Nd}(h:NRs S l l')(h2:NRs S m m'):NRs S (l++m) (l'++m'):=by
 induction l generalizing l' with
 | nil=>cases h;exact h2
 | cons x l ih=>cases h with | cons a t=>exact .cons a (ih t)
theorem ZC:RP S en en' w b (NR S) (He en) (He en'):=by
 refine Fy (UI _) λp p' h=>?_;rw[h.1];exact FA (JB .nil h.2)
theorem rQ{read:Rd Nd}(q:Nat)(l:List Nd):EO en false (RL read q l):=by
 cases q with
 | zero=>intro r s h;cases h
 | succ q=>exact nR ON
theorem apY{read kH:Rd Nd}(h:RP S en en' w false (NR S) read kH):∀(q q':Nat) (l l':List Nd),NRs S l l'->RP S en en' w false (NRs S) (RL read q l) (RL kH q' l'):=by
 intro q
 induction q with
 | zero=>intro q' l l' _ _ _ _ _ _ _ _ e1;cases e1
 | succ q ih =>
   intro q' l l' hl;cases q' with
   | zero=>intro _ _ _ _ _ _ _ _ e2;cases e2
   | succ q'=>exact YH (Ko h (λn n' hn=>YG (ih q' _ _ (aoK hl (.cons hn .nil)))) λn=>acL (rQ q _)) (FA hl) ON
theorem amJ{read:Rd Nd}(h:EO en true read):EO en b (S8 read):=Nl h
theorem apX{read kH:Rd Nd}(h:RP S en en' w false (NR S) read kH):RP S en en' w false (NRs S) (S8 read) (S8 kH) :=
 Ko h (λn n' hn=>ahB λq q'=>apY h q q' _ _ (.cons hn .nil)) λn _ _ h=>rQ 1 [n] h
theorem YI:RP S en en' w b (QA S) (O2 en) (O2 en'):=by
 refine Fy (UJ λ_ _ _ _=>rfl) λt t' h=>?_;have:Cw t=Cw t':=by unfold Cw;rw[h.2.1]
 rw[this,h.1];exact Ql λc _=>DG (λ_=>DG (λ_=>FA ⟨rfl,h.2.2⟩) λ_=>NQ h.2.2) λ_=>FA ⟨rfl,h.2.2⟩
theorem acM:EO en b (O2 en):=Nl amK
theorem apZ:RP S en en' w b (·=·) (YN en) (YN en'):=by
 refine Fy (UJ λ_ _ _ _=>rfl) λt t' h=>?_;rw[h.2.1];exact DG (λ_=>FA rfl) λ_=>FA rfl
theorem aK(Ax from_ a:Int):RP S en en' w b (·=·) (Qj en Ax from_ a) (Qj en' Ax from_ a):=by
 refine Fy apZ λs s' hs=>Fy (UI _) λm m' hm=>Fy (NS _) λ_ _ _=>Fy (UI _) λd d' hd=>?_;subst hs;rw[hm.1,hd.1];exact Ql λg _=>Ql λz _=>DG (λ_=>NQ hd.2) λ_=>FA rfl
theorem aJ(Ax from_:Int):RP S en en' w b (·=·) (Ow en Ax from_) (Ow en' Ax from_):=by
 refine Fy (NS _) λ_ _ _=>YH (Fy YI λa a' ha=>?_) (Fy YI λa a' ha=>?_) (Nl acM);rw[ha.1];exact aK _ _ _;rw[ha.1];exact aK _ _ _
theorem ahC(before:List Pt)(Ax:Int):RP S en en' w b (·=·) (TJ en before Ax) (TJ en' before Ax):=by
 refine Fy YI λv v' hv=>?_;rw[hv.1];exact DG (λ_=>DG (λ_=>aJ _ _) λ_=>NQ hv.2) λ_=>Ql λq _=>DG (λ_=>NQ hv.2) λ_=>DG (λ_=>NQ hv.2) λ_=>aJ _ _
theorem yN:∀(q q':Nat) (l:List Pt) (c:Int),RP S en en' w false (·=·) (MW en q l c) (MW en' q' l c):=by
 intro q
 induction q with
 | zero=>intro q' l c _ _ _ _ _ _ _ e1;cases e1
 | succ q ih =>
   intro q' l c;cases q' with
   | zero=>intro _ _ _ _ _ _ _ _ e2;cases e2
   | succ q' =>
     refine Fy (ahC _ _) λp p' hp=>?_;subst hp;exact YG (YH (ih q' _ _) (FA rfl) ON)
theorem yO(c:Int){p p':Int}(hp:S p p'):∀(ps:List Pt) (acc:List Pc),RP S en en' w b (·=·) (M1 c p ps acc) (M1 c p' ps acc):=by
 intro ps
 induction ps with
 | nil=>intro acc;exact FA rfl
 | cons x ps ih=>intro acc;exact Ql λz _=>DG (λ_=>NQ hp) λ_=>DG (λ_=>NQ hp) λ_=>YG (ih _)
inductive ER(S:Int->Int->Prop):Ek->Ek->Prop
 | ex:ER S .ex .ex
 | lv (i:Nat):ER S (.lv i) (.lv i)
 | at_:ER S .at_ .at_
 | wd {t t':Tk}:TR S t t'->ER S (.wd t) (.wd t')
 | ca:ER S .ca .ca
 | ta:ER S .ta .ta
structure Rel(S:Int->Int->Prop)(en en':Int)(w:List Tk)(g g':Ek->Rd Nd)(li li':Rd (List Nd)):Prop where
 rg:∀{e e'},ER S e e'->RP S en en' w false (NR S) (g e) (g' e')
 rli:RP S en en' w false (NRs S) li li'
 eg:∀e,(∀t,e≠.wd t)->EO en true (g e)
 eli:EO en true li
theorem auS{yes aGE:ByteArray->Rd α}{no no':Rd α}(h1:∀x,RP S en en' w b Q (yes x) (aGE x))(h2:RP S en en' w b Q no no')(h3:EO en b no):∀ops:List ByteArray,RP S en en' w b Q (Zz yes no ops) (Zz aGE no' ops)/\EO en b (Zz yes no ops):=by
 intro ops
 induction ops with
 | nil=>exact⟨h2,h3⟩
 | cons x ops ih=>exact⟨YH (h1 x) ih.1 ih.2,nR ih.2⟩
theorem atH{yes:ByteArray->Rd α}{no:Rd α}(h3:EO en b no):∀ops:List ByteArray,EO en b (Zz yes no ops):=by
 intro ops
 induction ops with
 | nil=>exact h3
 | cons x ops ih=>exact nR ih
theorem wI{op:ByteArray}{l l' r r' x x':Nd}(hl:NR S l l')(hr:NR S r r')(h1:A9 op l r=some x)(h2:A9 op l' r'=some x'):NR S x x':=by
 have ha:S l.AU l'.AU:=by cases hl with | mk _ h=>exact h
 unfold A9 at h1 h2;revert h1 h2;cases BS op.data.toList Gf.data.toList
 · cases BS op.data.toList Dk.data.toList
   intro h1 h2;cases h1;cases h2;exact .mk (.cons hl (.cons hr .nil)) ha
   · cases hq:JG op Gf GP 1 with
     | none=>intro h1;cases h1
     | some y =>
       intro h1 h2;cases h1;cases h2;exact .mk (.cons hr (.cons hl .nil)) ha
 · cases hq:JG op Gf GP 1 with
   | none=>intro h1;cases h1
   | some y =>
     intro h1 h2;cases h1;cases h2;exact .mk (.cons hr (.cons hl .nil)) ha
theorem kR{sub aiL:Rd Nd}(h:RP S en en' w false (NR S) sub aiL)(op:ByteArray){l l':Nd}(hl:NR S l l'):RP S en en' w false (NR S) (Ky en sub op l) (Ky en' aiL op l') :=
 Ko (DG (λ_=>ZC) λ_=>h) (λr r' hr=>apW λx x' h1 h2=>FA (wI hl hr h1 h2)) λr=>awD λx=>ON
theorem gZ{ops:List ByteArray}{sub:Rd Nd}(q:Nat)(l:Nd):EO en false (GC en ops sub q l):=by
 cases q with
 | zero=>intro r s h;cases h
 | succ q=>exact atH ON ops
theorem agY(ops:List ByteArray){sub aiL:Rd Nd}(h:RP S en en' w false (NR S) sub aiL):∀(q q':Nat) (l l':Nd),NR S l l'->RP S en en' w false (NR S) (GC en ops sub q l) (GC en' ops aiL q' l'):=by
 intro q
 induction q with
 | zero=>intro q' l l' _ _ _ _ _ _ _ _ e1;cases e1
 | succ q ih =>
   intro q' l l' hl;cases q' with
   | zero=>intro _ _ _ _ _ _ _ _ e2;cases e2
   | succ q'=>exact(auS (λx=>Ko (kR h x hl) (λy y' hy=>ih q' _ _ hy) λy=>gZ q y) (FA hl) ON ops).1
section
variable {g g':Ek->Rd Nd} {li li':Rd (List Nd)} (A:Rel S en en' w g g' li li')
include A
theorem ahA(i:Nat):RP S en en' w false (NR S) (Lx en g i) (Lx en' g' i) :=
 Ko (A.rg (.lv _)) (λN N' h=>ahB λq q'=>agY _ (A.rg (.lv _)) q q' _ _ h) λN _ _ h=>gZ 1 N h
theorem apV:RP S en en' w false (NR S) (V1 en g) (V1 en' g') :=
 Ko (A.rg (.lv _)) (λN N' h=>(auS (λx=>kR (A.rg (.lv _)) x h) (FA h) ON _).1) λN=>atH ON _
theorem azX:RP S en en' w false (NR S) (WA en g) (WA en' g'):=by
 intro l l1 s s' r r' f e1 e2;cases f with
 | nil =>
   by_cases hw:w=[];subst hw;exact A.rg (.lv 3) .nil e1 e2;exact .inr ⟨hw,((A.eg (.lv 3) (by intro t h;cases h)) e1).Y7⟩
 | cons ht f =>
   rename_i t t' l l';unfold WA at e1 e2
   have:Ji SG (t::l)=Ji SG (t'::l'++w):=by
     show BS t.text.data.toList _=BS t'.text.data.toList _;rw[ht.2.1]
   rw[<- this] at e2;cases hx:Ji SG (t::l) with
   | true =>
     rw[hx] at e1 e2;exact Fy (NS _) (λt t' ht=>Ko (A.rg (.lv 2)) (λk k' hk=>FA (JB (.cons hk .nil) ht.2.2)) λk=>ON) (.cons ht f) e1 e2
   | false=>rw[hx] at e1 e2;exact A.rg (.lv 3) (.cons ht f) e1 e2
theorem apU:RP S en en' w false (NR S) (XJ en g li) (XJ en' g' li'):=by
 refine ahD λt t' ht=>UH (Fy (NS _) λ_ _ _=>Ko (A.rg .ex) (λa a' ha=>Fy (NS _) λ_ _ _=>Ko A.rli (λl l' hl=>YG (Fy (NS _) λ_ _ _=>?_)) λ_=>acL (Nl Vj)) λ_=>Nl Vj);rw[ht.2.1];exact FA (JB (.cons ha hl) ht.2.2)
theorem ahE:RP S en en' w false (NR S) (YT en g) (YT en' g'):=by
 refine Fy (NS _) λt t' ht=>Fy (NS _) λ_ _ _=>Ko (A.rg .ex) (λa a' ha=>Fy (NS _) λ_ _ _=>Ko (ahB λq q'=>yN q q' _ _) (λl l' hl=>?_) λ_=>Nl Vj) λ_=>Nl Vj;subst hl;refine Fy (NS _) λe e' he=>YG (Fy (yO _ he.2.2 _ _) λr r' hr=>?_);subst hr;exact FA (.mk (.cons ha .nil) ht.2.2)
theorem aqA{t t':Tk}(ht:TR S t t'):RP S en en' w false (NR S) (Tf en g t) (Tf en' g' t'):=by
 unfold Tf;rw[ht.2.1]
 have hd:RP S en en' w false (NR S) (V2 t) (V2 t'):=by
   unfold V2;rw[ht.2.1];exact UH (FA (JB .nil ht.2.2))
 refine DG (λ_=>UH (FA (JB .nil ht.2.2))) λ_=>DG (λ_=>UH (FA (JB .nil ht.2.2))) λ_=>DG (λ_=>UH (Fy (UI _) λp p' hp=>?_)) λ_ =>
   DG (λ_=>hd) λ_=>DG (λ_=>hd) λ_=>DG (λ_=>hd) λ_=>DG (λ_=>hd) λ_=>DG (λ_=>A.rg .ca) λ_=>DG (λ_=>A.rg .ca) λ_=>DG (λ_=>A.rg .ta) λ_ =>
   DG (λ_=>UH (Ko (A.rg .ex) (λa a' ha=>Fy (NS _) λ_ _ _=>FA ha) λ_=>Nl Vj)) λ_=>NQ ht.2.2
 rw[hp.1];exact FA (JB .nil ht.2.2)
theorem apT:RP S en en' w false (NR S) (V0 en g) (V0 en' g'):=by
 refine ahD λt t' ht=>?_;have h6:BT t=BT t':=vE (λ_ _ _ _=>rfl) ht;rw[ht.1,h6,ht.2.1];refine DG (λ_=>Fy aI λn n' hn=>?_) λ_=>DG (λ_=>UH (Fy (UJ λ_ _ _ _=>rfl) λa a' ha=>?_)) λ_=>Ql λc _=>DG (λ_=>UH (FA (JB .nil ht.2.2))) λ_=>A.rg (.wd ht);rw[hn.1];exact YH (FA (JB .nil hn.2)) (FA (JB .nil hn.2)) ON;have:Cw a=Cw a':=by unfold Cw;rw[ha.2.1]
 rw[this];exact Ql λc _=>FA (JB .nil ht.2.2)
end
theorem apJ:∀q q':Nat,Rel S en en' w (gP en q).1 (gP en' q').1 (gP en q).2 (gP en' q').2:=by
 intro q
 induction q with
 | zero =>
   intro q';constructor
   case rg=>intro _ _ _ _ _ _ _ _ _ _ e1;cases e1
   case rli=>intro _ _ _ _ _ _ _ e1;cases e1
   case eg=>intro _ _ _ _ e1;cases e1
   case eli=>intro _ _ e1;cases e1
 | succ q ih =>
   intro q'
   have eg:∀e,(∀t,e≠.wd t)->EO en true ((gP en (q+1)).1 e):=by
     have A:=ih 0;intro e he;show EO en true (QS en (gP en q).1 (gP en q).2 e);unfold QS;split;exact A.eg _ (by intro t h;cases h);intro r s h;exact A.eg (.lv 3) (by intro t h;cases h) h;exact Nl (A.eg _ (by intro t h;cases h));exact A.eg _ (by intro t h;cases h);exact Nl (A.eg _ (by intro t h;cases h));exact rR;rename_i t;exact absurd rfl (he t);exact rR;exact Nl Vj
   have eli:EO en true (gP en (q+1)).2:=amJ ((ih 0).eg .ex (by intro t h;cases h));cases q' with
   | zero =>
     constructor
     case rg=>intro _ _ _ _ _ _ _ _ _ _ _ e2;cases e2
     case rli=>intro _ _ _ _ _ _ _ _ e2;cases e2
     case eg=>exact eg
     case eli=>exact eli
   | succ q' =>
     have A:=ih q';refine⟨λ{e e'} he=>?_,apX (A.rg .ex),eg,eli⟩;show RP S en en' w false (NR S) (QS en (gP en q).1 (gP en q).2 e) (QS en' (gP en' q').1 (gP en' q').2 e');cases he with
     | ex=>exact A.rg (.lv 0)
     | at_=>exact apT A
     | wd ht=>exact aqA A ht
     | ca=>exact apU A
     | ta=>exact ahE A
     | lv i =>
       unfold QS;split;rename_i h;cases h;exact azX A;exact apV A;exact A.rg .at_;rename_i h;cases h;exact ahA A _
       all_goals (rename_i h;cases h)
end
end Mo
end Go.Proofs.YtpbkhogolfegfaaGreatDoor
namespace Go.Proofs.YtpbkhogolfegfaaGreatDoor
open AI Go
namespace Mo
set_option maxRecDepth 100000
def eZ{x:Int}(h:-9223372036854775808<=x/\x<=9223372036854775807):IntKind.i64.wrap x=x:=by
 unfold IntKind.wrap;simp[IntKind.bits,IntKind.signed];omega
def XQ{a b:Int}(ha:0<=a)(hb:0 < b)(h:a<=9223372036854775807):SB a b=some (a / b):=by
 unfold SB aaF;rw[if_neg (by omega),Int.tdiv_eq_ediv_of_nonneg ha,eZ];exact⟨by have:=Int.ediv_nonneg ha (Int.le_of_lt hb);omega,by have:=Int.ediv_le_self b ha;omega⟩
structure Gd(t:Tk):Prop where
 num:t.kind=3->∃z,Ro t.text=some (z,())/\0<=z/\z<=999999999999
 rM:t.kind=3\/t.kind=4->∃z,Cw t=some z/\0<=z/\z<=999999999999
 date:t.kind=5->∃d e,Fo t.text=some (d,e)/\(e=0->0<=d/\d<=36524)
 len:t.text.data.toList.length<=6000
def Gl(l:List Tk):Prop:=∀t∈l,Gd t
section
variable {α β:Type} {n:Nat} {st:Bool} {P:α->Prop} {P2:β->Prop}
def UT(n:Nat)(st:Bool)(P:α->Prop)(m:Rd α):Prop:=∀⦃l:List Tk⦄,Gl l->l.length<=n->∃r s,m l=some (r,s)/\(∃k,s=l.drop k)/\∀a,r=.inl a->P a/\(st=true->s.length < l.length)
def Gl.drop{l:List Tk}(h:Gl l)(k:Nat):Gl (l.drop k):=λt ht=>h t (List.mem_of_mem_drop ht)
def XT{l:List Tk}{k j:Nat}:(l.drop k).drop j=l.drop (k+j):=by rw[List.drop_drop]
def By{m:Rd α}{K:α->Rd β}(h1:UT n true P m)(h2:∀a,P a->1<=n->UT (n - 1) false P2 (K a)):UT n st P2 (Cu m K):=by
 intro l hg hl;obtain⟨r,s,e,⟨k,rfl⟩,hr⟩:=h1 hg hl;cases r with
 | inr d=>exact⟨.inr d,_,by unfold Cu;rw[e],⟨k,rfl⟩,λa h=>by cases h⟩
 | inl a =>
   obtain⟨pa,hs⟩:=hr a rfl;have hs:=hs rfl;obtain⟨r2,s2,e2,⟨j,rfl⟩,hr2⟩:=h2 a pa (by omega) (hg.drop k) (by omega);refine⟨r2,_,by unfold Cu;rw[e];exact e2,⟨k+j,XT⟩,λb hb=>⟨(hr2 b hb).1,λ_=>?_⟩⟩;simp only[List.length_drop] at hs ⊢;omega
def arQ{m:Rd α}{K:α->Rd β}(h1:UT n false P m)(h2:∀a,P a->UT n st P2 (K a)):UT n st P2 (Cu m K):=by
 intro l hg hl;obtain⟨r,s,e,⟨k,rfl⟩,hr⟩:=h1 hg hl;cases r with
 | inr d=>exact⟨.inr d,_,by unfold Cu;rw[e],⟨k,rfl⟩,λa h=>by cases h⟩
 | inl a =>
   obtain⟨pa,_⟩:=hr a rfl;obtain⟨r2,s2,e2,⟨j,rfl⟩,hr2⟩:=h2 a pa (hg.drop k) (by rw[List.length_drop];omega);refine⟨r2,_,by unfold Cu;rw[e];exact e2,⟨k+j,XT⟩,λb hb=>⟨(hr2 b hb).1,λh=>?_⟩⟩;have:=(hr2 b hb).2 h;simp only[List.length_drop] at this ⊢;omega
def UT.Y7{m:Rd α}(h:UT n st P m):UT n false P m:=λl hg hl=>by
 obtain⟨r,s,e,h1,h2⟩:=h hg hl;exact⟨r,s,e,h1,λa ha=>⟨(h2 a ha).1,λh=>by cases h⟩⟩
def UT.imp{Q:α->Prop}{m:Rd α}(h:UT n st P m)(f:∀a,P a->Q a):UT n st Q m:=λl hg hl=>by
 obtain⟨r,s,e,h1,h2⟩:=h hg hl;exact⟨r,s,e,h1,λa ha=>⟨f a (h2 a ha).1,(h2 a ha).2⟩⟩
def UT.le{n':Nat}{m:Rd α}(h:UT n st P m)(hn:n'<=n):UT n' st P m:=λ_ hg hl=>h hg (by omega)
def DQ{a:α}(h:P a):UT n false P (Gj a):=λl _ _=>⟨.inl a,l,rfl,⟨0,rfl⟩,λb hb=>by cases hb;exact⟨h,λh=>by cases h⟩⟩
def I6{e p:Int}:UT n st P (Mv e p):=λl _ _=>⟨_,l,rfl,⟨0,rfl⟩,λb hb=>by cases hb⟩
def NV{X:Option β}{K:β->Rd α}(h:∃b,X=some b/\UT n st P (K b)):UT n st P (Lh X K):=by
 obtain⟨b,rfl,h⟩:=h;exact h
def Y3{en:Int}{K:Tk->Rd α}(h:∀t,Gd t->∀s,Gl (t::s)->(t::s).length<=n->∃r s',K t (t::s)=some (r,s')/\(∃k,s'=(t::s).drop k)/\∀a,r=.inl a->P a/\(st=true->s'.length < (t::s).length)):UT n st P (Wj en K):=by
 intro l hg hl;cases l with
 | nil=>exact⟨_,[],rfl,⟨0,rfl⟩,λa h=>by cases h⟩
 | cons t s=>exact h t (hg t (List.mem_cons_self ..)) s hg hl
def RX{K:Rd α}(h:UT (n - 1) false P K){t:Tk}{s:List Tk}(hg:Gl (t::s))(hl:(t::s).length<=n) :
   ∃r s',Xe K (t::s)=some (r,s')/\(∃k,s'=(t::s).drop k)/\∀a,r=.inl a->P a/\(st=true->s'.length < (t::s).length):=by
 have hl':s.length+1<=n:=hl;obtain⟨r,s2,e,⟨k,rfl⟩,hr⟩:=h (l:=s) (λt ht=>hg t (List.mem_cons_of_mem _ ht)) (by omega);refine⟨r,_,e,⟨k+1,rfl⟩,λa ha=>⟨(hr a ha).1,λ_=>?_⟩⟩;rw[List.length_drop,List.length_cons];omega
def VQ{x:ByteArray}{A B:Rd α}(h1:1<=n->UT (n - 1) false P A)(h2:UT n st P B):UT n st P (N9 x A B):=by
 intro l hg hl;unfold N9;cases hx:Ji x l with
 | false=>exact h2 hg hl
 | true =>
   cases l with
   | nil=>cases hx
   | cons t s=>exact RX (h1 (by simp only[List.length_cons] at hl;omega)) hg hl
def VP{c:Nat}{m:Rd α}(hc:c<=100000000)(h:UT n st P m):UT n st P (PI c m):=by
 intro l hg hl;unfold PI;rw[EK hc];exact h hg hl
def Ga{c:Bool}{A B:Rd α}(h1:c=true->UT n st P A)(h2:c=false->UT n st P B):UT n st P (cond c A B):=by
 cases c;exact h2 rfl;exact h1 rfl
end
section
variable {n:Nat} {en:Int} {st:Bool}
def M6{f:Tk->Option Bool}(hf:∀t,∃b,f t=some b):UT n st (λt=>Gd t/\f t=some true) (Mi en f):=by
 refine Y3 λt hg s Z4 hl=>?_;obtain⟨b,hb⟩:=hf t;unfold Lh;rw[hb];cases b with
 | true=>exact RX (DQ ⟨hg,hb⟩) Z4 hl
 | false=>exact I6 Z4 hl
def DX{c:Bool}{α:Type}{x y:Option α}(h1:∃z,x=some z)(h2:∃z,y=some z):∃z,cond c x y=some z:=by cases c;exact h2;exact h1
def Fa(x:ByteArray):UT n st (λ_=>True) (JO en x):=(M6 λt=>DX ⟨_,rfl⟩ ⟨_,rfl⟩).imp λ_ _=>trivial
def Wb(t:Tk):∃b,BT t=some b:=by
 unfold BT;rw[aeZ];exact DX (DX ⟨_,rfl⟩ ⟨_,rfl⟩) ⟨_,rfl⟩
def RU(x:ByteArray):∃b,Ep x=some b:=DX ⟨_,rfl⟩ (DX ⟨_,rfl⟩ (DX ⟨_,rfl⟩ (DX ⟨_,rfl⟩ ⟨_,rfl⟩)))
def Xm:UT n st (λt=>Gd t/\BT t=some true) (tO en):=M6 Wb
def vL:UT n st (λt=>Gd t/\E8 t=some true) (ajH en):=M6 λt=>DX ⟨_,rfl⟩ (DX ⟨_,rfl⟩ (DX ⟨_,rfl⟩ (DX ⟨_,rfl⟩ ⟨_,rfl⟩)))
def vK:UT n st (λt=>Gd t/\BW t=some true) (uL en):=M6 λt=>by
 unfold BW;obtain⟨b,hb⟩:=RU t.text;rw[hb];exact DX ⟨_,rfl⟩ ⟨_,rfl⟩
def Qa{a b:Int}{x:Bool}(h:cond (Dr a b) (some true) (some false)=some x):x=Dr a b:=by
 revert h;cases Dr a b<;>exact λh=>(Option.some.inj h).symm
def aY:UT n st (λp:Int×Int=>0<=p.1/\p.1<=999999999999) (Om en):=by
 refine By (M6 λt=>DX ⟨_,rfl⟩ ⟨_,rfl⟩) λt ht _=>?_;obtain⟨z,h1,h2⟩:=ht.1.num (FG (Qa ht.2).symm);exact NV ⟨_,h1,DQ h2⟩
def NW(least:Int):UT n st (λp:Int×Int=>least<=p.1/\p.1<=1000000) (Mw en least) :=
 By aY λp hp _=>Ga (λ_=>I6) λh1=>Ga (λ_=>I6) λh2=>DQ ⟨KA h1,KA h2⟩
def Xl(least:Int):UT n st (λd:Int=>least<=d/\0<=d/\d<=36524) (V3 en least):=by
 refine By (M6 λt=>DX ⟨_,rfl⟩ ⟨_,rfl⟩) λt ht _=>?_;obtain⟨d,e,h1,h2⟩:=ht.1.date (FG (Qa ht.2).symm);exact NV ⟨_,h1,Ga (λh=>Ga (λ_=>I6) λh3=>DQ ⟨KA h3,h2 (FG h)⟩) λ_=>I6⟩
def vH:UT n st (λ_=>True) (iN en) :=
 By (Fa _) λ_ _ _=>By (NW _) λ_ _ _=>By (Fa _) λ_ _ _=>By (Xl _) λ_ _ _ =>
   VQ (λ_=>By (Xl _) λ_ _ _=>By (Fa _) λ_ _ _=>By (Xl _) λ_ _ _=>DQ trivial) (By (Fa _) λ_ _ _=>By (Xl _) λ_ _ _=>DQ trivial)
def vG:UT n st (λ_=>True) (V4 en):=by
 refine Y3 λt hg s Z4 hl=>RX ((By Xm λm _ _=>By (Fa _) λ_ _ _=>By vL λu _ _=>Ga (λ_=>By vK λr _ _=>?_) λ_=>By (Fa _) λ_ _ _=>DQ trivial)) Z4 hl;obtain⟨b,hb⟩:=RU r.text;exact NV ⟨b,hb,By (Fa _) λ_ _ _=>DQ trivial⟩
def Tb:UT n st (λ_=>True) (He en):=By (NW _) λ_ _ _=>DQ trivial
def Y4:UT n st (λp:Int×Int=>0<=p.1/\p.1<=999999999999) (O2 en):=by
 refine By (M6 λt=>DX ⟨_,rfl⟩ (DX ⟨_,rfl⟩ ⟨_,rfl⟩)) λt ht _=>?_
 have hk:t.kind=3\/t.kind=4:=by
   have h:=ht.2;unfold Db at h;cases h4:Dr t.kind 4 with
   | true=>exact .inr (FG h4)
   | false =>
     rw[h4] at h;exact .inl (FG (Qa h).symm)
 obtain⟨z,h1,h2⟩:=ht.1.rM hk;exact NV ⟨_,h1,Ga (λ_=>Ga (λ_=>DQ h2) λ_=>I6) λ_=>DQ h2⟩
def arU:UT n st (λs:Int=>s=1\/s=-1) (YN en) :=
 By (M6 λt=>DX ⟨_,rfl⟩ (DX ⟨_,rfl⟩ ⟨_,rfl⟩)) λt _ _=>Ga (λ_=>DQ (.inr rfl)) λ_=>DQ (.inl rfl)
def PcP(x:Pt×Int):Prop:=1<=x.2/\x.2<=1000000/\1<=x.1.den/\x.1.den<=1000000/\-1000000<=x.1.num/\x.1.num<=1000000
def bA{Ax:Int}(hc:1<=Ax/\Ax<=1000000)(from_ a:Int):UT n st PcP (Qj en Ax from_ a):=by
 refine By arU λs hs _=>By (NW _) λm hm _=>By (Fa _) λ_ _ _=>By (NW _) λd hd _=>?_;obtain⟨g,h1,h2,⟨c1,h3⟩,⟨c2,h4⟩⟩:=adF hc.1 (show(0:Int)<=d.1 by omega);refine NV ⟨g,h1,NV ⟨_,XQ (by omega) (by omega) (by omega),Ga (λ_=>I6) λh5=>DQ ?_⟩⟩;have hq:Ax / g=c1:=by rw[h3,Int.mul_ediv_cancel_left _ (by omega)]
 have hc1:1<=c1:=by
   by_cases h:1<=c1;exact h;have:=Int.mul_nonpos_of_nonneg_of_nonpos (show 0<=g by omega) (show c1<=0 by omega);omega
 have hc2:c1<=1000000:=by
   have:=Int.mul_le_mul_of_nonneg_right h2 (show 0<=c1 by omega);omega
 have hw:BQ (Ax / g) d.1=c1*d.1:=by
   rw[hq];have a1:=Int.mul_le_mul hc2 hd.2 (by omega) (by omega);have a2:=Int.mul_nonneg (show 0<=c1 by omega) (show 0<=d.1 by omega);exact IR (by omega)
 have h6:=KA h5
 have a1:1<=c1*d.1:=by
   have:=Int.mul_le_mul_of_nonneg_right hc1 (show 0<=d.1 by omega);omega
 refine⟨by rw[hw];exact a1,h6,hd.1,hd.2,?_⟩;dsimp only;rcases hs with rfl | rfl
 rw[IR (by omega)];omega;rw[IR (by omega)];omega
def aZ{Ax:Int}(hc:1<=Ax/\Ax<=1000000)(from_:Int):UT n st PcP (Ow en Ax from_) :=
 By (Fa _) λ_ _ _=>VQ (λ_=>By Y4 λ_ _ _=>bA hc _ _) (By Y4 λ_ _ _=>bA hc _ _)
def ajK(before:List Pt){Ax:Int}(hc:1<=Ax/\Ax<=1000000):UT n st (λx=>PcP x/\before.length<=63) (TJ en before Ax):=by
 refine By Y4 λv hv _=>Ga (λh=>Ga (λ_=>(aZ hc _).imp λx hx=>⟨hx,?_⟩) λ_=>I6) λh=>?_;have:=FG h;omega;have hb:before.length≠0:=λe=>ZW h (by rw[e];rfl);refine NV ⟨before[before.length - 1]'(by omega),List.getElem?_eq_getElem (by omega),Ga (λ_=>I6) λ_=>Ga (λ_=>I6) λh2=>(aZ hc _).imp λx hx=>⟨hx,?_⟩⟩;have:=afC h2;omega
end
end Mo
end Go.Proofs.YtpbkhogolfegfaaGreatDoor
namespace Go.Proofs.YtpbkhogolfegfaaGreatDoor
open AI Go
namespace Mo
set_option maxRecDepth 100000
section
variable {α β:Type} {n:Nat} {en:Int} {st:Bool} {P:α->Prop}
abbrev TT{α:Type}:α->Prop:=λ_=>True
theorem lM{K:Nat->Rd α}(h:∀k,k<=n->UT k st P (K (k+1))):UT n st P (λs=>K (s.length+1) s):=λl hg hl=>h l.length hl hg (Nat.le_refl _)
theorem arT{read:Rd Nd}:∀(q n:Nat) (ns:List Nd),n < q->ns.length+n<=100000->UT n true TT read->UT n false (λr:List Nd=>r.length<=ns.length+n) (RL read q ns):=by
 intro q
 induction q with
 | zero=>intro n ns h;omega
 | succ q ih =>
   intro n ns hn hl hr;refine VQ (λh1=>By (hr.le (by omega)) λx _ h2=>VP (by omega) ?_) (DQ (by omega));refine(ih (n - 1 - 1) (ns++[x]) (by omega) (by simp only[List.length_append,List.length_singleton];omega) (hr.le (by omega))).imp λr hr=>?_;simp only[List.length_append,List.length_singleton] at hr;omega
theorem vJ{read:Rd Nd}(hn:n<=10000)(hr:UT n true TT read):UT n st (λr:List Nd=>r.length<=n+1) (S8 read) :=
 By hr λx _ h1=>lM (K:=λq=>RL read q [x]) λk hk=>(arT (k+1) k [x] (by omega) (by simp only[List.length_singleton];omega) (hr.le (by omega))).imp λr h=>by simp only[List.length_singleton] at h;omega
theorem apL:∃y,JG Gf Gf GP 1=some y:=⟨_,rfl⟩
theorem apK:∃y,JG Dk Gf GP 1=some y:=⟨_,rfl⟩
theorem gH(op:ByteArray)(l r:Nd):∃x,A9 op l r=some x:=by
 unfold A9;cases h1:BS op.data.toList Gf.data.toList with
 | true =>
   obtain⟨y,hy⟩:=apL;rw[MB h1,hy];exact⟨_,rfl⟩
 | false =>
   cases h2:BS op.data.toList Dk.data.toList with
   | true =>
     obtain⟨y,hy⟩:=apK;rw[MB h2,hy];exact⟨_,rfl⟩
   | false=>exact⟨_,rfl⟩
theorem avB{yes:ByteArray->Rd α}{no:Rd α}(h1:∀x,1<=n->UT (n - 1) false P (yes x))(h2:UT n st P no):∀ops:List ByteArray,UT n st P (Zz yes no ops):=by
 intro ops
 induction ops with
 | nil=>exact h2
 | cons x ops ih=>exact VQ (h1 x) ih
theorem lO{sub:Rd Nd}(h:UT n true TT sub)(op:ByteArray)(l:Nd):UT n st TT (Ky en sub op l) :=
 By (Ga (λ_=>Tb) λ_=>h) λr _ _=>by
   obtain⟨x,hx⟩:=gH op l r;exact NV ⟨x,hx,DQ trivial⟩
theorem ajJ{ops:List ByteArray}{sub:Rd Nd}:∀(q n:Nat) (l:Nd),n < q->UT n true TT sub->UT n false TT (GC en ops sub q l):=by
 intro q
 induction q with
 | zero=>intro n l h;omega
 | succ q ih =>
   intro n l hn hs;exact avB (λx h1=>By (lO (hs.le (by omega)) x l) λb _ h2=>ih (n - 1 - 1) b (by omega) (hs.le (by omega))) (DQ trivial) ops
def PsP(r:List Pt×Int):Prop:=r.1.length<=64/\1<=r.2/\r.2<=1000000/\∀x∈r.1,1<=x.den/\-1000000<=x.num/\x.num<=1000000
theorem zX:∀(q n:Nat) (ps:List Pt) (c:Int),n < q->1<=c->c<=1000000->(∀x∈ps,1<=x.den/\-1000000<=x.num/\x.num<=1000000)->UT n st PsP (MW en q ps c):=by
 intro q
 induction q generalizing st with
 | zero=>intro n ps c h;omega
 | succ q ih =>
   intro n ps c hn h1 h2 h3;refine By (ajK ps ⟨h1,h2⟩) λx hx h4=>?_;obtain⟨⟨a1,a2,a3,a4,a5,a6⟩,hb⟩:=hx
   have h5:∀y∈ps++[x.1],1<=y.den/\-1000000<=y.num/\y.num<=1000000:=by
     intro y hy;rcases List.mem_append.1 hy with hy | hy
     exact h3 y hy;rw[List.mem_singleton.1 hy];exact⟨a3,a5,a6⟩
   exact VP (by omega) (VQ (λh6=>ih (n - 1 - 1) _ _ (by omega) a1 a2 h5) (DQ ⟨by simp only[List.length_append,List.length_singleton];omega,a1,a2,h5⟩))
theorem zZ{c:Int}(hc:1<=c/\c<=1000000)(p:Int):∀(ps:List Pt) (acc:List Pc),(∀x∈ps,1<=x.den)->acc.length+ps.length<=1000->UT n false TT (M1 c p ps acc):=by
 intro ps
 induction ps with
 | nil=>intro acc _ _;exact DQ trivial
 | cons x ps ih =>
   intro acc h1 h2;have:=h1 x (List.mem_cons_self ..);simp only[List.length_cons] at h2;exact NV ⟨_,XQ (by omega) (by omega) (by omega),Ga (λ_=>I6) λ_=>Ga (λ_=>I6) λ_=>VP (by omega) (ih _ (λy hy=>h1 y (List.mem_cons_of_mem _ hy)) (by simp only[List.length_append,List.length_singleton];omega))⟩
def UW(n:Nat)(m:Rd Nd):Prop:=∀t s,Gl (t::s)->(t::s).length<=n->∃r s',m (t::s)=some (r,s')/\(∃k,s'=(t::s).drop k)/\∀a,r=.inl a->True/\(true=true->s'.length < (t::s).length)
structure Tot(q:Nat)(g:Ek->Rd Nd)(li:Rd (List Nd)):Prop where
 ex:∀n,n<=10000->10*n+11<=q->UT n true TT (g .ex)
 lv:∀i n,i<=6->n<=10000->10*n+10 - i<=q->UT n true TT (g (.lv i))
 at_:∀n,n<=10000->10*n+3<=q->UT n true TT (g .at_)
 wd:∀t n,n<=10000->10*n+2<=q->UW n (g (.wd t))
 ca:∀n,n<=10000->10*n+1<=q->UT n true TT (g .ca)
 ta:∀n,n<=10000->10*n+1<=q->UT n true TT (g .ta)
 li:∀n,n<=10000->10*n+12<=q->UT n true (λr:List Nd=>r.length<=n+1) li
section
variable {q:Nat} {g:Ek->Rd Nd} {li:Rd (List Nd)} (A:Tot q g li)
include A
theorem UU{i:Nat}(hi:i<=5)(hn:n<=10000)(hq:10*n+9 - i<=q):UT n true TT (Lx en g i) :=
 By (A.lv (i+1) n (by omega) hn (by omega)) λl _ h1=>lM (K:=λq=>GC en (opsOf i) (g (.lv (i+1))) q l) λk hk=>ajJ (k+1) k l (by omega) (A.lv (i+1) k (by omega) (by omega) (by omega))
theorem arS(hn:n<=10000)(hq:10*n+6<=q):UT n true TT (V1 en g) :=
 By (A.lv 4 n (by omega) hn (by omega)) λl _ h1=>avB (λx h2=>lO (A.lv 4 _ (by omega) (by omega) (by omega)) x l) (DQ trivial) _
theorem aAW(hn:n<=10000)(hq:10*n+7<=q):UT n true TT (WA en g):=by
 intro l hg hl;unfold WA;cases hx:Ji SG l with
 | false=>exact A.lv 3 n (by omega) hn (by omega) hg hl
 | true=>exact By (Fa _) (λt _ h1=>By (A.lv 2 (n - 1) (by omega) (by omega) (by omega)) λk _ _=>DQ trivial) hg hl
theorem arR(hn:n<=10000)(hq:10*n<=q):UT n true TT (XJ en g li):=by
 refine Y3 λt hg s Z4 hl=>RX (By (Fa _) λ_ _ h1=>By (A.ex _ (by omega) (by omega)) λa _ h2=>By (Fa _) λ_ _ h3=>By (A.li _ (by omega) (by omega)) λl hl h4=>VP (by omega) (By (Fa _) λ_ _ _=>DQ trivial)) Z4 hl
theorem ajL(hn:n<=10000)(hq:10*n<=q):UT n true TT (YT en g):=by
 refine By (Fa _) λt _ h1=>By (Fa _) λ_ _ h2=>By (A.ex _ (by omega) (by omega)) λa _ h3=>By (Fa _) λ_ _ h4=>By (P:=PsP) (lM (K:=λq=>MW en q [] 1) λk hk=>zX (k+1) k [] 1 (by omega) (by omega) (by omega) (λx hx=>by cases hx)) λr hr h5=>By (Fa _) λe _ h6=>?_;exact VP (by have:=hr.1;omega) (arQ (zZ ⟨hr.2.1,hr.2.2.1⟩ _ _ _ (λx hx=>(hr.2.2.2 x hx).1) (by have:=hr.1;simp only[List.length_nil];omega)) λ_ _=>DQ trivial)
theorem arV(t:Tk)(hn:n<=10000)(hq:10*n+1<=q):UW n (Tf en g t):=by
 intro t' s hg hl;have one:∀{x:Nd},∃r s',Xe (Gj x) (t'::s)=some (r,s')/\(∃k,s'=(t'::s).drop k)/\∀a,r=.inl a->True/\(true=true->s'.length < (t'::s).length):=λ{x}=>RX (DQ trivial) hg hl;have h1:1<=n:=by simp only[List.length_cons] at hl;omega
 unfold Tf;cases BS t.text.data.toList YY.data.toList;rotate_left;exact one;cases BS t.text.data.toList Tq.data.toList;rotate_left;exact one;cases BS t.text.data.toList bR.data.toList;rotate_left;exact RX (By (NW _) λ_ _ _=>DQ trivial) hg hl;cases BS t.text.data.toList Lb.data.toList;rotate_left;exact one;cases BS t.text.data.toList cE.data.toList;rotate_left;exact one;cases BS t.text.data.toList Qc.data.toList;rotate_left;exact one;cases BS t.text.data.toList U9.data.toList;rotate_left;exact one;cases BS t.text.data.toList Kt.data.toList;rotate_left;exact A.ca n hn hq hg hl;cases BS t.text.data.toList FX.data.toList;rotate_left;exact A.ca n hn hq hg hl;cases BS t.text.data.toList Qu.data.toList;rotate_left;exact A.ta n hn hq hg hl;cases BS t.text.data.toList dY.data.toList;rotate_left;exact RX (UT.Y7 (By (st:=true) (A.ex (n - 1) (by omega) (by omega)) λ_ _ _=>By (Fa _) λ_ _ _=>DQ trivial)) hg hl;exact I6 (st:=true) (P:=TT) hg hl
theorem arP(hn:n<=10000)(hq:10*n+2<=q):UT n true TT (V0 en g):=by
 refine Y3 λt ht s hg hl=>?_;cases Dr t.kind 3;rotate_left;exact By (st:=true) (P2:=TT) aY (λ_ _ _=>VQ (λ_=>DQ trivial) (DQ trivial)) hg hl;cases Dr t.kind 2;rotate_left;refine RX (By (M6 λt=>DX ⟨_,rfl⟩ ⟨_,rfl⟩) λa ha _=>?_) hg hl;obtain⟨z,h1,_⟩:=ha.1.rM (.inr (FG (Qa ha.2).symm));exact NV ⟨z,h1,DQ trivial⟩;obtain⟨b,hb⟩:=Wb t;unfold cond Lh;dsimp only;rw[hb];cases b;exact A.wd t n hn hq t s hg hl;exact RX (DQ trivial) hg hl
end
theorem vD:∀q:Nat,Tot q (gP en q).1 (gP en q).2:=by
 intro q
 induction q with
 | zero=>constructor<;>intros<;>omega
 | succ q A =>
   constructor
   case ex=>intro n hn hq;exact A.lv 0 n (by omega) hn (by omega)
   case lv =>
     intro i n hi hn hq;show UT n true TT (QS en (gP en q).1 (gP en q).2 (.lv i));have:i=0\/i=1\/i=2\/i=3\/i=4\/i=5\/i=6:=by omega
     rcases this with rfl | rfl | rfl | rfl | rfl | rfl | rfl
     exact UU A (by omega) hn (by omega);exact UU A (by omega) hn (by omega);exact aAW A hn (by omega);exact arS A hn (by omega);exact UU A (by omega) hn (by omega);exact UU A (by omega) hn (by omega);exact A.at_ n hn (by omega)
   case at_=>intro n hn hq;exact arP A hn (by omega)
   case wd=>intro t n hn hq;exact arV A t hn (by omega)
   case ca=>intro n hn hq;exact arR A hn (by omega)
   case ta=>intro n hn hq;exact ajL A hn (by omega)
   case li=>intro n hn hq;exact vJ hn (A.ex n hn (by omega))
end
end Mo
end Go.Proofs.YtpbkhogolfegfaaGreatDoor
namespace Go.Proofs.YtpbkhogolfegfaaGreatDoor
open AI Go
namespace Mo
set_option maxRecDepth 100000
theorem rX:∀l:List Tk,F2 (·=·) l l
 | []=>.nil
 | t::l=>.cons ⟨rfl,rfl,rfl⟩ (rX l)
theorem aCG{l l':List Tk}(h:F2 (·=·) l l'):l=l':=by
 induction h with
 | nil=>rfl
 | cons ht _ ih =>
   rename_i t t' l l' _;obtain⟨k,x,a⟩:=t;obtain⟨k',x',a'⟩:=t';obtain⟨h1,h2,h3⟩:=ht;dsimp only at h1 h2 h3;subst h1 h2 h3;rw[ih]
theorem aEH{n n':Nd}(h:NR (·=·) n n'):n=n' :=
 NR.rec (S:=(·=·)) (motive_1:=λa b _=>a=b) (motive_2:=λa b _=>a=b) (λ_ h ih=>by rw[ih,h]) rfl (λ_ _ h1 h2=>by rw[h1,h2]) h
theorem aEX{en:Int}{r r':Nd⊕Dg}(h:RR (·=·) en en (NR (·=·)) r r'):r=r':=by
 cases h with
 | l h=>rw[aEH h]
 | r h =>
   rename_i d d';obtain⟨h1,h2 | ⟨rfl,rfl⟩⟩:=h;obtain⟨e,a⟩:=d;obtain⟨e',a'⟩:=d';dsimp only at h1 h2;subst h1 h2;rfl;rfl
def Q8(en:Int):Rd Nd:=λl=>(gP en (10*l.length+11)).1 .ex l
theorem avA{n:Nat}{en:Int}(hn:n<=10000):UT n true TT (Q8 en):=λl hg hl=>(vD (10*l.length+11)).ex l.length (by omega) (Nat.le_refl _) hg (Nat.le_refl _)
theorem amO{en:Int}{l s:List Tk}{r:Nd⊕Dg}(hg:Gl l)(hl:l.length<=10000)(h:Q8 en l=some (r,s))(q:Nat)(hq:10*l.length+11<=q):(gP en q).1 .ex l=some (r,s):=by
 obtain⟨r',s',h2,_⟩:=(vD (en:=en) q).ex l.length hl hq hg (Nat.le_refl _);have h3:=(apJ (S:=(·=·)) (en:=en) (en':=en) (w:=[]) (10*l.length+11) q).rg .ex (rX l) h (by rw[List.append_nil];exact h2);rcases h3 with ⟨s1,rfl,h4,h5⟩ | ⟨h3,_⟩
 rw[h2,List.append_nil,aEX h5,aCG h4];exact absurd rfl h3
section
variable {ts:List Tk} (DT:ts.length<=10000) (hg:Gl ts) {en:Int}
include DT hg
theorem rV{k:Nat}(hk:k<=ts.length){r l}(hS:Q8 en (ts.drop k)=some (r,l)):Jj ts k (FM ⟨ts,k,en⟩) r l:=by
 have hd:(ts.drop k).length<=10000:=by rw[List.length_drop];omega
 have key:∀q,10*(ts.drop k).length+11<=q->Jj ts k (Bd q ⟨ts,k,en⟩) r l:=λq hq=>(alO (by omega) en q).ex hk (amO (hg.drop k) hd hS q hq);obtain⟨k',a1,a2,a3,a4⟩:=key _ (Nat.le_refl _);refine⟨k',a1,a2,a3,Vk (10*(ts.drop k).length+11) λq hq=>?_⟩;obtain⟨k2,b1,b2,b3,b4⟩:=key q hq
 have:k2=k':=by
   have h:=congrArg List.length (a3.symm.trans b3);simp only[List.length_drop] at h;omega
 rw[b4,this]
theorem gL(kind:Int){k:Nat}(hk:k<=ts.length){r l}(hS:KR en (Q8 en) kind (ts.drop k)=some (r,l)):Jj ts k (CP ⟨ts,k,en⟩ kind) r l:=by
 have h6:ts.length<=1000000:=by omega
 refine VJ hk (λt h1 h2 hS=>?_) (λ_=>rfl) hS;have hS:=Zy h2 hS;dsimp only[Sum.elim];rw[Es h6 hk];refine K7 (Nat.le_succ k) ?_;revert hS;cases Dr kind 7;intro hS;refine BB (λh=>rV DT hg h1 h) (λa k h hk hS=>?_) (λ_ _=>rfl) hS;refine BB (λh=>IT h6 _ hk h) (λ_ k h hk hS=>?_) (λ_ _=>rfl) hS;exact El hk rfl hS;intro hS;refine BB (λh=>aoC h6 (λhk _ _ h=>UB h6 hk h) h1 h) (λa k h hk hS=>?_) (λ_ _=>rfl) hS;refine BB (λh=>IT h6 _ hk h) (λ_ k h hk hS=>?_) (λ_ _=>rfl) hS;exact El hk rfl hS
theorem aoX(t1 t4:Tk)(n2:Int×Int)(k0:Int):∀(q:Nat) (ns:List Nd) (un am:Bool) (k:Nat) (r:Nd⊕Dg) (l:List Tk),k<=ts.length->Kw en (Q8 en) (λl=>Ee 4 t4.text bE n2.1 l t1.AU) q ns un am (ts.drop k)=some (r,l) ->
   ∃k':Nat,k<=k'/\k'<=ts.length/\l=ts.drop k'/\∃n,Hc (λx:List Nd×Int×Bool×Bool=>Bs ⟨ts,k0,en⟩ t1 n2 t4 x.1 x.2.1 x.2.2.1 x.2.2.2) n (ns,(k:Int),un,am)=some (.inr (r,(k':Int))):=by
 have h6:ts.length<=1000000:=by omega
 intro q
 induction q with
 | zero=>intro ns un am k r l hk hS;cases hS
 | succ q ih =>
   intro ns un am k r l hk hS
   have stop:∀{y:(Nd⊕Dg)×Int},Bs ⟨ts,k0,en⟩ t1 n2 t4 ns (k:Int) un am=some (.rt y)->Hc (λx:List Nd×Int×Bool×Bool=>Bs ⟨ts,k0,en⟩ t1 n2 t4 x.1 x.2.1 x.2.2.1 x.2.2.2) 1 (ns,(k:Int),un,am)=some (.inr y):=by
     intro y h;show(Bs ⟨ts,k0,en⟩ t1 n2 t4 ns (k:Int) un am).bind _=_;rw[h];rfl
   have go:∀{y:List Nd×Int×Bool×Bool} {n:Nat} {z},Bs ⟨ts,k0,en⟩ t1 n2 t4 ns (k:Int) un am=some (.nx y)->Hc (λx:List Nd×Int×Bool×Bool=>Bs ⟨ts,k0,en⟩ t1 n2 t4 x.1 x.2.1 x.2.2.1 x.2.2.2) n y=z->Hc (λx:List Nd×Int×Bool×Bool=>Bs ⟨ts,k0,en⟩ t1 n2 t4 x.1 x.2.1 x.2.2.1 x.2.2.2) (n+1) (ns,(k:Int),un,am)=z:=by
     intro y n z h h2;show(Bs ⟨ts,k0,en⟩ t1 n2 t4 ns (k:Int) un am).bind _=_;rw[h];exact h2
   unfold Kw Wj at hS;unfold Bs at stop go;rcases Jv ts hk with ⟨h1,h2⟩ | ⟨t,h1,h2,h3⟩
   · rw[h2] at hS
     dsimp only at hS;simp only[Option.some.injEq,Prod.mk.injEq] at hS;obtain⟨rfl,rfl⟩:=hS;refine⟨k,Nat.le_refl k,hk,h2.symm,1,stop ?_⟩
     have:AD ⟨ts,k,en⟩=some (.inr ⟨72,en⟩):=by
       unfold AD;rw[auG (by dsimp only;omega)];rfl
     dsimp only;rw[this];rfl
   · rw[h3] at hS
     dsimp only at hS;rw[<- h3] at hS
     have hpk:AD ⟨ts,k,en⟩=some (.inl t):=by
       unfold AD;rw[tC (by dsimp only;omega)];dsimp only[cond];unfold IA;rw[if_pos (by omega),Int.toNat_natCast,h2];rfl
     dsimp only at stop go;rw[hpk] at stop go;dsimp only[Option.bind,Sum.elim] at stop go
     have one:∀(kind:Int) (qV nC:Bool),(Cu (KR en (Q8 en) kind) λc=>PI (ns.length+1) (Kw en (Q8 en) (λl=>Ee 4 t4.text bE n2.1 l t1.AU) q (ns++[c]) qV nC)) (ts.drop k)=some (r,l) ->
         (∃(k1:Nat) (c:Nd),k<=k1/\k1<=ts.length/\CP ⟨ts,k,en⟩ kind=some (.inl c,(k1:Int))/\ns.length+1<=100000000/\∃k':Nat,k1<=k'/\k'<=ts.length/\l=ts.drop k'/\∃n,Hc (λx:List Nd×Int×Bool×Bool=>Bs ⟨ts,k0,en⟩ t1 n2 t4 x.1 x.2.1 x.2.2.1 x.2.2.2) n (ns++[c],(k1:Int),qV,nC)=some (.inr (r,(k':Int)))) \/
         (∃(k':Nat) (d:Dg),k<=k'/\k'<=ts.length/\l=ts.drop k'/\r=.inr d/\CP ⟨ts,k,en⟩ kind=some (.inr d,(k':Int))):=by
       intro kind qV nC h;rcases JW h with ⟨c,s',h4,h5⟩ | ⟨d,h4,rfl⟩
       obtain⟨k1,a1,a2,rfl,a4⟩:=gL DT hg kind hk h4;obtain⟨hl,h5⟩:=Oj h5;exact .inl ⟨k1,c,a1,a2,a4,hl,ih _ _ _ _ _ _ a2 h5⟩;obtain⟨k1,a1,a2,a3,a4⟩:=gL DT hg kind hk h4;exact .inr ⟨k1,d,a1,a2,a3,rfl,a4⟩
     cases hw:BS t.text.data.toList bH.data.toList with
     | true =>
       rw[hw] at hS stop go;dsimp only[cond] at hS stop go;rcases one 6 un am hS with ⟨k1,c,a1,a2,a3,a4,k',b1,b2,b3,n,b4⟩ | ⟨k',d,a1,a2,a3,rfl,a4⟩
       rw[a3] at go;dsimp only[Option.bind,Sum.elim] at go;rw[EK a4] at go;exact⟨k',by omega,b2,b3,n+1,go rfl b4⟩
       · rw[a4] at stop
         exact⟨k',a1,a2,a3,1,stop rfl⟩
     | false =>
       rw[hw] at hS stop go;dsimp only[cond] at hS stop go;cases hu:BS t.text.data.toList Sr.data.toList with
       | true =>
         rw[hu] at hS stop go;dsimp only at hS stop go;cases un with
         | true =>
           dsimp only at hS stop go;obtain⟨rfl,rfl⟩:=Np hS;exact⟨k,Nat.le_refl k,hk,rfl,1,stop rfl⟩
         | false =>
           dsimp only at hS stop go;rcases one 7 true am hS with ⟨k1,c,a1,a2,a3,a4,k',b1,b2,b3,n,b4⟩ | ⟨k',d,a1,a2,a3,rfl,a4⟩
           rw[a3] at go;dsimp only[Option.bind,Sum.elim] at go;rw[EK a4] at go;exact⟨k',by omega,b2,b3,n+1,go rfl b4⟩
           · rw[a4] at stop
             exact⟨k',a1,a2,a3,1,stop rfl⟩
       | false =>
         rw[hu] at hS stop go;dsimp only at hS stop go;cases ha:BS t.text.data.toList P0.data.toList with
         | true =>
           rw[ha] at hS stop go;dsimp only at hS stop go;cases am with
           | true =>
             dsimp only at hS stop go;obtain⟨rfl,rfl⟩:=Np hS;exact⟨k,Nat.le_refl k,hk,rfl,1,stop rfl⟩
           | false =>
             dsimp only at hS stop go;rcases one 8 un true hS with ⟨k1,c,a1,a2,a3,a4,k',b1,b2,b3,n,b4⟩ | ⟨k',d,a1,a2,a3,rfl,a4⟩
             rw[a3] at go;dsimp only[Option.bind,Sum.elim] at go;rw[EK a4] at go;exact⟨k',by omega,b2,b3,n+1,go rfl b4⟩
             · rw[a4] at stop
               exact⟨k',a1,a2,a3,1,stop rfl⟩
         | false =>
           rw[ha] at hS stop go;dsimp only at hS stop go;cases hc:BS t.text.data.toList apG.data.toList with
           | true =>
             rw[hc] at hS stop;dsimp only at hS stop;cases am with
             | true =>
               have hS:=Zy h3 hS;obtain⟨rfl,rfl⟩:=Ln hS;refine⟨k+1,by omega,h1,rfl,1,stop ?_⟩;dsimp only;rw[Es h6 hk];rfl
             | false =>
               obtain⟨rfl,rfl⟩:=Np hS;exact⟨k,Nat.le_refl k,hk,rfl,1,stop rfl⟩
           | false =>
             rw[hc] at hS stop;dsimp only at hS stop;obtain⟨rfl,rfl⟩:=Np hS;exact⟨k,Nat.le_refl k,hk,rfl,1,stop rfl⟩
theorem wE{k:Nat}(hk:k<=ts.length){r l}(hS:Rm en (Q8 en) (ts.drop k)=some (r,l)):Jj ts k (F0 ⟨ts,k,en⟩) r l:=by
 have h6:ts.length<=1000000:=by omega
 refine BB (λh=>IT h6 _ hk h) (λt k1 h hk hS=>?_) (λ_ _=>rfl) hS;refine BB (λh=>Oy h6 _ hk h) (λn k1 h hk hS=>?_) (λ_ _=>rfl) hS;refine BB (λh=>IT h6 _ hk h) (λ_ k1 h hk hS=>?_) (λ_ _=>rfl) hS;refine BB (λh=>afV h6 hk h) (λm k1 h hk hS=>?_) (λ_ _=>rfl) hS;refine BB (λh=>axE h6 hk h) (λhd k1 h hk hS=>?_) (λ_ _=>rfl) hS;dsimp only[Sum.elim];rw[EK (by omega)];refine BB (λh=>IT h6 _ hk h) (λ_ k1 h hk hS=>?_) (λ_ _=>rfl) hS;obtain⟨k',a1,a2,a3,j,a4⟩:=aoX DT hg t m n (k:Int) _ [hd] false false k1 r l hk hS;refine⟨k',a1,a2,a3,?_⟩;dsimp only[Sum.elim];rw[List.nil_append,Jb a4];rfl
theorem aeW{k:Nat}(hk:k<=ts.length){r l}(hS:Uw en (Q8 en) (ts.drop k)=some (r,l)):Jj ts k (Hk ⟨ts,k,en⟩) r l:=by
 have h6:ts.length<=1000000:=by omega
 refine VJ hk (λt h1 h2 hS=>?_) (λ_=>rfl) hS;revert hS;dsimp only[Sum.elim];cases BS t.text.data.toList S0.data.toList;rotate_left;exact λhS=>Qi (acE h6 hk hS);cases BS t.text.data.toList Ol.data.toList;rotate_left;exact λhS=>Qi (acE h6 hk hS);cases BS t.text.data.toList Ig.data.toList;rotate_left;exact λhS=>Qi (wE DT hg hk hS);exact λhS=>El hk rfl hS
end
end Mo
end Go.Proofs.YtpbkhogolfegfaaGreatDoor
namespace Go.Proofs.YtpbkhogolfegfaaGreatDoor
open AI Go
namespace Mo
set_option maxRecDepth 100000
section
variable {n:Nat} {en:Int} {st:Bool}
def zV(kind:Int)(hn:n<=10000):UT n st TT (KR en (Q8 en) kind) :=
 Y3 λt _ s Z4 hl=>RX (Ga (λ_=>By (vJ (by omega) Tb) λ_ _ _=>By (Fa _) λ_ _ _=>DQ trivial) λ_=>By (avA (by omega)) λ_ _ _=>By (Fa _) λ_ _ _=>DQ trivial) Z4 hl
def lN{mk:List Nd->Nd}:∀(q n:Nat) (ns:List Nd) (un am:Bool),n<=10000->n < q->ns.length+n<=100000->UT n st TT (Kw en (Q8 en) mk q ns un am):=by
 intro q
 induction q generalizing st with
 | zero=>intro n ns un am _ h;omega
 | succ q ih =>
   intro n ns un am hn h1 h2
   have go:∀{st:Bool} (kind:Int) (qV nC:Bool),UT n st TT (Cu (KR en (Q8 en) kind) λc=>PI (ns.length+1) (Kw en (Q8 en) mk q (ns++[c]) qV nC)):=λkind qV nC =>
     By (zV kind hn) λc _ h3=>VP (by omega) (ih (n - 1) _ _ _ (by omega) (by omega) (by simp only[List.length_append,List.length_singleton];omega))
   refine Y3 λt _ s Z4 hl=>?_;cases BS t.text.data.toList bH.data.toList;rotate_left;exact go (st:=st) _ _ _ Z4 hl;cases BS t.text.data.toList Sr.data.toList;rotate_left;exact Ga (st:=st) (P:=TT) (λ_=>I6) (λ_=>go _ _ _) Z4 hl;cases BS t.text.data.toList P0.data.toList;rotate_left;exact Ga (st:=st) (P:=TT) (λ_=>I6) (λ_=>go _ _ _) Z4 hl;cases BS t.text.data.toList apG.data.toList;exact I6 (st:=st) (P:=TT) Z4 hl;cases am;exact I6 (st:=st) (P:=TT) Z4 hl;exact RX (DQ trivial) Z4 hl
def qX(hn:n<=10000):UT n st TT (Rm en (Q8 en)) :=
 By (Fa _) λt _ h1=>By (NW _) λm _ h2=>By (Fa _) λ_ _ h3=>By Xm λu _ h4=>By vH λh _ h5=>By (Fa _) λ_ _ h6 =>
   lM (K:=λq=>Kw en (Q8 en) (λl=>Ee 4 u.text bE m.1 l t.AU) q [h] false false) λk hk=>lN (k+1) k [h] false false (by omega) (by omega) (by simp only[List.length_singleton];omega)
def vI(hn:n<=10000):UT n st TT (Uw en (Q8 en)):=by
 refine Y3 λt _ s Z4 hl=>?_;cases BS t.text.data.toList S0.data.toList;rotate_left;exact vG (st:=st) Z4 hl;cases BS t.text.data.toList Ol.data.toList;rotate_left;exact vG (st:=st) Z4 hl;cases BS t.text.data.toList Ig.data.toList;rotate_left;exact qX (st:=st) hn Z4 hl;exact I6 (st:=st) (P:=TT) Z4 hl
end
def Ty(t:Tk):Bool:=BS t.text.data.toList S0.data.toList||(BS t.text.data.toList Ol.data.toList||BS t.text.data.toList Ig.data.toList)
def QR:List Tk->List Tk
 | []=>[]
 | t::s=>if Ty t then t::s else QR s
def PM:∀l:List Tk,∃k,QR l=l.drop k
 | []=>⟨0,rfl⟩
 | t::s=>by
   unfold QR;split;exact⟨0,rfl⟩;obtain⟨k,hk⟩:=PM s;exact⟨k+1,by rw[hk];rfl⟩
def Pp{en:Int}{t:Tk}{l s:List Tk}{r:Nd⊕Dg}(hg:Gl (t::l))(hl:(t::l).length<=10000)(h:Uw en (Q8 en) (t::l)=some (r,s)):(∃k,s=(t::l).drop k)/\(QR s).length<=l.length/\∀n,r=.inl n->s.length<=l.length:=by
 obtain⟨r',s',h2,h3,h4⟩:=vI (st:=true) (en:=en) (n:=(t::l).length) hl hg (Nat.le_refl _);rw[h] at h2;simp only[Option.some.injEq,Prod.mk.injEq] at h2;obtain⟨rfl,rfl⟩:=h2;refine⟨h3,?_,λn hn=>Nat.le_of_lt_succ ((h4 n hn).2 rfl)⟩
 have small:∀{k:Nat},(QR (l.drop k)).length<=l.length:=λ{k}=>by
   obtain⟨j,hj⟩:=PM (l.drop k);rw[hj,List.length_drop,List.length_drop];omega
 have sk:∀{x:List Tk},(∃k,x=l.drop k)->(QR x).length<=l.length:=by
   rintro x ⟨k,rfl⟩;exact small
 have Ya:Gl l:=λt ht=>hg t (List.mem_cons_of_mem _ ht);have hl':l.length<=10000:=by simp only[List.length_cons] at hl;omega
 cases hi:Ty t with
 | false =>
   have O7:=hi;unfold Ty at hi;simp only[Bool.or_eq_false_iff] at hi
   have:Uw en (Q8 en) (t::l)=some (.inr ⟨71,t.AU⟩,t::l):=by
     unfold Uw Wj;dsimp only;rw[hi.1,hi.2.1,hi.2.2];rfl
   rw[this] at h;simp only[Option.some.injEq,Prod.mk.injEq] at h;rw[<- h.2];unfold QR;rw[O7];obtain⟨k,hk⟩:=PM l;simp only[Bool.false_eq_true,if_false];rw[hk,List.length_drop];omega
 | true =>
   unfold Uw Wj at h;dsimp only at h
   have decl:V4 en (t::l)=some (r,s)->(QR s).length<=l.length:=by
     intro h;unfold V4 Wj Xe at h;dsimp only at h;refine sk ?_
     obtain⟨r2,s2,e2,h5,_⟩:=(show UT l.length false TT _ from By Xm λm _ _=>By (Fa kE) λ_ _ _=>By vL λu _ _=>Ga (c:=BS t.text.data.toList Ol.data.toList)
       (A:=Cu (uL en) λr=>Lh (Ep r.text) λn=>Cu (JO en WD) λ_=>Gj (Ee 3 m.text u.text n [] t.AU)) (B:=Cu (JO en WD) λ_=>Gj (Ee 2 m.text u.text 0 [] t.AU))
       (λ_=>By vK λr _ _=>by obtain⟨b,hb⟩:=RU r.text;exact NV ⟨b,hb,By (Fa _) λ_ _ _=>DQ trivial⟩) λ_=>By (Fa _) λ_ _ _=>DQ trivial) Ya (Nat.le_refl _)
     rw[h] at e2;simp only[Option.some.injEq,Prod.mk.injEq] at e2;rw[e2.2];exact h5
   revert h;cases hf:BS t.text.data.toList S0.data.toList;rotate_left;exact decl;cases hli:BS t.text.data.toList Ol.data.toList;rotate_left;exact decl;cases ha:BS t.text.data.toList Ig.data.toList;unfold Ty at hi;rw[hf,hli,ha] at hi;cases hi;intro h;refine sk ?_;have h:Rm en (Q8 en) (t::l)=some (r,s):=h;unfold Rm at h
   have he:JO en Ig (t::l)=some (.inl t,l):=by
     unfold JO Mi Wj Lh Dq;dsimp only;rw[ha];rfl
   rcases JW h with ⟨a,s',h3,h4⟩ | ⟨d,h3,_⟩
   rw[he] at h3;simp only[Option.some.injEq,Prod.mk.injEq,Sum.inl.injEq] at h3;obtain⟨rfl,rfl⟩:=h3
   obtain⟨r2,s2,e2,h5,_⟩:=(show UT l.length false TT _ from By (NW (en:=en) 1) λm _ h2=>By (Fa (en:=en) acW) λ_ _ h3=>By (Xm (en:=en)) λu _ h4=>By (vH (en:=en)) λh _ h5=>By (Fa (en:=en) azS) λ_ _ h6 =>
     lM (K:=λq=>Kw en (Q8 en) (λl=>Ee 4 u.text bE m.1 l t.AU) q [h] false false) λk hk=>lN (k+1) k [h] false false (by omega) (by omega) (by simp only[List.length_singleton];omega)) Ya (Nat.le_refl _)
   have h6:=h4.symm.trans e2;simp only[Option.some.injEq,Prod.mk.injEq] at h6;rw[h6.2];exact h5;rw[he] at h3;cases h3
end Mo
end Go.Proofs.YtpbkhogolfegfaaGreatDoor
namespace Go.Proofs.YtpbkhogolfegfaaGreatDoor
open AI Go
namespace Mo
set_option maxRecDepth 100000
def UP(en:Int):Nat->List Tk->List Nd->List Dg->Option (List Nd×List Dg)
 | 0,_,_,_=>none
 | _+1,[],ks,ds=>some (ks,ds)
 | q+1,t::l,ks,ds=>cond (E3 ((ds.length:Nat):Int) 20) (match Uw en (Q8 en) (t::l) with
   | none=>none
   | some (.inl n,s)=>UP en q s (ks++[n]) ds
   | some (.inr d,s)=>UP en q (QR s) ks (ds++[d])) (some (ks,ds))
theorem aiZ{en:Int}:∀(q:Nat) (l:List Tk) (ks:List Nd) (ds:List Dg),Gl l->l.length<=10000->l.length < q->∃r,UP en q l ks ds=some r:=by
 intro q
 induction q with
 | zero=>intro l ks ds _ _ h;omega
 | succ q ih =>
   intro l ks ds hg hl h;cases l with
   | nil=>exact⟨_,rfl⟩
   | cons t l =>
     unfold UP;cases E3 ((ds.length:Nat):Int) 20 with
     | false=>exact⟨_,rfl⟩
     | true =>
       obtain⟨r,s,h2,_⟩:=vI (st:=true) (en:=en) (n:=(t::l).length) hl hg (Nat.le_refl _);obtain⟨⟨k,rfl⟩,h4,h5⟩:=Pp hg hl h2;dsimp only[cond];rw[h2];simp only[List.length_cons] at h hl;cases r with
       | inl n =>
         have h6:=h5 n rfl;exact ih _ _ _ (hg.drop k) (by omega) (by omega)
       | inr d =>
         obtain⟨j,hj⟩:=PM ((t::l).drop k);refine ih _ _ _ ?_ (by omega) (by omega);rw[hj];exact(hg.drop k).drop j
section
variable {source:ByteArray} {ts:List Tk} (DT:ts.length<=10000)
include DT
theorem aAD:∀(j k:Nat),k<=ts.length->ts.length - k<=j->∃n k':Nat,k<=k'/\k'<=ts.length/\QR (ts.drop k)=ts.drop k'/\Hc (λx=>C0 source ts x) n (k:Int)=some (.inl (k':Int)):=by
 have stop:∀{k:Nat} {y:Int},C0 source ts (k:Int)=some (.ex y)->Hc (λx=>C0 source ts x) 1 (k:Int)=some (.inl y):=by
   intro k y h;show(C0 source ts (k:Int)).bind _=_;rw[h];rfl
 intro j
 induction j with
 | zero =>
   intro k hk hj;have:k=ts.length:=by omega
   refine⟨1,k,Nat.le_refl k,hk,?_,stop ?_⟩;rw[List.drop_eq_nil_of_le (by omega)];rfl;unfold C0;rw[KZ (by omega)];rfl
 | succ j ih =>
   intro k hk hj;rcases Jv ts hk with ⟨h1,h2⟩ | ⟨t,h1,h2,h3⟩
   · refine⟨1,k,Nat.le_refl k,hk,?_,stop ?_⟩
     rw[h2];rfl;unfold C0;rw[KZ (by omega)];rfl
   · have hs:∀x,Ji x (ts.drop k)=BS t.text.data.toList x.data.toList:=λx=>by rw[h3];rfl
     have hL:C0 source ts (k:Int)=if Ty t then some (.ex (k:Int)) else some (.nx ((k+1:Nat):Int)):=by
       unfold C0 Ty;rw[Ny (by omega)];dsimp only[cond];rw[GQ hk,GQ hk,GQ hk,Option.bind_some,hs,hs,hs];cases BS t.text.data.toList S0.data.toList;cases BS t.text.data.toList Ol.data.toList;cases BS t.text.data.toList Ig.data.toList;rw[<- Es (by omega) hk];rfl;rfl;rfl;rfl
     cases hi:Ty t with
     | true =>
       refine⟨1,k,Nat.le_refl k,hk,?_,stop ?_⟩;rw[h3];unfold QR;rw[hi];rfl;rw[hL,hi];rfl
     | false =>
       obtain⟨n,k',a1,a2,a3,a4⟩:=ih (k+1) h1 (by omega);refine⟨n+1,k',by omega,a2,?_,?_⟩;rw[h3];unfold QR;rw[hi];exact a3;show(C0 source ts (k:Int)).bind _=_;rw[hL,hi];exact a4
theorem aFK(hg:Gl ts):∀(q k:Nat) (ks:List Nd) (ds:List Dg) (r:List Nd×List Dg),k<=ts.length->ks.length+ds.length+q<=100000->UP ((source.data.toList.length:Nat):Int) q (ts.drop k) ks ds=some r ->
   ∃n k':Nat,Hc (λx:List Dg×List Nd×Int=>Cf source ts x.1 x.2.1 x.2.2) n (ds,ks,(k:Int))=some (.inl (r.2,r.1,(k':Int))):=by
 intro q
 induction q with
 | zero=>intro k ks ds r hk hq h;cases h
 | succ q ih =>
   intro k ks ds r hk hq h
   have stop:Cf source ts ds ks (k:Int)=some (.ex (ds,ks,(k:Int)))->Hc (λx:List Dg×List Nd×Int=>Cf source ts x.1 x.2.1 x.2.2) 1 (ds,ks,(k:Int))=some (.inl (ds,ks,(k:Int))):=by
     intro h;show(Cf source ts ds ks (k:Int)).bind _=_;rw[h];rfl
   rcases Jv ts hk with ⟨h1,h2⟩ | ⟨t,h1,h2,h3⟩
   · rw[h2] at h
     have:r=(ks,ds):=(Option.some.inj h).symm;subst this;refine⟨1,k,stop ?_⟩;unfold Cf;rw[KZ (by omega)];rfl
   · rw[h3] at h
     unfold UP at h;rw[<- h3] at h;cases hd:E3 ((ds.length:Nat):Int) 20 with
     | false =>
       rw[hd] at h;have:r=(ks,ds):=(Option.some.inj h).symm;subst this;refine⟨1,k,stop ?_⟩;unfold Cf;rw[Ny (by omega),hd];rfl
     | true =>
       rw[hd] at h;dsimp only[cond] at h;split at h;cases h;rename_i n s hi;obtain⟨k1,a1,a2,rfl,a4⟩:=aeW DT hg hk hi;obtain⟨m,k',b1⟩:=ih k1 (ks++[n]) ds r a2 (by simp only[List.length_append,List.length_singleton];omega) h;refine⟨m+1,k',?_⟩
       have hL:Cf source ts ds ks (k:Int)=some (.nx (ds,ks++[n],(k1:Int))):=by
         unfold Cf Hl;rw[Ny (by omega),hd,a4];dsimp only[cond,Option.bind,ajB];rw[EK (by omega)]
       show(Cf source ts ds ks (k:Int)).bind _=_;rw[hL];exact b1;rename_i d s hi;obtain⟨k1,a1,a2,rfl,a4⟩:=aeW DT hg hk hi;obtain⟨j,k2,c1,c2,c3,c4⟩:=aAD (source:=source) DT (ts.length - k1) k1 a2 (Nat.le_refl _);rw[c3] at h;obtain⟨m,k',b1⟩:=ih k2 ks (ds++[d]) r c2 (by simp only[List.length_append,List.length_singleton];omega) h;refine⟨m+1,k',?_⟩
       have hL:Cf source ts ds ks (k:Int)=some (.nx (ds++[d],ks,(k2:Int))):=by
         unfold Cf Hl;rw[Ny (by omega),hd,a4];dsimp only[cond,Option.bind,ajB];rw[EK (by omega),Jb c4];rfl
       show(Cf source ts ds ks (k:Int)).bind _=_;rw[hL];exact b1
end
def FV(s:ByteArray):List Tk:=(LexS.Ly s.data.toList).1.map Nz
def Uz(s:ByteArray):Nat:=(LexS.Ly s.data.toList).2.1
def aMP(s:ByteArray):Nat:=(LexS.Ly s.data.toList).2.2
def K8(ks:List Nd):Nd:=⟨1,ByteArray.empty,ByteArray.empty,0,0,0,0,⟨0,[]⟩,ks,0⟩
theorem yG{s:ByteArray}(h:Uz s≠0):DL s=some (z0,[⟨(Uz s:Int),(aMP s:Int)⟩]):=by
 unfold DL Kz;rw[Option.bind_some];dsimp only;rw[Pk (by unfold Uz at h;omega)];rfl
theorem yH{s:ByteArray}(h:Uz s=0)(hg:Gl (FV s))(hl:(FV s).length<=10000):∃ks ds,UP ((s.data.toList.length:Nat):Int) ((FV s).length+1) (FV s) [] []=some (ks,ds)/\DL s=cond (E3 0 ((ds.length:Nat):Int)) (some (z0,ds)) (Dm (K8 ks)):=by
 obtain⟨⟨ks,ds⟩,h1⟩:=aiZ (en:=((s.data.toList.length:Nat):Int)) ((FV s).length+1) (FV s) [] [] hg hl (Nat.lt_succ_self _);refine⟨ks,ds,h1,?_⟩;obtain⟨n,k',h2⟩:=aFK (source:=s) hl hg ((FV s).length+1) 0 [] [] _ (Nat.zero_le _) (by simp only[List.length_nil];omega) (by rw[List.drop_zero];exact h1);unfold DL Kz;rw[Option.bind_some];dsimp only;rw[No (by unfold Uz at h;omega)];dsimp only[cond];have h2:Hc (λx:List Dg×List Nd×Int=>Cf s (List.map Nz (LexS.Ly s.data.toList).fst) x.1 x.2.1 x.2.2) n ([],[],0)=some (.inl (ds,ks,(k':Int))):=h2;rw[Jb h2,Option.bind_some];dsimp only[N4];cases E3 0 ((ds.length:Nat):Int);dsimp only;show(Dm (K8 ks)).bind _=Dm (K8 ks);cases Dm (K8 ks)<;>rfl
 rfl
end Mo
end Go.Proofs.YtpbkhogolfegfaaGreatDoor
namespace Go.Proofs.YtpbkhogolfegfaaGreatDoor
open AI Go LexS
namespace Mo
set_option maxRecDepth 100000
def SA(c:UInt8):Prop:=48<=c.toNat/\c.toNat<=57
theorem abS:∀n < 128,(P5 n &&& 8)≠0->48<=n/\n<=57:=by decide
theorem amA{c:UInt8}(h:cin 8 c=true):SA c:=by
 unfold cin at h;by_cases hc:c.toNat < 128;exact abS _ hc (by simpa using h)
 rw[cA _ (by omega)] at h;simp at h
theorem lB(t:List UInt8):∀c∈t.take (BE 8 t),SA c:=by
 unfold BE
 induction t with
 | nil=>intro c hc;cases hc
 | cons x t ih =>
   intro c hc;rw[List.takeWhile_cons] at hc;split at hc;rename_i hx;rw[List.length_cons,List.take_succ_cons] at hc;rcases List.mem_cons.1 hc with rfl | hc
   exact amA hx;exact ih c hc;cases hc
theorem amH:∀(l:List UInt8) (acc:Nat),(∀c∈l,SA c)->∃n,Lib.decFrom acc l=some n/\n < (acc+1)*10 ^ l.length:=by
 intro l
 induction l with
 | nil=>intro acc _;exact⟨acc,rfl,by simp⟩
 | cons c l ih =>
   intro acc h;have hc:=h c (List.mem_cons_self ..);obtain⟨n,h1,h2⟩:=ih (acc*10+(c.toNat - 48)) (λx hx=>h x (List.mem_cons_of_mem _ hx));refine⟨n,?_,Nat.lt_of_lt_of_le h2 ?_⟩;unfold Lib.decFrom Lib.digitVal;rw[if_pos (show 48<=c.toNat/\c.toNat<=57 from hc)];exact h1;rw[List.length_cons,Nat.pow_succ,Nat.mul_comm (10 ^ l.length) 10,<- Nat.mul_assoc];exact Nat.mul_le_mul_right _ (by have:=hc.2;omega)
theorem aaY{l:List UInt8}(h0:l≠[])(hl:l.length<=12)(h:∀c∈l,SA c):∃z,Lib.atoi l=some z/\0<=z/\z<=999999999999:=by
 cases l with
 | nil=>exact absurd rfl h0
 | cons c l =>
   obtain⟨n,h1,h2⟩:=amH (c::l) 0 h;have hc:=h c (List.mem_cons_self ..);have hlt:n < 10 ^ 12:=Nat.lt_of_lt_of_le h2 (by rw[Nat.zero_add,Nat.one_mul];exact Nat.pow_le_pow_right (by omega) hl);refine⟨(n:Int),?_,by omega,by omega⟩
   have e1:(c == 45)=false:=by
     apply beq_false_of_ne;rintro rfl;exact absurd hc.1 (by decide)
   have e2:(c == 43)=false:=by
     apply beq_false_of_ne;rintro rfl;exact absurd hc.1 (by decide)
   unfold Lib.atoi Lib.decNat;dsimp only;rw[e1,e2];simp only[Bool.false_eq_true,if_false,List.isEmpty_cons];rw[h1];rfl
theorem Z6:∀(d r:List UInt8),(∀c∈d,SA c)->Lib.indexByte (d++46::r) 46=d.length
 | [],r,_=>by unfold Lib.indexByte;rfl
 | c::d,r,h=>by
   have ih:=Z6 d r (λx hx=>h x (List.mem_cons_of_mem _ hx));have hc:=h c (List.mem_cons_self ..)
   have e1:(c == 46)=false:=by
     apply beq_false_of_ne;rintro rfl;exact absurd hc.1 (by decide)
   rw[List.cons_append];unfold Lib.indexByte;rw[e1,ih];simp
theorem XD{l:List UInt8}(h0:l≠[])(hl:l.length<=12)(h:∀c∈l,SA c):∃z,Ro ⟨l.toArray⟩=some (z,())/\0<=z/\z<=999999999999:=by
 obtain⟨z,h1,h2⟩:=aaY h0 hl h;refine⟨z,?_,h2⟩;unfold Ro;rw[if_pos (by simp;omega)];simp only[List.toList_toArray,h1,Option.map_some]
theorem yK{s:List UInt8}(k:Nat)(h:Lib.index s [46]=-1):Lib.replaceK [46] [] k s=s:=by
 cases k with
 | zero=>rfl
 | succ k=>unfold Lib.replaceK;rw[h];rfl
theorem jB:∀(d:List UInt8),(∀c∈d,SA c)->Lib.indexByte d 46=-1
 | [],_=>rfl
 | c::d,h=>by
   have ih:=jB d (λx hx=>h x (List.mem_cons_of_mem _ hx));have hc:=h c (List.mem_cons_self ..)
   have e1:(c == 46)=false:=by
     apply beq_false_of_ne;rintro rfl;exact absurd hc.1 (by decide)
   unfold Lib.indexByte;rw[e1,ih];simp
theorem apM{d:List UInt8}(h:∀c∈d,SA c):Lib.replace d [46] [] 1=d:=by
 unfold Lib.replace;rw[if_neg (by decide)];exact yK _ (by rw[Lib.index_one,jB d h])
theorem agV{d r:List UInt8}(h:∀c∈d,SA c):Lib.replace (d++46::r) [46] [] 1=d++r:=by
 have hi:Lib.index (d++46::r) [46]=(d.length:Int):=by rw[Lib.index_one,Z6 d r h]
 have hn:Lib.replaceNum (d++46::r) [46] 1=1:=by
   have:1<=Lib.count (d++46::r) [46]:=by
     unfold Lib.count Lib.countFrom;rw[hi,if_neg (by simp)];omega
   unfold Lib.replaceNum;rw[if_neg (by omega)];rfl
 unfold Lib.replace;rw[if_neg (by decide),hn,Lib.replaceK_hit _ _ _ _ _ hi];unfold Lib.replaceK;simp
theorem ZS{k a:Int}{l m:List UInt8}(hr:Lib.replace l [46] [] 1=m)(hl:l.length<=20)(h0:m≠[])(hm:m.length<=12)(h:∀c∈m,SA c):∃z,Cw ⟨k,⟨l.toArray⟩,a⟩=some z/\0<=z/\z<=999999999999:=by
 obtain⟨z,h1,h2⟩:=XD h0 hm h;refine⟨z,?_,h2⟩;unfold Cw
 have:JG ⟨l.toArray⟩ azR ByteArray.empty 1=some ⟨m.toArray⟩:=by
   unfold JG
   rw[if_pos ⟨by decide,by
     have:(ByteArray.empty).size=0:=rfl;have h2:(⟨l.toArray⟩:ByteArray).size=l.length:=by simp[ByteArray.size]
     rw[this,h2];omega⟩]
   have:(azR).data.toList=[46]:=rfl;rw[this];simp only[List.toList_toArray];rw[show(ByteArray.empty).data.toList=[] from rfl,hr]
 dsimp only;rw[this,Option.bind_some,h1];rfl
def atD(y m:Nat):Bool:=match Gg (2000+y) m,Ih (12*y+m) with
 | some n,some f=>Nat.ble 1 n.toNat&&(Nat.ble 0 f.toNat&&(decide (0<=n/\n<=31/\0<=f/\f+n<=36525)))
 | _,_=>false
theorem alX:((List.range 100).all λy=>(List.range 12).all λm=>atD y m)=true:=by kernel_rfl
theorem avZ{y m:Nat}(hy:y < 100)(hm:m < 12):∃n f:Int,Gg (2000+y) m=some n/\Ih (12*y+m)=some f/\0<=n/\n<=31/\0<=f/\f+n<=36525:=by
 have h:=List.all_eq_true.1 (List.all_eq_true.1 alX y (List.mem_range.2 hy)) m (List.mem_range.2 hm);unfold atD at h;split at h;rename_i n f h1 h2;simp only[Bool.and_eq_true,decide_eq_true_eq] at h;exact⟨n,f,h1,h2,h.2.2.1,h.2.2.2.1,h.2.2.2.2.1,h.2.2.2.2.2⟩;cases h
theorem acD(y m d:Int)(hy:0<=y/\y<=100000)(hm:0<=m/\m<=100000)(hd:0<=d/\d<=100000):∃z e,Js y m d=some (z,e)/\(e=0->0<=z/\z<=36524):=by
 have bad:∃z e,(some ((0:Int),(21:Int)):Option (Int×Int))=some (z,e)/\(e=0->0<=z/\z<=36524):=⟨0,21,rfl,λh=>by omega⟩;unfold Js;cases h1:E3 y 2000;rotate_left;exact bad;cases h2:E3 2099 y;rotate_left;exact bad;cases h3:E3 m 1;rotate_left;exact bad;cases h4:E3 12 m;rotate_left;exact bad;cases h5:E3 d 1;rotate_left;exact bad;have h1:=KA h1;have h2:=KA h2;have h3:=KA h3;have h4:=KA h4;have h5:=KA h5;obtain⟨n,f,a1,a2,a3,a4,a5,a6⟩:=avZ (y:=(y - 2000).toNat) (m:=(m - 1).toNat) (by omega) (by omega);rw[show(2000:Int)+((y - 2000).toNat:Nat)=y by omega,show(((m - 1).toNat:Nat):Int)=m - 1 by omega] at a1;rw[show 12*(((y - 2000).toNat:Nat):Int)+(((m - 1).toNat:Nat):Int)=(y - 2000)*12+m - 1 by omega] at a2;dsimp only[cond];rw[QC (a:=m) (by omega),a1,Option.bind_some];cases h6:E3 n d;have h6:=KA h6;dsimp only;rw[QC (a:=y) (by omega),IR (by omega),Gr (by omega),QC (by omega),a2,Option.bind_some];rw[Gr (by omega),QC (by omega)];exact⟨_,0,rfl,λ_=>by omega⟩;exact bad
theorem acK{c:UInt8}(hc:SA c):w64 (MH .u8 (eQ ((c.toNat:Nat):Int) 48))=(c.toNat:Int) - 48:=by
 have h1:=hc.1;have h2:=hc.2
 have e:MH .u8 (eQ ((c.toNat:Nat):Int) 48)=(c.toNat:Int) - 48:=by
   rw[eR,U1];unfold IntKind.wrap;simp[IntKind.bits,IntKind.signed];omega
 rw[e];unfold w64;exact eZ (by omega)
section
variable {i:Nat} {c:UInt8} (h4:i≠4) (h7:i≠7) (hc:SA c) {a b d:Int} (ha:0<=a/\a<=1000) (hb:0<=b/\b<=1000) (hd:0<=d/\d<=1000)
include h4 h7 hc
theorem cl0(ha:0<=a/\a<=1000):Cc i c 0 a b d=some (.nx (0,a*10+((c.toNat:Int) - 48),b,d)):=by
 have h1:=hc.1;have h2:=hc.2;unfold Cc;rw[Pk (a:=(i:Int)) (b:=4) (by omega),Pk (a:=(i:Int)) (b:=7) (by omega),KZ (b:=48) (by omega),KZ (a:=57) (by omega),acK hc];dsimp only[cond];rw[IR (a:=a) (by omega),Gr (a:=a*10) (by omega)];rfl
theorem cl1(hb:0<=b/\b<=1000):Cc i c 1 a b d=some (.nx (1,a,b*10+((c.toNat:Int) - 48),d)):=by
 have h1:=hc.1;have h2:=hc.2;unfold Cc;rw[Pk (a:=(i:Int)) (b:=4) (by omega),Pk (a:=(i:Int)) (b:=7) (by omega),KZ (b:=48) (by omega),KZ (a:=57) (by omega),acK hc];dsimp only[cond];rw[IR (a:=b) (by omega),Gr (a:=b*10) (by omega)];rfl
theorem cl2(hd:0<=d/\d<=1000):Cc i c 2 a b d=some (.nx (2,a,b,d*10+((c.toNat:Int) - 48))):=by
 have h1:=hc.1;have h2:=hc.2;unfold Cc;rw[Pk (a:=(i:Int)) (b:=4) (by omega),Pk (a:=(i:Int)) (b:=7) (by omega),KZ (b:=48) (by omega),KZ (a:=57) (by omega),acK hc];dsimp only[cond];rw[IR (a:=d) (by omega),Gr (a:=d*10) (by omega)];rfl
end
abbrev clF:=CX (λi y (x:Int×Int×Int×Int)=>Cc i y x.1 x.2.1 x.2.2.1 x.2.2.2) (λx:Int×Int×Int×Int=>(x.2.1,x.2.2.1,x.2.2.2))
section
variable {i:Nat} {c:UInt8} (h4:i≠4) (h7:i≠7) (hc:SA c) {a b d:Int} {l:List UInt8}
include h4 h7 hc
theorem fo0(ha:0<=a/\a<=1000):clF (c::l) i (0,a,b,d)=clF l (i+1) (0,a*10+((c.toNat:Int) - 48),b,d):=by
 show(Cc i c 0 a b d).bind _=_;rw[cl0 h4 h7 hc ha];rfl
theorem fo1(ha:0<=b/\b<=1000):clF (c::l) i (1,a,b,d)=clF l (i+1) (1,a,b*10+((c.toNat:Int) - 48),d):=by
 show(Cc i c 1 a b d).bind _=_;rw[cl1 h4 h7 hc ha];rfl
theorem fo2(ha:0<=d/\d<=1000):clF (c::l) i (2,a,b,d)=clF l (i+1) (2,a,b,d*10+((c.toNat:Int) - 48)):=by
 show(Cc i c 2 a b d).bind _=_;rw[cl2 h4 h7 hc ha];rfl
end
theorem fo4{l:List UInt8}{a b d:Int}:clF (45::l) (0+1+1+1+1) (0,a,b,d)=clF l (0+1+1+1+1+1) (1,a,b,d):=rfl
theorem fo7{l:List UInt8}{a b d:Int}:clF (45::l) (0+1+1+1+1+1+1+1) (1,a,b,d)=clF l (0+1+1+1+1+1+1+1+1) (2,a,b,d):=rfl
theorem wT{c0 c1 c2 c3 c5 c6 c8 c9:UInt8}(h0:SA c0)(h1:SA c1)(h2:SA c2)(h3:SA c3)(h5:SA c5)(h6:SA c6)(h8:SA c8)(h9:SA c9) :
   ∃z e,Fo ⟨([c0,c1,c2,c3,45,c5,c6,45,c8,c9]:List UInt8).toArray⟩=some (z,e)/\(e=0->0<=z/\z<=36524):=by
 have b0:=h0;have b1:=h1;have b2:=h2;have b3:=h3;have b5:=h5;have b6:=h6;have b8:=h8;have b9:=h9;unfold SA at b0 b1 b2 b3 b5 b6 b8 b9;obtain⟨z,e,hz,he⟩:=acD ((((0*10+((c0.toNat:Int) - 48))*10+((c1.toNat:Int) - 48))*10+((c2.toNat:Int) - 48))*10+((c3.toNat:Int) - 48)) ((0*10+((c5.toNat:Int) - 48))*10+((c6.toNat:Int) - 48)) ((0*10+((c8.toNat:Int) - 48))*10+((c9.toNat:Int) - 48)) (by omega) (by omega) (by omega);refine⟨z,e,?_,he⟩;unfold Fo;rw[No (by rfl)];dsimp only[cond]
 have key:CX (λi y x=>Cc i y x.1 x.2.1 x.2.2.1 x.2.2.2) (λx:Int×Int×Int×Int=>(x.2.1,x.2.2.1,x.2.2.2)) [c0,c1,c2,c3,45,c5,c6,45,c8,c9] 0 (0,0,0,0)=some (.inl ((((0*10+((c0.toNat:Int) - 48))*10+((c1.toNat:Int) - 48))*10+((c2.toNat:Int) - 48))*10+((c3.toNat:Int) - 48),(0*10+((c5.toNat:Int) - 48))*10+((c6.toNat:Int) - 48),(0*10+((c8.toNat:Int) - 48))*10+((c9.toNat:Int) - 48))):=by
   show clF [c0,c1,c2,c3,45,c5,c6,45,c8,c9] 0 (0,0,0,0)=_;rw[fo0 (by decide) (by decide) h0 (by omega)];rw[fo0 (by decide) (by decide) h1 (by omega)];rw[fo0 (by decide) (by decide) h2 (by omega)];rw[fo0 (by decide) (by decide) h3 (by omega)];rw[fo4];rw[fo1 (by decide) (by decide) h5 (by omega)];rw[fo1 (by decide) (by decide) h6 (by omega)];rw[fo7];rw[fo2 (by decide) (by decide) h8 (by omega)];rw[fo2 (by decide) (by decide) h9 (by omega)];rfl
 have hl:Lk ([c0,c1,c2,c3,45,c5,c6,45,c8,c9]:List UInt8).length=λy:Option ((Int×Int×Int)⊕(Int×Int))=>y:=funext λy=>if_pos (by simp);simp only[List.toList_toArray,List.drop_zero];rw[hl,key];dsimp only[Option.bind,N4];rw[hz]
end Mo
end Go.Proofs.YtpbkhogolfegfaaGreatDoor
namespace Go.Proofs.YtpbkhogolfegfaaGreatDoor
open AI Go LexS
namespace Mo
set_option maxRecDepth 100000
def Uu{m:Nat}{t:List UInt8}(h:I1 m t=true):∃c u,t=c::u/\cin m c=true:=by
 cases t with
 | nil=>cases h
 | cons c u=>exact⟨c,u,rfl,h⟩
def Si:∀(t:List UInt8) (ys:List (List UInt8)),(Mh t ys).1=0\/(Mh t ys).1=6
 | _,[]=>.inl rfl
 | t,y::ys=>by
   unfold Mh;split;exact .inr rfl;exact Si t ys
def aiA{t:List UInt8}(h:I1 8 t=true):1<=BE 8 t:=by
 obtain⟨c,u,rfl,hc⟩:=Uu h;rw[IP,if_pos hc];omega
def wS{t:List UInt8}(h:GI t=true):∃c0 c1 c2 c3 c5 c6 c8 c9,t.take 10=[c0,c1,c2,c3,45,c5,c6,45,c8,c9]/\SA c0/\SA c1/\SA c2/\SA c3/\SA c5/\SA c6/\SA c8/\SA c9:=by
 unfold GI at h;rw[Bool.and_eq_true] at h;obtain⟨hl,h⟩:=h;have hl:=of_decide_eq_true hl;have hd:=λi hi=>List.all_eq_true.1 h i (List.mem_range.2 hi)
 match t,hl with
 | c0::c1::c2::c3::c4::c5::c6::c7::c8::c9::u,_ =>
   have e4:c4=45:=by have:=hd 4 (by decide);simpa[Ju] using this
   have e7:c7=45:=by have:=hd 7 (by decide);simpa[Ju] using this
   have g:∀(i:Nat) (c:UInt8) (v:List UInt8),i < 10->i≠4->i≠7->(c0::c1::c2::c3::c4::c5::c6::c7::c8::c9::u).drop i=c::v->SA c:=by
     intro i c v h1 h4 h7 h;have:=hd i h1;unfold Ju at this;rw[if_neg (by omega),h] at this;exact amA this
   subst e4 e7
   exact⟨c0,c1,c2,c3,c5,c6,c8,c9,rfl,g 0 _ _ (by decide) (by decide) (by decide) rfl,g 1 _ _ (by decide) (by decide) (by decide) rfl,g 2 _ _ (by decide) (by decide) (by decide) rfl,g 3 _ _ (by decide) (by decide) (by decide) rfl,
     g 5 _ _ (by decide) (by decide) (by decide) rfl,g 6 _ _ (by decide) (by decide) (by decide) rfl,g 8 _ _ (by decide) (by decide) (by decide) rfl,g 9 _ _ (by decide) (by decide) (by decide) rfl⟩
def nI{t:List UInt8}(h1:(t.drop (BE 8 t)).head?=some 46)(h2:I1 8 (t.drop (BE 8 t+1))=true)(h3:I1 8 (t.drop (BE 8 t+2))=true) :
   ∃x y,t.take (BE 8 t+3)=t.take (BE 8 t)++46::[x,y]/\SA x/\SA y:=by
 obtain⟨x,u,hx,mR⟩:=Uu h2;obtain⟨y,v,hy,Ev⟩:=Uu h3;generalize hd:BE 8 t=d at *
 have e1:t.drop d=46::t.drop (d+1):=by
   cases hq:t.drop d with
   | nil=>rw[hq] at h1;cases h1
   | cons a b =>
     rw[hq] at h1;have:t.drop (d+1)=b:=by rw[<- List.drop_drop,hq];rfl
     rw[this];simp only[List.head?_cons,Option.some.injEq] at h1;rw[h1]
 have e2:t.drop (d+1)=x::t.drop (d+2):=by
   rw[hx,show d+2=(d+1)+1 from rfl,<- List.drop_drop,hx];rfl
 refine⟨x,y,?_,amA mR,amA Ev⟩;rw[List.take_add,e1,e2,hy];rfl
def aiY{t:List UInt8}{o:Nat}(ht:t.length<=6000)(h:(BI t).1≠0):Gd (Nz ((BI t).1,t.take (BI t).2,o)):=by
 have hlen:(t.take (BI t).2).length<=6000:=by rw[List.length_take];omega
 have hlen:(Nz ((BI t).1,t.take (BI t).2,o)).text.data.toList.length<=6000:=hlen
 have other:(BI t).1≠3->(BI t).1≠4->(BI t).1≠5->Gd (Nz ((BI t).1,t.take (BI t).2,o)):=by
   intro h3 h4 h5;refine⟨λh=>?_,λh=>?_,λh=>?_,hlen⟩;have:(((BI t).1:Nat):Int)=3:=h;omega;have:(((BI t).1:Nat):Int)=3\/(((BI t).1:Nat):Int)=4:=h;omega;have:(((BI t).1:Nat):Int)=5:=h;omega
 by_cases c2:I1 2 t=true;refine other ?_ ?_ ?_<;>(unfold BI;rw[if_pos c2];split<;>simp)
 by_cases c4:I1 4 t=true;refine other ?_ ?_ ?_<;>(unfold BI;rw[if_neg c2,if_pos c4];split<;>simp)
 by_cases c8:I1 8 t=true;rotate_left;have:BI t=Mh t Gq:=by unfold BI;rw[if_neg c2,if_neg c4,if_neg c8]
 rcases Si t Gq with h1 | h1
 rw[this] at h;exact absurd h1 h;rw[<- this] at h1;exact other (by omega) (by omega) (by omega);have hr:BI t=IU t:=by unfold BI;rw[if_neg c2,if_neg c4,if_pos c8]
 have hp:=aiA c8;have hsp:=YO 8 t;rw[hr] at h hlen ⊢;unfold IU at h hlen ⊢;dsimp only at h hlen ⊢;by_cases hd:GI t=true;rw[if_pos hd] at h hlen ⊢;split at h;rename_i hf;rw[if_pos hf] at hlen ⊢;refine⟨λh=>?_,λh=>?_,λh=>?_,hlen⟩;have:(((5:Nat)):Int)=3:=h;omega;have:(((5:Nat)):Int)=3\/((5:Nat):Int)=4:=h;omega;obtain⟨c0,c1,c2,c3,c5,c6,c8,c9,h0,a0,a1,a2,a3,a5,a6,a8,a9⟩:=wS hd;dsimp only[Nz];rw[h0];exact wT a0 a1 a2 a3 a5 a6 a8 a9;exact absurd rfl h;rw[if_neg hd] at h hlen ⊢;by_cases h0:t.head?=some 48/\1 < BE 8 t;rw[if_pos h0] at h;exact absurd rfl h;rw[if_neg h0] at h hlen ⊢;by_cases h1:(t.drop (BE 8 t)).head?=some 46;rw[if_pos h1] at h hlen ⊢;by_cases h2:10 < BE 8 t\/I1 8 (t.drop (BE 8 t+1))=false\/I1 8 (t.drop (BE 8 t+2))=false;rw[if_pos h2] at h;exact absurd rfl h;rw[if_neg h2] at h hlen ⊢;split at h;rename_i hf;rw[if_pos hf] at hlen ⊢;refine⟨λh=>?_,λ_=>?_,λh=>?_,hlen⟩;have:(((4:Nat)):Int)=3:=h;omega;simp only[not_or,Bool.not_eq_false] at h2;obtain⟨x,y,e,hx,hy⟩:=nI h1 h2.2.1 h2.2.2;dsimp only[Nz];rw[e];have hs:=lB t;refine ZS (m:=t.take (BE 8 t)++[x,y]) (agV hs) ?_ (by simp) ?_ ?_;simp only[List.length_append,List.length_take,List.length_cons,List.length_nil];omega;simp only[List.length_append,List.length_take,List.length_cons,List.length_nil];omega;intro c hc;rcases List.mem_append.1 hc with hc | hc
 exact hs c hc;simp only[List.mem_cons,List.not_mem_nil,or_false] at hc;rcases hc with rfl | rfl
 exact hx;exact hy;have:(((4:Nat)):Int)=5:=h;omega;exact absurd rfl h;rw[if_neg h1] at h hlen ⊢;by_cases h2:12 < BE 8 t;rw[if_pos h2] at h;exact absurd rfl h;rw[if_neg h2] at h hlen ⊢;split at h;rename_i hf;rw[if_pos hf] at hlen ⊢;have hs:=lB t
 have hne:t.take (BE 8 t)≠[]:=λe=>by
   have:=congrArg List.length e;rw[List.length_take,List.length_nil] at this;omega
 refine⟨λh=>?_,λ_=>?_,λh=>?_,hlen⟩;exact XD hne (by rw[List.length_take];omega) hs;exact ZS (apM hs) (by rw[List.length_take];omega) hne (by rw[List.length_take];omega) hs;have:(((3:Nat)):Int)=5:=h;omega;exact absurd rfl h
def bI:∀(n o:Nat) (t:List UInt8) (x:LexS.Tok),x∈LF n o t->x.1≠0->∃u o',u.length<=t.length/\(BI u).1≠0/\x=((BI u).1,u.take (BI u).2,o'):=by
 intro n
 induction n with
 | zero=>intro o t x h;cases h
 | succ n ih =>
   intro o t x h h0;unfold LF at h;split at h;cases h;split at h;rw[List.mem_singleton.1 h] at h0;exact absurd rfl h0;rename_i hr;rcases List.mem_cons.1 h with rfl | h
   exact⟨t,o,Nat.le_refl _,hr,rfl⟩;obtain⟨u,o',h1,h2⟩:=ih _ _ _ h h0;refine⟨u,o',Nat.le_trans h1 ?_,h2⟩;simp only[List.length_drop];omega
def Yk:∀(l acc:List LexS.Tok),acc.length<=2000->(KX acc l).1.length<=2000/\∀x∈(KX acc l).1,x∈acc\/x∈l/\x.1≠0:=by
 intro l
 induction l with
 | nil=>intro acc h;exact⟨h,λx hx=>.inl hx⟩
 | cons y l ih =>
   intro acc h;unfold KX;split;exact⟨Nat.zero_le _,λx hx=>by cases hx⟩;split;exact⟨Nat.zero_le _,λx hx=>by cases hx⟩;rename_i h1 h2;obtain⟨a,b⟩:=ih (acc++[y]) (by simp only[List.length_append,List.length_singleton];omega);refine⟨a,λx hx=>?_⟩;rcases b x hx with hx | ⟨hx,h0⟩
   rcases List.mem_append.1 hx with hx | hx
   exact .inl hx;rw[List.mem_singleton.1 hx];exact .inr ⟨List.mem_cons_self ..,h2⟩;exact .inr ⟨List.mem_cons_of_mem _ hx,h0⟩
def Sl(s:ByteArray):Gl (FV s)/\(FV s).length<=2000:=by
 unfold FV Ly;split;refine⟨?_,Nat.zero_le _⟩;intro t ht;cases ht;rename_i hs;obtain⟨a,b⟩:=Yk (Em s.data.toList) [] (Nat.zero_le _);refine⟨?_,by rw[List.length_map];exact a⟩;intro t ht;obtain⟨x,hx,rfl⟩:=List.mem_map.1 ht;rcases b x hx with hx | ⟨hx,h0⟩
 cases hx;obtain⟨u,o',h1,h2,rfl⟩:=bI _ _ _ x hx h0;rw[List.length_drop] at h1;exact aiY (by omega) h2
end Mo
end Go.Proofs.YtpbkhogolfegfaaGreatDoor
namespace Go.Proofs.YtpbkhogolfegfaaGreatDoor
open AI Go
namespace Mo
set_option maxRecDepth 100000
section
variable {α β:Type} {c:Nat} {f:α->Nat} {g:β->Nat}
def SU(c:Nat)(f:α->Nat)(m:Rd α):Prop:=∀⦃l:List Tk⦄ ⦃a:α⦄ ⦃s:List Tk⦄,m l=some (.inl a,s)->f a+s.length<=l.length+c
def BL{m:Rd α}{K:α->Rd β}(h1:SU c f m)(h2:∀a,SU (f a) g (K a)):SU c g (Cu m K):=by
 intro l b s h;rcases JW h with ⟨a,s',e1,e2⟩ | ⟨d,_,h⟩
 have a1:=h1 e1;have a2:=h2 a e2;omega;cases h
def D1{a:α}(h:f a<=c):SU c f (Gj a):=by
 intro l b s e;obtain⟨e1,rfl⟩:=Ln e;cases e1;omega
def I5{e p:Int}:SU c f (Mv e p):=by
 intro l b s h;obtain⟨h,_⟩:=Np h;cases h
def My{X:Option β}{K:β->Rd α}(h:∀b,X=some b->SU c f (K b)):SU c f (Lh X K):=by
 intro l a s e;obtain⟨b,hb,e⟩:=JX e;exact h b hb e
def YQ{en:Int}{K:Tk->Rd α}(h:∀t,SU c f (K t)):SU c f (Wj en K):=by
 intro l a s e;cases l with
 | nil=>cases e
 | cons t l=>exact h t e
def RV{K:Rd α}(h:SU (c+1) f K):SU c f (Xe K):=by
 intro l a s e;cases l with
 | nil=>cases e
 | cons t l=>have:=h (l:=l) e;simp only[List.length_cons];omega
def Cl{b:Bool}{A B:Rd α}(h1:SU c f A)(h2:SU c f B):SU c f (cond b A B):=by cases b;exact h2;exact h1
def VM{x:ByteArray}{A B:Rd α}(h1:SU (c+1) f A)(h2:SU c f B):SU c f (N9 x A B):=by
 intro l a s e;unfold N9 at e;cases hx:Ji x l with
 | true=>rw[hx] at e;exact RV h1 e
 | false=>rw[hx] at e;exact h2 e
def VL{n:Nat}{m:Rd α}(h:SU c f m):SU c f (PI n m):=λ_ _ _ e=>h (Oj e).2
def SU.le{c':Nat}{m:Rd α}(h:SU c f m)(hc:c<=c'):SU c' f m:=λ_ _ _ e=>by have:=h e;omega
end
section
variable {c:Nat} {en:Int}
def LU{f:Tk->Option Bool}:SU c (λ_=>c+1) (Mi en f):=YQ λt=>My λb _=>Cl (RV (D1 (Nat.le_refl _))) I5
def GR{x:ByteArray}:SU c (λ_=>c+1) (JO en x):=LU
def aP:SU c (λ_=>c+1) (Om en):=BL LU λt=>My λn _=>D1 (Nat.le_refl _)
def PP{least:Int}:SU c (λ_=>c+1) (Mw en least):=BL aP λp=>Cl I5 (Cl I5 (D1 (Nat.le_refl _)))
def Xj{least:Int}:SU c (λ_=>c+1) (V3 en least):=BL LU λt=>My λd _=>Cl (Cl I5 (D1 (Nat.le_refl _))) I5
def Iv(k:Int)(nm u:ByteArray)(n:Int)(ks:List Nd)(p:Int):D7 (Ee k nm u n ks p)=1+Ha ks:=rfl
def OB(n:Nd):Ha [n]=D7 n:=by simp[Ha]
def YS(l m:List Nd):Ha (l++m)=Ha l+Ha m:=by
 induction l with
 | nil=>simp[Ha]
 | cons a l ih=>simp only[List.cons_append,Ha,ih];omega
def aqT:SU c (λn=>D7 n+c) (iN en) :=
 BL GR λt=>BL PP λn=>BL GR λ_=>BL Xj λf =>
   VM (BL Xj λu=>BL GR λ_=>BL Xj λk=>D1 (by show 1+Ha []+c<=_;simp only[Ha];omega)) (BL GR λ_=>BL Xj λk=>D1 (by show 1+Ha []+c<=_;simp only[Ha];omega))
def uW:SU c (λn=>D7 n+c) (V4 en) :=
 YQ λt=>RV (BL LU λm=>BL GR λ_=>BL LU λu=>Cl (BL LU λr=>My λn _=>BL GR λ_=>D1 (by rw[Iv];simp only[Ha];omega)) (BL GR λ_=>D1 (by rw[Iv];simp only[Ha];omega)))
def Ta:SU c (λn=>D7 n+c) (He en):=BL PP λp=>D1 (by rw[Iv];simp only[Ha];omega)
def aqV{read:Rd Nd}(hr:∀c,SU c (λn=>D7 n+c) read):∀(q:Nat) (ns:List Nd) (c:Nat),SU (Ha ns+c) (λr=>Ha r+c) (RL read q ns):=by
 intro q
 induction q with
 | zero=>intro ns c l a s h;cases h
 | succ q ih =>
   intro ns c;refine VM (BL (hr _) λn=>VL ((ih (ns++[n]) c).le ?_)) (D1 (Nat.le_refl _));rw[YS,OB];omega
def uX{read:Rd Nd}(hr:∀c,SU c (λn=>D7 n+c) read):SU c (λr=>Ha r+c) (S8 read) :=
 BL (hr c) λn l a s h=>by
   have:=aqV hr _ [n] c h;rw[OB] at this;exact this
def YR:SU c (λ_=>c+1) (O2 en):=BL LU λt=>My λd _=>Cl (Cl (D1 (Nat.le_refl _)) I5) (D1 (Nat.le_refl _))
def aqW:SU c (λ_=>c+1) (YN en):=BL LU λt=>Cl (D1 (Nat.le_refl _)) (D1 (Nat.le_refl _))
def aR{Ax a b:Int}:SU c (λ_=>c) (Qj en Ax a b):=BL aqW λs=>BL PP λm=>BL GR λ_=>BL PP λd=>My λg _=>My λz _=>Cl I5 (D1 (by omega))
def SU.imp{α:Type}{f f':α->Nat}{m:Rd α}(h:SU c f m)(hf:∀a,f' a<=f a):SU c f' m:=λ_ a _ e=>by have:=h e;have:=hf a;omega
def aQ{Ax a:Int}:SU c (λ_=>c) (Ow en Ax a):=BL GR λ_=>VM (BL YR λa=>aR.imp λ_=>by omega) (BL YR λa=>aR.imp λ_=>by omega)
def aiK{before:List Pt}{Ax:Int}:SU c (λ_=>c) (TJ en before Ax):=BL YR λv=>Cl (Cl (aQ.imp λ_=>by omega) I5) (My λq _=>Cl I5 (Cl I5 (aQ.imp λ_=>by omega)))
def zE:∀(q:Nat) (l:List Pt) (k:Int) (c:Nat),SU c (λ_=>c) (MW en q l k):=by
 intro q
 induction q with
 | zero=>intro l k c _ _ _ h;cases h
 | succ q ih=>intro l k c;exact BL aiK λp=>VL (VM ((ih _ _ _).imp λ_=>by omega) (D1 (Nat.le_refl _)))
def zF{k p:Int}:∀(l:List Pt) (acc:List Pc),SU c (λ_=>c) (M1 k p l acc):=by
 intro l
 induction l with
 | nil=>intro acc;exact D1 (Nat.le_refl _)
 | cons x l ih=>intro acc;exact My λz _=>Cl I5 (Cl I5 (VL (ih _)))
def wL{op:ByteArray}{l r x:Nd}(h:A9 op l r=some x):D7 x=1+D7 l+D7 r:=by
 unfold A9 at h;revert h;have e1:∀(nm:ByteArray) (a b:Nd) (p:Int),D7 (⟨16,nm,ByteArray.empty,0,0,0,0,⟨0,[]⟩,[a,b],p⟩:Nd)=1+D7 a+D7 b:=by intro nm a b p;simp only[D7,Ha];omega
 cases BS op.data.toList Gf.data.toList;cases BS op.data.toList Dk.data.toList;intro h1;cases h1;exact e1 _ _ _ _;cases JG op Gf GP 1 with
 | none=>intro h1;cases h1
 | some y=>intro h1;cases h1;rw[e1];omega
 cases JG op Gf GP 1 with
 | none=>intro h1;cases h1
 | some y=>intro h1;cases h1;rw[e1];omega
def auX{α:Type}{f:α->Nat}{yes:ByteArray->Rd α}{no:Rd α}(h1:∀x,SU (c+1) f (yes x))(h2:SU c f no):∀ops:List ByteArray,SU c f (Zz yes no ops):=by
 intro ops
 induction ops with
 | nil=>exact h2
 | cons x ops ih=>exact VM (h1 x) ih
def lE{sub:Rd Nd}(h:∀c,SU c (λn=>D7 n+c) sub)(op:ByteArray)(l:Nd):SU (D7 l+c+1) (λn=>D7 n+c) (Ky en sub op l) :=
 BL (Cl Ta (h _)) λr=>My λx hx=>D1 (by rw[wL hx];omega)
def aiH{ops:List ByteArray}{sub:Rd Nd}(h:∀c,SU c (λn=>D7 n+c) sub):∀(q:Nat) (l:Nd) (c:Nat),SU (D7 l+c) (λn=>D7 n+c) (GC en ops sub q l):=by
 intro q
 induction q with
 | zero=>intro l c _ _ _ h;cases h
 | succ q ih=>intro l c;exact auX (λx=>BL (lE h x l) λb=>ih b c) (D1 (Nat.le_refl _)) ops
structure Siz(g:Ek->Rd Nd)(li:Rd (List Nd)):Prop where
 sg:∀e c,SU c (λn=>D7 n+c) (g e)
 sli:∀c,SU c (λr=>Ha r+c) li
def aqM:∀q:Nat,Siz (gP en q).1 (gP en q).2:=by
 intro q
 induction q with
 | zero =>
   constructor;intro e c _ _ _ h;cases h;intro c _ _ _ h;cases h
 | succ q A =>
   refine⟨λe c=>?_,λc=>uX (A.sg .ex)⟩;show SU c (λn=>D7 n+c) (QS en (gP en q).1 (gP en q).2 e);have lv:∀i,SU c (λn=>D7 n+c) (Lx en (gP en q).1 i):=λi=>BL (A.sg _ _) λN l a s h=>aiH (A.sg _) _ N c h;unfold QS;split;exact A.sg _ _
   · intro l a s h
     unfold WA at h;cases hx:Ji SG l with
     | true =>
       rw[hx] at h;exact BL (g:=λn=>D7 n+c) GR (λt=>BL (A.sg _ _) λk=>D1 (by rw[Iv,OB];omega)) h
     | false=>rw[hx] at h;exact A.sg _ _ h
   exact BL (A.sg _ _) λN=>auX (λx=>lE (A.sg _) x N) (D1 (Nat.le_refl _)) _;exact A.sg _ _;exact lv _;refine YQ λt=>Cl (BL aP λn=>VM (D1 (by rw[Iv];simp only[Ha];omega)) (D1 (by rw[Iv];simp only[Ha];omega))) (Cl (RV (BL LU λa=>My λz _=>D1 (by rw[Iv];simp only[Ha];omega))) (My λb _=>Cl (RV (D1 (by rw[Iv];simp only[Ha];omega))) (A.sg _ _)));have one:∀(k:Int) (nm u:ByteArray) (n p:Int),SU c (λn=>D7 n+c) (Xe (Gj (Ee k nm u n [] p))):=λ_ _ _ _ _=>RV (D1 (by rw[Iv];simp only[Ha];omega))
   exact Cl (one _ _ _ _ _) (Cl (one _ _ _ _ _) (Cl (RV (BL PP λp=>D1 (by rw[Iv];simp only[Ha];omega))) (Cl (one _ _ _ _ _) (Cl (one _ _ _ _ _) (Cl (one _ _ _ _ _) (Cl (one _ _ _ _ _) (Cl (A.sg _ _) (Cl (A.sg _ _) (Cl (A.sg _ _)
     (Cl (RV (BL (A.sg _ _) λa=>BL GR λ_=>D1 (by omega))) I5))))))))))
   exact YQ λt=>RV (BL GR λ_=>BL (A.sg _ _) λa=>BL GR λ_=>BL (A.sli _) λl=>VL (BL GR λ_=>D1 (by rw[Iv];simp only[Ha];omega)));exact BL GR λt=>BL GR λ_=>BL (A.sg _ _) λa=>BL GR λ_=>BL (λl a s h=>zE _ _ _ _ h) λl=>BL GR λe=>VL (BL (zF _ _) λr=>D1 (by show 1+Ha [a]+c<=D7 a+(c+1+1)+1+1;rw[OB];omega))
def aiI:SU c (λn=>D7 n+c) (Q8 en):=λ_ _ _ h=>(aqM _).sg .ex c h
def zD(kind:Int):SU c (λn=>D7 n+c) (KR en (Q8 en) kind) :=
 YQ λt=>RV (Cl (BL (uX λc=>Ta) λl=>BL GR λ_=>D1 (by rw[Iv];omega)) (BL aiI λe=>BL GR λ_=>D1 (by rw[Iv,OB];omega)))
def aiJ{mk:List Nd->Nd}(hm:∀l,D7 (mk l)=1+Ha l):∀(q:Nat) (ns:List Nd) (un am:Bool) (c:Nat),SU (Ha ns+c+1) (λn=>D7 n+c) (Kw en (Q8 en) mk q ns un am):=by
 intro q
 induction q with
 | zero=>intro ns un am c _ _ _ h;cases h
 | succ q ih =>
   intro ns un am c
   have go:∀(kind:Int) (qV nC:Bool),SU (Ha ns+c+1) (λn=>D7 n+c) (Cu (KR en (Q8 en) kind) λx=>PI (ns.length+1) (Kw en (Q8 en) mk q (ns++[x]) qV nC)):=λkind qV nC =>
     BL (zD kind) λx=>VL ((ih (ns++[x]) qV nC c).le (by rw[YS,OB];omega))
   exact YQ λt=>Cl (go _ _ _) (Cl (Cl I5 (go _ _ _)) (Cl (Cl I5 (go _ _ _)) (Cl (Cl (RV (D1 (by rw[hm];omega))) I5) I5)))
def aqU:SU c (λn=>D7 n+c) (Uw en (Q8 en)) :=
 YQ λt=>Cl uW (Cl uW (Cl (BL GR λt=>BL PP λn=>BL GR λ_=>BL LU λm=>BL aqT λh=>BL GR λ_=>λl a s e=>by
   have:=aiJ (λl=>rfl) _ [h] false false c e;rw[OB] at this;dsimp only at this ⊢;omega) I5))
end
def ajW(a b:Nat):aBA (a:Int) (b:Int)=((max a b:Nat):Int):=by
 unfold aBA;split<;>omega
def acF:∀n:Nd,Of n<=D7 n:=by
 intro n
 have key:∀(q:Nat) (n:Nd),D7 n<=q->Of n<=D7 n:=by
   intro q
   induction q with
   | zero=>intro n h;rw[FU] at h;omega
   | succ q ih =>
     intro n h;rw[Ni,FU];have:fI n.kids<=Ha n.kids:=XP.2 λk hk=>Nat.le_trans (ih k (by have:=Sk hk;omega)) (M5 hk);omega
 exact key _ n (Nat.le_refl _)
def xY:∀(q:Nat) (n:Nd),D7 n<=q->D7 n<=1000000->Dp q n=some (((D7 n:Nat):Int),((Of n:Nat):Int)):=by
 intro q
 induction q with
 | zero=>intro n h;have:=FU n;omega
 | succ q ih =>
   intro n hq hz;have hsz:=FU n;rw[Dp,JR];rw[show Lk n.kids.length=λy:Option ((Int×Int)⊕(Int×Int))=>y from funext λy=>if_pos (by have:=Sj n.kids;omega),List.drop_zero]
   have key:∀(m:List Nd),(∀k∈m,k∈n.kids)->∀(i c d:Nat),c+Ha m<=1000000->CX (ρ:=Int×Int) (λi y x=>FZ (Dp q) i y x.1 x.2) (λx=>(x.1,x.2)) m i ((c:Int),(d:Int))=some (.inl (((c+Ha m:Nat):Int),((max d (fI m):Nat):Int))):=by
     intro m
     induction m with
     | nil=>intro _ i c d _;simp[CX,Ha,fI]
     | cons a m ihm =>
       intro hm i c d hc;simp only[Ha] at hc;have ha:=hm a (List.mem_cons_self ..);rw[CX,FZ,ih a (by have:=M5 ha;omega) (by have:=M5 ha;omega),Option.bind_some];dsimp only;rw[Gr (by omega),ajW];have:=ihm (λk hk=>hm k (List.mem_cons_of_mem _ hk)) (i+1) (c+D7 a) (max d (Of a)) (by omega);rw[Option.bind_some];dsimp only[Og];rw[show(c:Int)+(D7 a:Int)=((c+D7 a:Nat):Int) by omega,this];simp only[Ha,fI,Nat.add_assoc,Nat.max_assoc]
   have h1:=key n.kids (λ_ h=>h) 0 1 0 (by omega);have h1:CX (ρ:=Int×Int) (λi y x=>FZ (Dp q) i y x.1 x.2) (λx=>(x.1,x.2)) n.kids 0 (1,0)=some (.inl (((1+Ha n.kids:Nat):Int),((max 0 (fI n.kids):Nat):Int))):=h1;rw[h1,Option.bind_some];dsimp only[N4];have hd:=Ni n;have hd2:=acF n;rw[Gr (by omega),hsz,hd];congr 2;omega
def Z8{n:Nd}(hz:D7 n<=1000000):Dm n=some (if 2000 < D7 n\/40 < Of n then (z0,[⟨2,0⟩]) else (n,[])):=by
 have:LC n=some (((D7 n:Nat):Int),((Of n:Nat):Int)):=Vk (D7 n) λq hq=>xY q n hq hz;unfold Dm;rw[this,Option.bind_some];dsimp only;by_cases h1:2000 < D7 n;rw[Ny (by omega),if_pos (.inl h1)];rfl;rw[KZ (by omega)];by_cases h2:40 < Of n;rw[Ny (by omega),if_pos (.inr h2)];rfl;rw[KZ (by omega),if_neg (by omega)];rfl
end Mo
end Go.Proofs.YtpbkhogolfegfaaGreatDoor
namespace Go.Proofs.YtpbkhogolfegfaaGreatDoor
open AI Go
namespace Mo
set_option maxRecDepth 100000
def xU(n:Nd):Nd×List Dg:=if 2000 < D7 n\/40 < Of n then (z0,[⟨2,0⟩]) else (n,[])
def aAQ{en:Int}:∀(q:Nat) (l:List Tk) (ks:List Nd) (ds:List Dg) (r:List Nd×List Dg),Gl l->l.length<=10000->UP en q l ks ds=some r->Ha r.1<=Ha ks+l.length/\r.2.length<=max 20 ds.length:=by
 intro q
 induction q with
 | zero=>intro l ks ds r _ _ h;cases h
 | succ q ih =>
   intro l ks ds r hg hl h;cases l with
   | nil=>cases h;exact⟨by dsimp only;omega,by dsimp only;omega⟩
   | cons t l =>
     unfold UP at h;cases hd:E3 ((ds.length:Nat):Int) 20 with
     | false=>rw[hd] at h;cases h;exact⟨by dsimp only;omega,by dsimp only;omega⟩
     | true =>
       rw[hd] at h;dsimp only[cond] at h;have hd:=Yp hd;split at h;cases h;rename_i n s hi;have a:=aqU (c:=0) hi;obtain⟨⟨k,rfl⟩,_,_⟩:=Pp hg hl hi;have b:=ih _ _ _ _ (hg.drop k) (by rw[List.length_drop];omega) h;rw[YS,OB] at b;exact⟨by dsimp only at a;omega,b.2⟩;rename_i d s hi;obtain⟨⟨k,rfl⟩,h2,_⟩:=Pp hg hl hi;obtain⟨j,hj⟩:=PM ((t::l).drop k);have hl2:l.length<=10000:=by simp only[List.length_cons] at hl;omega
       have b:=ih _ _ _ _ (by rw[hj];exact(hg.drop k).drop j) (by omega) h;simp only[List.length_append,List.length_singleton] at b;simp only[List.length_cons];exact⟨by omega,by omega⟩
def avS(ks:List Nd):List Dg->Nd×List Dg
 | []=>xU (K8 ks)
 | ds=>(z0,ds)
def tZ{s:ByteArray}(h:Uz s=0):∃ks ds,UP ((s.data.toList.length:Nat):Int) ((FV s).length+1) (FV s) [] []=some (ks,ds)/\DL s=some (avS ks ds)/\Ha ks<=2000/\ds.length<=20:=by
 obtain⟨hg,hl⟩:=Sl s;obtain⟨ks,ds,h1,h2⟩:=yH h hg (by omega);have h3:=aAQ _ _ _ _ _ hg (by omega) h1;simp only[Ha,List.length_nil] at h3;refine⟨ks,ds,h1,?_,by omega,by omega⟩;rw[h2];cases ds with
 | nil =>
   rw[KZ (by simp)];exact Z8 (by have:=FU (K8 ks);simp only[K8] at this;rw[show D7 (K8 ks)=1+Ha ks from rfl];omega)
 | cons d ds =>
   rw[Ny (by simp only[List.length_cons];omega)];rfl
def alQ:(Nd⊕Dg)×List Tk->Nd×List Dg
 | (.inl n,[])=>xU n
 | (.inl _,t::_)=>(z0,[⟨71,t.AU⟩])
 | (.inr d,_)=>(z0,[d])
def dW{s:ByteArray}(h:Uz s=0):∃r l,Q8 ((s.data.toList.length:Nat):Int) (FV s)=some (r,l)/\BY s=some (alQ (r,l)):=by
 obtain⟨hg,hl⟩:=Sl s;obtain⟨r,l,h1,_⟩:=avA (en:=((s.data.toList.length:Nat):Int)) (n:=(FV s).length) (by omega) hg (Nat.le_refl _);refine⟨r,l,h1,?_⟩;obtain⟨k',a1,a2,rfl,a4⟩:=rV (by omega) hg (Nat.zero_le _) (by rw[List.drop_zero];exact h1);unfold BY Kz;rw[Option.bind_some];dsimp only;rw[No (by unfold Uz at h;omega)];dsimp only[cond];have a4:FM ⟨List.map Nz (LexS.Ly s.data.toList).fst,0,((s.data.toList.length:Nat):Int)⟩=some (r,(k':Int)):=a4;unfold Kn Hf;rw[a4,Option.bind_some];cases r with
 | inr d=>rfl
 | inl n =>
   dsimp only[Sum.elim];rcases Jv (FV s) a2 with ⟨h2,h3⟩ | ⟨t,h2,h3,h4⟩
   rw[h3,KZ (by show((List.map Nz (LexS.Ly s.data.toList).fst).length:Int)<=_;unfold FV at h2;omega)];dsimp only[cond,Option.bind,ajB]
   have hz:D7 n<=1000000:=by
     have:=aiI (c:=0) h1;dsimp only at this;omega
   have:=Z8 hz;rw[this];rfl;rw[h4,Ny (by show _ < ((List.map Nz (LexS.Ly s.data.toList).fst).length:Int);unfold FV at h2;omega)];dsimp only[cond]
   have hgt:IA (List.map Nz (LexS.Ly s.data.toList).fst) (k':Int)=some t:=by
     unfold IA;rw[if_pos (by omega),Int.toNat_natCast];exact h3
   rw[hgt];rfl
end Mo
end Go.Proofs.YtpbkhogolfegfaaGreatDoor
namespace Go.Proofs.YtpbkhogolfegfaaGreatDoor
open AI Go LexS
namespace Mo
set_option maxRecDepth 100000
structure Gy(t:Tk):Prop where
 name:t.kind=1->(1<=t.text.data.toList.length/\t.text.data.toList.length<=16)/\(∃b,t.text.data.toList[0]?=some b/\97<=b.toNat/\b.toNat<=122)/\∀c∈t.text.data.toList,vT c
 cur:t.kind=2->wR t.text
def WS:∀n < 128,((P5 n &&& 26)≠0->(97<=n/\n<=122)\/(48<=n/\n<=57)\/n=95)/\((P5 n &&& 4)≠0->65<=n/\n<=90)/\((P5 n &&& 2)≠0->97<=n/\n<=122):=by decide
def WR{m:Nat}{c:UInt8}(h:cin m c=true):c.toNat < 128/\(P5 c.toNat &&& m)≠0:=by
 unfold cin at h;refine⟨?_,by simpa using h⟩
 by_cases hc:c.toNat < 128;exact hc;rw[cA _ (by omega)] at h;simp at h
def lA(m:Nat)(t:List UInt8):∀c∈t.take (BE m t),cin m c=true:=by
 unfold BE
 induction t with
 | nil=>intro c hc;cases hc
 | cons x t ih =>
   intro c hc;rw[List.takeWhile_cons] at hc;split at hc;rename_i hx;rw[List.length_cons,List.take_succ_cons] at hc;rcases List.mem_cons.1 hc with rfl | hc
   exact hx;exact ih c hc;cases hc
def aAP{t:List UInt8}{o:Nat}:Gy (Nz ((BI t).1,t.take (BI t).2,o)):=by
 by_cases c2:I1 2 t=true;by_cases hc:BE 30 t<=16/\BE 26 t=BE 30 t;have hr:BI t=(1,BE 30 t):=by unfold BI;rw[if_pos c2,if_pos hc]
 rw[hr];refine⟨λ_=>?_,λh=>?_⟩;obtain⟨c,u,rfl,aCV⟩:=Uu c2
 have hp:1<=BE 26 (c::u):=by
   rw[IP,if_pos (by
     obtain⟨a,b⟩:=WR aCV;have:=(WS _ a).2.2 b;unfold cin;have:∀n < 128,(P5 n &&& 2)≠0->((P5 n &&& 26) != 0)=true:=by decide
     exact this _ a b)]
   omega
 have hsp:=YO 30 (c::u);dsimp only[Nz];refine⟨⟨by rw[List.length_take];omega,by rw[List.length_take];omega⟩,⟨c,?_,?_⟩,λx hx=>?_⟩;rw[List.getElem?_take_of_lt (by omega)];rfl;obtain⟨a,b⟩:=WR aCV;exact(WS _ a).2.2 b;rw[<- hc.2] at hx;obtain⟨a,b⟩:=WR (lA 26 _ x hx);exact(WS _ a).1 b;have:(((1:Nat)):Int)=2:=h;omega;have hr:BI t=(0,0):=by unfold BI;rw[if_pos c2,if_neg hc]
 rw[hr];exact⟨λh=>by have:(((0:Nat)):Int)=1:=h;omega,λh=>by have:(((0:Nat)):Int)=2:=h;omega⟩;by_cases c4:I1 4 t=true;by_cases hc:BE 30 t=3/\BE 4 t=BE 30 t;have hr:BI t=(2,BE 30 t):=by unfold BI;rw[if_neg c2,if_pos c4,if_pos hc]
 rw[hr];refine⟨λh=>by have:(((2:Nat)):Int)=1:=h;omega,λ_=>?_⟩;have hsp:=YO 30 t;unfold wR;dsimp only[Nz];refine⟨by rw[List.length_take];omega,λx hx=>?_⟩;rw[<- hc.2] at hx;obtain⟨a,b⟩:=WR (lA 4 _ x hx);exact(WS _ a).2.1 b;have hr:BI t=(0,0):=by unfold BI;rw[if_neg c2,if_pos c4,if_neg hc]
 rw[hr];exact⟨λh=>by have:(((0:Nat)):Int)=1:=h;omega,λh=>by have:(((0:Nat)):Int)=2:=h;omega⟩
 have:(BI t).1≠1/\(BI t).1≠2:=by
   unfold BI;rw[if_neg c2,if_neg c4];split
   · unfold IU
     dsimp only
     repeat' split
     all_goals simp
   rcases Si t Gq with h | h<;>omega
 exact⟨λh=>absurd (show(((BI t).1:Nat):Int)=1 from h) (by omega),λh=>absurd (show(((BI t).1:Nat):Int)=2 from h) (by omega)⟩
def Gx(l:List Tk):Prop:=∀t∈l,Gd t/\Gy t
def eU(s:ByteArray):Gx (FV s):=by
 intro t ht;refine⟨(Sl s).1 t ht,?_⟩;unfold FV Ly at ht;split at ht;cases ht;obtain⟨a,b⟩:=Yk (Em s.data.toList) [] (Nat.zero_le _);obtain⟨x,hx,rfl⟩:=List.mem_map.1 ht;rcases b x hx with hx | ⟨hx,h0⟩
 cases hx;obtain⟨u,o',h1,h2,rfl⟩:=bI _ _ _ x hx h0;exact aAP
section
variable {α β:Type} {P:α->Prop} {P2:β->Prop}
def Va(P:α->Prop)(m:Rd α):Prop:=∀⦃l:List Tk⦄ ⦃a:α⦄ ⦃s:List Tk⦄,Gx l->m l=some (.inl a,s)->P a/\Gx s
def BM{m:Rd α}{K:α->Rd β}(h1:Va P m)(h2:∀a,P a->Va P2 (K a)):Va P2 (Cu m K):=by
 intro l b s hg h;rcases JW h with ⟨a,s',e1,e2⟩ | ⟨d,_,h⟩
 obtain⟨pa,hg⟩:=h1 hg e1;exact h2 a pa hg e2;cases h
def DS{a:α}(h:P a):Va P (Gj a):=by
 intro l b s hg e;obtain⟨e1,rfl⟩:=Ln e;cases e1;exact⟨h,hg⟩
def I7{e p:Int}:Va P (Mv e p):=by
 intro l b s _ h;obtain⟨h,_⟩:=Np h;cases h
def NX{X:Option β}{K:β->Rd α}(h:∀b,X=some b->Va P (K b)):Va P (Lh X K):=by
 intro l a s hg e;obtain⟨b,hb,e⟩:=JX e;exact h b hb hg e
def lP{en:Int}{K:Tk->Rd α}(h:∀t,Gd t/\Gy t->Va P (K t)):Va P (Wj en K):=by
 intro l a s hg e;cases l with
 | nil=>cases e
 | cons t l=>exact h t (hg t (List.mem_cons_self ..)) hg e
def PQ{K:Rd α}(h:Va P K):Va P (Xe K):=by
 intro l a s hg e;cases l with
 | nil=>cases e
 | cons t l=>exact h (λt ht=>hg t (List.mem_cons_of_mem _ ht)) e
def DH{b:Bool}{A B:Rd α}(h1:b=true->Va P A)(h2:b=false->Va P B):Va P (cond b A B):=by cases b;exact h2 rfl;exact h1 rfl
def VS{x:ByteArray}{A B:Rd α}(h1:Va P A)(h2:Va P B):Va P (N9 x A B):=by
 intro l a s hg e;unfold N9 at e;cases hx:Ji x l with
 | true=>rw[hx] at e;exact PQ h1 hg e
 | false=>rw[hx] at e;exact h2 hg e
def VR{n:Nat}{m:Rd α}(h:Va P m):Va P (PI n m):=λ_ _ _ hg e=>h hg (Oj e).2
def Va.imp{P':α->Prop}{m:Rd α}(h:Va P m)(f:∀a,P a->P' a):Va P' m:=λ_ a _ hg e=>⟨f a (h hg e).1,(h hg e).2⟩
end
section
variable {en:Int}
def LV{f:Tk->Option Bool}:Va (λt=>(Gd t/\Gy t)/\f t=some true) (Mi en f) :=
 lP λt ht=>NX λb hb=>DH (λh=>PQ (DS ⟨ht,by rw[hb,h]⟩)) λ_=>I7
def GS{x:ByteArray}:Va TT (JO en x):=LV.imp λ_ _=>trivial
def W7{t:Tk}(hg:Gd t/\Gy t)(h:BT t=some true):QP t.text:=by
 unfold BT at h;rw[aeZ] at h;cases hk:Dr t.kind 1 with
 | false=>rw[hk] at h;cases h
 | true =>
   rw[hk] at h;obtain⟨h1,h2,h3⟩:=hg.2.name (FG hk);refine⟨h1,h2,λhm=>?_,h3⟩;rw[Ds.2 hm] at h;cases h
def vF{t:Tk}(hg:Gd t/\Gy t)(h:E8 t=some true):UR t.text:=by
 unfold E8 at h;cases h1:BS t.text.data.toList G7.data.toList with
 | true=>exact .inl (MB h1)
 | false =>
   rw[h1] at h;cases h2:BS t.text.data.toList ED.data.toList with
   | true=>exact .inr (.inl (MB h2))
   | false =>
     rw[h2] at h;cases h3:BS t.text.data.toList JA.data.toList with
     | true=>exact .inr (.inr (.inl (MB h3)))
     | false =>
       rw[h3] at h;exact .inr (.inr (.inr (hg.2.cur (FG (Qa h).symm))))
def bB:Va (λp:Int×Int=>0<=p.1/\p.1<=999999999999) (Om en):=by
 refine BM LV λt ht=>NX λn hn=>DS ?_;obtain⟨z,h1,h2⟩:=ht.1.1.num (FG (Qa ht.2).symm);rw[h1] at hn;cases hn;exact h2
def PR(least:Int):Va (λp:Int×Int=>least<=p.1/\p.1<=1000000) (Mw en least) :=
 BM bB λp _=>DH (λ_=>I7) λh1=>DH (λ_=>I7) λh2=>DS ⟨KA h1,KA h2⟩
def Xn(least:Int):Va (λd:Int=>least<=d/\0<=d/\d<=36524) (V3 en least):=by
 refine BM LV λt ht=>NX λd hd=>DH (λh=>DH (λ_=>I7) λh3=>DS ⟨KA h3,?_⟩) λ_=>I7;obtain⟨d',e,h1,h2⟩:=ht.1.1.date (FG (Qa ht.2).symm);rw[h1] at hd;cases hd;exact h2 (FG h)
def arW:Va QJ (iN en):=by
 have mk:∀{n f u k p:Int},(0<=n/\n<=1000000)->(0<=f/\f<=36524)->(f < u/\u<=36525)->(0<=k/\k<=36524)->QJ ⟨5,bE,bE,n,f,u,k,⟨0,[]⟩,[],p⟩ :=
   λh1 h2 h3 h4=>⟨rfl,h1,rfl,h2,h3,h4,rfl,rfl,rfl,rfl,rfl,rfl,rfl,rfl⟩
 exact BM GS λt _=>BM (PR _) λn hn=>BM GS λ_ _=>BM (Xn _) λf hf =>
   VS (BM (Xn _) λu hu=>BM GS λ_ _=>BM (Xn _) λk hk=>DS (mk hn hf.2 ⟨by have:=hu.1;rw[Gr (by have:=hf.2;omega)] at this;omega,by have:=hu.2;omega⟩ hk.2))
     (BM GS λ_ _=>BM (Xn _) λk hk=>DS (mk hn hf.2 ⟨by have:=hf.2;omega,by omega⟩ hk.2))
def apP{x:ByteArray}{n:Int}(h:Ep x=some n):0<=n/\n<=4:=by
 unfold Ep at h;revert h;cases BS SZ.data.toList x.data.toList;cases BS LI.data.toList x.data.toList;cases BS OO.data.toList x.data.toList;cases BS S5.data.toList x.data.toList<;>(intro h;cases h;decide)
 intro h;cases h;decide;intro h;cases h;decide;intro h;cases h;decide
def vM:Va ID (V4 en):=by
 refine lP λt _=>PQ (BM LV λm hm=>BM GS λ_ _=>BM LV λu hu=>DH (λ_=>BM LV λr hr=>NX λn hn=>BM GS λ_ _=>DS (.inr (.inl ?_))) λ_=>BM GS λ_ _=>DS (.inl ?_));have h1:=apP hn
 have h2:0 < n:=by
   have h:=hr.2;unfold BW at h;rw[hn] at h;exact Yp (by cases hq:E3 0 n with | true=>rfl | false=>(simp only[Option.bind_some,hq,cond_false] at h;cases h))
 exact⟨rfl,W7 hm.1 hm.2,vF hu.1 hu.2,(by omega:1<=n),h1.2,rfl,rfl,rfl,rfl,rfl,rfl,rfl,rfl,rfl⟩;exact⟨rfl,W7 hm.1 hm.2,vF hu.1 hu.2,rfl,rfl,rfl,rfl,rfl,rfl,rfl,rfl,rfl⟩
end
end Mo
end Go.Proofs.YtpbkhogolfegfaaGreatDoor
namespace Go.Proofs.YtpbkhogolfegfaaGreatDoor
open AI Go LexS
namespace Mo
set_option maxRecDepth 100000
section
variable {en:Int}
def Y5:Va (λp:Int×Int=>0<=p.1/\p.1<=999999999999) (O2 en):=by
 refine BM LV λt ht=>NX λc hc=>?_
 have hk:t.kind=3\/t.kind=4:=by
   have h:=ht.2;unfold Db at h;cases h4:Dr t.kind 4 with
   | true=>exact .inr (FG h4)
   | false =>
     rw[h4] at h;exact .inl (FG (Qa h).symm)
 obtain⟨z,h1,h2⟩:=ht.1.1.rM hk;rw[h1] at hc;cases hc;exact DH (λ_=>DH (λ_=>DS h2) λ_=>I7) λ_=>DS h2
def arZ:Va (λs:Int=>s=1\/s=-1) (YN en):=BM LV λt _=>DH (λ_=>DS (.inr rfl)) λ_=>DS (.inl rfl)
def ayO{Ax d g z:Int}(hc:1<=Ax/\Ax<=1000000)(hd:1<=d/\d<=1000000)(h1:adD Ax d=some g)(h2:SB Ax g=some z):1<=BQ z d:=by
 obtain⟨g',e1,mO,⟨c1,h3⟩,_⟩:=adF hc.1 (show(0:Int)<=d by omega);rw[h1] at e1;cases e1;rw[XQ (by omega) (by omega) (by omega)] at h2;cases h2;have hq:Ax / g=c1:=by rw[h3,Int.mul_ediv_cancel_left _ (by omega)]
 have hc1:1<=c1:=by
   by_cases h:1<=c1;exact h;have:=Int.mul_nonpos_of_nonneg_of_nonpos (show 0<=g by omega) (show c1<=0 by omega);omega
 have hc2:c1<=1000000:=by
   have:=Int.mul_le_mul_of_nonneg_right mO (show 0<=c1 by omega);omega
 rw[hq];have a1:=Int.mul_le_mul hc2 hd.2 (by omega) (by omega);have a2:=Int.mul_nonneg (show 0<=c1 by omega) (show 0<=d by omega);rw[IR (by omega)];have:=Int.mul_le_mul_of_nonneg_right hc1 (show 0<=d by omega);omega
def PtP(before:List Pt)(x:Pt×Int):Prop:=(0<=x.1.fr/\x.1.fr<=999999999999)/\(before=[]->x.1.fr=0)/\(∀q,before[before.length - 1]?=some q->q.fr < x.1.fr)/\before.length<=63/\(-999999999999<=x.1.AU/\x.1.AU<=999999999999)/\1<=x.2/\x.2<=1000000
def bD{Ax:Int}(hc:1<=Ax/\Ax<=1000000)(from_ a:Int):Va (λx:Pt×Int=>x.1.fr=from_/\x.1.AU=a/\1<=x.2/\x.2<=1000000) (Qj en Ax from_ a) :=
 BM arZ λs hs=>BM (PR _) λm hm=>BM GS λ_ _=>BM (PR _) λd hd=>NX λg hg=>NX λz hz=>DH (λ_=>I7) λh5=>DS ⟨rfl,rfl,ayO hc hd hg hz,KA h5⟩
def bC{Ax:Int}(hc:1<=Ax/\Ax<=1000000)(from_:Int):Va (λx:Pt×Int=>x.1.fr=from_/\(-999999999999<=x.1.AU/\x.1.AU<=999999999999)/\1<=x.2/\x.2<=1000000) (Ow en Ax from_) :=
 BM GS λ_ _=>VS (BM Y5 λa ha=>(bD hc _ _).imp λx hx=>⟨hx.1,by rw[hx.2.1,IR (by omega)];omega,hx.2.2⟩) (BM Y5 λa ha=>(bD hc _ _).imp λx hx=>⟨hx.1,by rw[hx.2.1,IR (by omega)];omega,hx.2.2⟩)
def ajP(before:List Pt){Ax:Int}(hc:1<=Ax/\Ax<=1000000):Va (PtP before) (TJ en before Ax):=by
 refine BM Y5 λv hv=>DH (λh=>DH (λh0=>(bC hc _).imp λx hx=>?_) λ_=>I7) λh=>NX λq hq=>DH (λ_=>I7) λh1=>DH (λ_=>I7) λh2=>(bC hc _).imp λx hx=>?_;have hn:before=[]:=List.eq_nil_of_length_eq_zero (by have:=FG h;omega);have h0:=FG h0;exact⟨by rw[hx.1];omega,λ_=>by rw[hx.1];exact h0,λq hq=>(by rw[hn] at hq;cases hq),by rw[hn];exact Nat.zero_le _,hx.2⟩;have h1:=afC h1;have h2:=afC h2;have hne:before≠[]:=λe=>ZW h (by rw[e];rfl);exact⟨by rw[hx.1];omega,λe=>absurd e hne,λq' mQ=>(by rw[hq] at mQ;cases mQ;rw[hx.1];exact h1),by omega,hx.2⟩
def PLP(ps:List Pt):Prop:=(∀x,ps[0]?=some x->x.fr=0)/\∀(i:Nat) p,ps[i]?=some p->(0<=p.fr/\p.fr<=999999999999)/\(∀q,0 < i->ps[i - 1]?=some q->q.fr < p.fr)/\-999999999999<=p.AU/\p.AU<=999999999999
def uB{ps:List Pt}{x:Pt×Int}(h:PLP ps)(hx:PtP ps x):PLP (ps++[x.1]):=by
 obtain⟨a1,a2,a3,a4,a5,a6⟩:=hx
 have get:∀{i:Nat} {p:Pt},(ps++[x.1])[i]?=some p->(i < ps.length/\ps[i]?=some p)\/(i=ps.length/\p=x.1):=by
   intro i p hp;by_cases hi:i < ps.length;rw[List.getElem?_append_left hi] at hp;exact .inl ⟨hi,hp⟩;rw[List.getElem?_append_right (by omega)] at hp;cases hj:i - ps.length with
   | zero=>rw[hj] at hp;cases hp;exact .inr ⟨by omega,rfl⟩
   | succ j=>rw[hj] at hp;cases hp
 refine⟨λy hy=>?_,λi p hp=>?_⟩;rcases get hy with ⟨h1,h2⟩ | ⟨h1,rfl⟩
 exact h.1 y h2;exact a2 (List.eq_nil_of_length_eq_zero h1.symm);rcases get hp with ⟨h1,h2⟩ | ⟨rfl,rfl⟩
 obtain⟨b1,b2,b3⟩:=h.2 i p h2;refine⟨b1,λq hq Zh=>?_,b3⟩;rcases get Zh with ⟨_,h4⟩ | ⟨h3,_⟩
 exact b2 q hq h4;omega;refine⟨a1,λq hq Zh=>?_,a5⟩;rcases get Zh with ⟨_,h4⟩ | ⟨h3,_⟩
 exact a3 q h4;omega
def aaB:∀(q:Nat) (ps:List Pt) (c:Int),1<=c/\c<=1000000->PLP ps->Va (λr:List Pt×Int=>PLP r.1/\(1<=r.1.length/\r.1.length<=64)/\1<=r.2/\r.2<=1000000) (MW en q ps c):=by
 intro q
 induction q with
 | zero=>intro ps c _ _ _ _ _ _ h;cases h
 | succ q ih =>
   intro ps c hc hp;refine BM (ajP ps hc) λx hx=>VR (VS (ih _ _ hx.2.2.2.2.2 (uB hp hx)) (DS ⟨uB hp hx,?_,hx.2.2.2.2.2⟩));have:=hx.2.2.2.1;simp only[List.length_append,List.length_singleton];omega
def aaC{c p:Int}:∀(ps:List Pt) (acc:List Pc),Va (λr:List Pc=>∃out,r=acc++out/\out.length=ps.length/\∀(i:Nat) x,ps[i]?=some x->∃sl,out[i]?=some ⟨x.fr,BQ x.AU c,sl⟩/\-1000000<=sl/\sl<=1000000) (M1 c p ps acc):=by
 intro ps
 induction ps with
 | nil=>intro acc;exact DS ⟨[],by simp,rfl,λi x h=>by cases h⟩
 | cons y ps ih =>
   intro acc;refine NX λz _=>DH (λ_=>I7) λh1=>DH (λ_=>I7) λh2=>VR ((ih _).imp λr hr=>?_);obtain⟨out,rfl,h3,h4⟩:=hr;refine⟨⟨y.fr,BQ y.AU c,BQ y.num z⟩::out,by simp,by simp[h3],λi x hx=>?_⟩;cases i with
   | zero=>cases hx;exact⟨_,rfl,KA h2,KA h1⟩
   | succ i=>exact h4 i x hx
def aAN{ps:List Pt}{c:Int}{r:List Pc}(h:PLP ps)(hl:1<=ps.length/\ps.length<=64)(hc:1<=c/\c<=1000000)(h2:r.length=ps.length)(h3:∀(i:Nat) x,ps[i]?=some x->∃sl,r[i]?=some ⟨x.fr,BQ x.AU c,sl⟩/\-1000000<=sl/\sl<=1000000):lG ⟨c,r⟩:=by
 have back:∀{i:Nat} {y:Pc},r[i]?=some y->∃x sl,ps[i]?=some x/\y=⟨x.fr,BQ x.AU c,sl⟩/\-1000000<=sl/\sl<=1000000:=by
   intro i y hy;have hi:i < ps.length:=by have:=(List.getElem?_eq_some_iff.1 hy).1;omega
   obtain⟨sl,e,b⟩:=h3 i ps[i] (List.getElem?_eq_getElem hi);rw[hy] at e;exact⟨ps[i],sl,List.getElem?_eq_getElem hi,Option.some.inj e,b⟩
 refine⟨hc,by rw[h2];exact hl,λy hy=>?_,λi y hy=>?_⟩;obtain⟨x,sl,h4,rfl,_⟩:=back hy;exact h.1 x h4;obtain⟨x,sl,h4,rfl,h5,h6⟩:=back hy;obtain⟨a1,a2,a3,a4⟩:=h.2 i x h4;have m1:=Int.mul_le_mul_of_nonneg_right a4 (show 0<=c by omega);have m2:=Int.mul_le_mul_of_nonneg_right a3 (show 0<=c by omega);have e:BQ x.AU c=x.AU*c:=IR (by omega);refine⟨a1.2,λq hq Zh=>?_,?_,?_,?_,h6,h5⟩;obtain⟨x',sl',h7,rfl,_⟩:=back Zh;exact a2 x' hq h7;dsimp only;unfold XR U2;rw[if_neg (by omega),e,Int.mul_tmod_left];dsimp only;rw[e,IR (by omega)];exact m1;dsimp only;rw[e,IR (by omega)];exact m2
def arY{P:Nd->Prop}{read:Rd Nd}(hr:Va P read):∀(q:Nat) (ns:List Nd),ns≠[]->(∀n∈ns,P n)->Va (λr:List Nd=>r≠[]/\∀n∈r,P n) (RL read q ns):=by
 intro q
 induction q with
 | zero=>intro ns _ _ _ _ _ _ h;cases h
 | succ q ih =>
   intro ns h0 h;refine VS (BM hr λn hn=>VR (ih _ (by simp) λy hy=>?_)) (DS ⟨h0,h⟩);rcases List.mem_append.1 hy with hy | hy
   exact h y hy;rw[List.mem_singleton.1 hy];exact hn
def vN{P:Nd->Prop}{read:Rd Nd}(hr:Va P read):Va (λr:List Nd=>r≠[]/\∀n∈r,P n) (S8 read) :=
 BM hr λn hn _ _ _ hg h=>arY hr _ [n] (by simp) (λy hy=>by rw[List.mem_singleton.1 hy];exact hn) hg h
def azC{n p:Int}(h:1<=n/\n<=1000000):JN (Ee 11 bE ED n [] p)/\Qe (Ee 11 bE ED n [] p) :=
 ⟨(Ja _).2 ⟨.inl ⟨rfl,.inr (.inl rfl),by show 0<=n;omega,by show n<=_;omega,λe=>absurd e (show ED≠G7 by decide),rfl,rfl,rfl,rfl,rfl,rfl,rfl,rfl,rfl⟩,λk hk=>by cases hk⟩,rfl,rfl,h⟩
def Tc:Va (λn=>JN n/\Qe n) (He en):=BM (PR _) λp hp=>DS (azC hp)
end
end Mo
end Go.Proofs.YtpbkhogolfegfaaGreatDoor
namespace Go.Proofs.YtpbkhogolfegfaaGreatDoor
open AI Go LexS
namespace Mo
set_option maxRecDepth 100000
def opQ{nm:ByteArray}{a b:Nd}{p:Int}(ho:Yw nm)(ha:JN a)(hb:JN b)(hn:nm=E9->Qe b):JN ⟨16,nm,ByteArray.empty,0,0,0,0,⟨0,[]⟩,[a,b],p⟩:=by
 refine(Ja _).2 ⟨.inr (.inr (.inr (.inr (.inr (.inl ⟨rfl,⟨rfl,rfl,rfl,rfl,rfl,rfl,rfl,rfl⟩,rfl,ho,λe k hk=>?_⟩))))),λk hk=>?_⟩;cases hk;exact hn e;simp only[List.mem_cons,List.not_mem_nil,or_false] at hk;rcases hk with rfl | rfl
 exact ha;exact hb
def Vd:List ByteArray:=[Sf,J2,EU,Fw,GP,D0,Gf,Dk,K6,Jl,MY,E9,Vf]
def tY(i:Nat):∀x∈opsOf i,x∈Vd:=by
 unfold opsOf;split<;>(intro x hx;simp only[List.mem_cons,List.not_mem_nil,or_false] at hx)<;>(try (unfold Vd;simp only[List.mem_cons]))
 exact .inl hx;exact .inr (.inl hx);rcases hx with h | h | h | h | h | h<;>simp[h]
 rcases hx with h | h<;>simp[h]
 rcases hx with h | h | h<;>simp[h]
def wK{op:ByteArray}{l r x:Nd}(ho:op∈Vd)(hl:JN l)(hr:JN r)(hn:op=E9->Qe r)(h:A9 op l r=some x):JN x:=by
 unfold A9 at h;revert h;cases h1:BS op.data.toList Gf.data.toList with
 | true =>
   rw[MB h1,show JG Gf Gf GP 1=some GP from rfl];intro h;cases h;exact opQ (by unfold Yw;simp) hr hl λe=>absurd e (by decide)
 | false =>
   cases h2:BS op.data.toList Dk.data.toList with
   | true =>
     rw[MB h2,show JG Dk Gf GP 1=some D0 from rfl];intro h;cases h;exact opQ (by unfold Yw;simp) hr hl λe=>absurd e (by decide)
   | false =>
     intro h;cases h;refine opQ ?_ hl hr hn;unfold Vd at ho;simp only[List.mem_cons,List.not_mem_nil,or_false] at ho;have n1:=hJ h1;have n2:=hJ h2;unfold Yw;rcases ho with h | h | h | h | h | h | h | h | h | h | h | h | h
     all_goals first | exact absurd h n1 | exact absurd h n2 | simp[h]
section
variable {en:Int}
def avC{α:Type}{P:α->Prop}{yes:ByteArray->Rd α}{no:Rd α}(h2:Va P no):∀ops:List ByteArray,(∀x∈ops,Va P (yes x))->Va P (Zz yes no ops):=by
 intro ops
 induction ops with
 | nil=>intro _;exact h2
 | cons x ops ih=>intro h;exact VS (h x (List.mem_cons_self ..)) (ih λy hy=>h y (List.mem_cons_of_mem _ hy))
def lQ{sub:Rd Nd}(h:Va JN sub){op:ByteArray}(ho:op∈Vd){l:Nd}(hl:JN l):Va JN (Ky en sub op l):=by
 refine BM (P:=λr=>JN r/\(op=E9->Qe r)) (DH (λ_=>Tc.imp λn hn=>⟨hn.1,λ_=>hn.2⟩) λh1=>h.imp λn hn=>⟨hn,λe=>absurd e (hJ h1)⟩) λr hr=>NX λx hx=>DS (wK ho hl hr.1 hr.2 hx)
def ajM{ops:List ByteArray}(axK:∀x∈ops,x∈Vd){sub:Rd Nd}(h:Va JN sub):∀(q:Nat) (l:Nd),JN l->Va JN (GC en ops sub q l):=by
 intro q
 induction q with
 | zero=>intro l _ _ _ _ _ h;cases h
 | succ q ih=>intro l hl;exact avC (DS hl) ops λx hx=>BM (lQ h (axK x hx) hl) λb hb=>ih b hb
def azT{nm:ByteArray}{p:Int}(h:QP nm):JN (Ee 12 nm bE 0 [] p):=(Ja _).2 ⟨.inr (.inl ⟨rfl,h,rfl,rfl,rfl,rfl,rfl,rfl,rfl,rfl,rfl⟩),λk hk=>by cases hk⟩
def Yl{u:ByteArray}{n p:Int}(h:UR u)(h0:0<=n/\n<=999999999999)(h1:u=G7->n<=1):JN (Ee 11 bE u n [] p):=(Ja _).2 ⟨.inl ⟨rfl,h,h0.1,h0.2,h1,rfl,rfl,rfl,rfl,rfl,rfl,rfl,rfl,rfl⟩,λk hk=>by cases hk⟩
def dP{a:Nd}(h:JN a):∀k∈[a],JN k:=λk hk=>by rw[List.mem_singleton.1 hk];exact h
def ayY{k:Nd}{p:Int}(hk:JN k):JN (Ee 15 bE bE 0 [k] p):=(Ja _).2 ⟨.inr (.inr (.inr (.inr (.inl ⟨rfl,rfl,rfl,rfl,rfl,rfl,rfl,rfl,rfl,rfl⟩)))),dP hk⟩
def avU{n p:Int}(h:1<=n/\n<=1000000):JN (Ee 13 bE bE n [] p):=(Ja _).2 ⟨.inr (.inr (.inl ⟨rfl,h,rfl,rfl,rfl,rfl,rfl,rfl,rfl,rfl,rfl⟩)),λk hk=>(by cases hk)⟩
def apD:PLP []:=⟨λx h=>(by cases h),λi p h=>(by cases h)⟩
def alY{nm:ByteArray}{a:Nd}{l:List Nd}{p:Int}(hn:nm=Kt\/nm=FX)(ha:JN a)(hl:l≠[]/\∀n∈l,JN n):JN (Ee 17 nm bE 0 (a::l) p):=by
 refine(Ja _).2 ⟨.inr (.inr (.inr (.inr (.inr (.inr (.inl ⟨rfl,hn,⟨rfl,rfl,rfl,rfl,rfl,rfl,rfl,rfl⟩,?_⟩)))))),λk hk=>?_⟩;have:=List.length_pos_iff.2 hl.1;show 2<=(a::l).length;rw[List.length_cons];omega;rcases List.mem_cons.1 hk with rfl | hk
 exact ha;exact hl.2 k hk
structure VaE(g:Ek->Rd Nd)(li:Rd (List Nd)):Prop where
 vg:∀e,e≠.ca->(∀t,e≠.wd t)->Va JN (g e)
 vw:∀⦃t:Tk⦄ ⦃l s:List Tk⦄ ⦃a:Nd⦄,Gx (t::l)->g (.wd t) (t::l)=some (.inl a,s)->JN a/\Gx s
 vc:∀⦃t:Tk⦄ ⦃l s:List Tk⦄ ⦃a:Nd⦄,Gx (t::l)->(t.text=Kt\/t.text=FX)->g .ca (t::l)=some (.inl a,s)->JN a/\Gx s
 vli:Va (λr:List Nd=>r≠[]/\∀n∈r,JN n) li
def amG{u:ByteArray}(h:wR u):u≠G7:=by
 rintro rfl;have:=h.1;revert this;decide
def aAX:∀q:Nat,VaE (gP en q).1 (gP en q).2:=by
 intro q
 induction q with
 | zero =>
   constructor;intro e _ _ _ _ _ _ h;cases h;intro _ _ _ _ _ h;cases h;intro _ _ _ _ _ _ h;cases h;intro _ _ _ _ h;cases h
 | succ q A =>
   have lv:∀i,Va JN (Lx en (gP en q).1 i):=λi=>BM (A.vg _ (by simp) (by simp)) λN hN _ _ _ hg h=>ajM (tY i) (A.vg _ (by simp) (by simp)) _ N hN hg h;refine⟨λe hc hw=>?_,λt l s a hg h=>?_,λt l s a hg ht h=>?_,vN (A.vg .ex (by simp) (by simp))⟩
   · show Va JN (QS en (gP en q).1 (gP en q).2 e)
     unfold QS;split;exact A.vg _ (by simp) (by simp)
     · intro l a s hg h
       unfold WA at h;cases hx:Ji SG l with
       | true =>
         rw[hx] at h;exact BM (P2:=JN) GS (λt _=>BM (A.vg _ (by simp) (by simp)) λk hk=>DS (ayY hk)) hg h
       | false=>rw[hx] at h;exact A.vg _ (by simp) (by simp) hg h
     exact BM (A.vg _ (by simp) (by simp)) λN hN=>avC (DS hN) _ λx hx=>lQ (A.vg _ (by simp) (by simp)) (tY 3 x hx) hN;exact A.vg _ (by simp) (by simp);exact lv _
     · intro l a s hg h
       cases l with
       | nil=>cases h
       | cons t l =>
         have ht:=hg t (List.mem_cons_self ..);unfold V0 Wj at h;dsimp only at h;cases hk3:Dr t.kind 3 with
         | true =>
           rw[hk3] at h;exact BM (P2:=JN) bB (λn hn=>VS (DS (Yl (.inr (.inr (.inl rfl))) hn λe=>absurd e (by decide))) (DS (Yl (.inr (.inl rfl)) hn λe=>absurd e (by decide)))) hg h
         | false =>
           rw[hk3] at h;dsimp only[cond] at h;cases hk:Dr t.kind 2 with
           | true =>
             rw[hk] at h;refine PQ (P:=JN) (BM LV λa ha=>NX λz hz=>DS ?_) hg h;obtain⟨z',h1,h2⟩:=ha.1.1.rM (.inr (FG (Qa ha.2).symm));rw[h1] at hz;cases hz;have hc:=ht.2.cur (FG hk);exact Yl (.inr (.inr (.inr hc))) h2 λe=>absurd e (amG hc)
           | false =>
             rw[hk] at h;obtain⟨b,hb,h⟩:=JX h;cases b with
             | true=>exact PQ (P:=JN) (DS (azT (W7 ht hb))) hg h
             | false=>exact A.vw hg h
     rename_i t;exact absurd rfl (hw t);exact absurd rfl hc;refine BM GS λt _=>BM GS λ_ _=>BM (A.vg _ (by simp) (by simp)) λa ha=>BM GS λ_ _=>BM (λ_ _ _ hg h=>aaB _ [] 1 (by decide) apD hg h) λl hl=>BM GS λe _=>VR (BM (aaC _ _) λr hr=>DS ?_);obtain⟨out,e,h3,h4⟩:=hr;rw[List.nil_append] at e;subst e;exact(Ja _).2 ⟨.inr (.inr (.inr (.inr (.inr (.inr (.inr ⟨rfl,⟨rfl,rfl,rfl,rfl,rfl,rfl,rfl,rfl⟩,aAN hl.1 hl.2.1 hl.2.2 h3 h4,rfl⟩)))))),dP ha⟩
   · have h:Tf en (gP en q).1 t (t::l)=some (.inl a,s):=h
     have dt:cF t.text->Va JN (V2 t):=λh=>PQ (DS ((Ja _).2 ⟨.inr (.inr (.inr (.inl ⟨rfl,h,rfl,rfl,rfl,rfl,rfl,rfl,rfl,rfl,rfl⟩))),λk hk=>by cases hk⟩))
     have key:(t.text=Kt\/t.text=FX)/\(gP en q).1 .ca (t::l)=some (.inl a,s)\/(JN a/\Gx s):=by
       unfold Tf at h;revert h;cases BS t.text.data.toList YY.data.toList;rotate_left;exact λh=>.inr (PQ (P:=JN) (DS (Yl (.inl rfl) (by decide) λ_=>by decide)) hg h);cases BS t.text.data.toList Tq.data.toList;rotate_left;exact λh=>.inr (PQ (P:=JN) (DS (Yl (.inl rfl) (by decide) λ_=>by decide)) hg h);cases BS t.text.data.toList bR.data.toList;rotate_left;exact λh=>.inr (PQ (P:=JN) (BM (PR _) λp hp=>DS (avU hp)) hg h);cases h1:BS t.text.data.toList Lb.data.toList;rotate_left;exact λh=>.inr (dt (.inl (MB h1)) hg h);cases h1:BS t.text.data.toList cE.data.toList;rotate_left;exact λh=>.inr (dt (.inr (.inl (MB h1))) hg h);cases h1:BS t.text.data.toList Qc.data.toList;rotate_left;exact λh=>.inr (dt (.inr (.inr (.inl (MB h1)))) hg h);cases h1:BS t.text.data.toList U9.data.toList;rotate_left;exact λh=>.inr (dt (.inr (.inr (.inr (MB h1)))) hg h);cases h1:BS t.text.data.toList Kt.data.toList;rotate_left;exact λh=>.inl ⟨.inl (MB h1),h⟩;cases h1:BS t.text.data.toList FX.data.toList;rotate_left;exact λh=>.inl ⟨.inr (MB h1),h⟩;cases BS t.text.data.toList Qu.data.toList;rotate_left;exact λh=>.inr (A.vg _ (by simp) (by simp) hg h);cases BS t.text.data.toList dY.data.toList;rotate_left;exact λh=>.inr (PQ (P:=JN) (BM (A.vg _ (by simp) (by simp)) λa ha=>BM GS λ_ _=>DS ha) hg h);exact λh=>.inr (I7 (P:=JN) hg h)
     rcases key with ⟨h1,h2⟩ | h1
     exact A.vc hg h1 h2;exact h1
   have h:XJ en (gP en q).1 (gP en q).2 (t::l)=some (.inl a,s):=h;unfold XJ Wj at h;dsimp only at h;exact PQ (P:=JN) (BM GS λ_ _=>BM (A.vg _ (by simp) (by simp)) λa ha=>BM GS λ_ _=>BM A.vli λl hl=>VR (BM GS λ_ _=>DS (alY ht ha hl))) hg h
def ajN:Va JN (Q8 en):=λ_ _ _ hg h=>(aAX _).vg .ex (by simp) (by simp) hg h
def aaA{kind:Int}:Va (λn=>Km n/\n.kind=kind) (KR en (Q8 en) kind):=by
 refine lP λt _=>PQ (DH (λhk=>BM (vN Tc) λl hl=>BM GS λ_ _=>DS ⟨⟨⟨rfl,rfl,rfl,rfl,rfl,rfl,rfl,rfl⟩,λ_=>⟨?_,hl.2⟩,λh=>absurd (FG hk) h⟩,rfl⟩) λhk=>BM ajN λe he=>BM GS λ_ _=>DS ⟨⟨⟨rfl,rfl,rfl,rfl,rfl,rfl,rfl,rfl⟩,λh=>absurd h (ZW hk),λ_=>⟨rfl,dP he⟩⟩,rfl⟩);exact List.length_pos_iff.2 hl.1
def gN(k:Int)(l m:List Nd):Hb k (l++m)=Hb k l+Hb k m:=by
 induction l with
 | nil=>simp[Hb]
 | cons a l ih=>simp only[List.cons_append,Hb,ih];omega
def ajO{t1 t4:Tk}{n2:Int}(h4:QP t4.text)(hn:1<=n2/\n2<=1000000){h:Nd}(hh:QJ h):∀(q:Nat) (cs:List Nd) (un am:Bool),kinds cs->(∀k∈cs,Km k)->Hb 8 cs=(if am then 1 else 0)->Hb 7 cs=(if un then 1 else 0) ->
   Va ID (Kw en (Q8 en) (λl=>Ee 4 t4.text bE n2 l t1.AU) q (h::cs) un am):=by
 intro q
 induction q with
 | zero=>intro cs un am _ _ _ _ _ _ _ _ h;cases h
 | succ q ih =>
   intro cs un am k1 k2 k3 k4
   have go:∀(kind:Int) (qV nC:Bool),(6<=kind/\kind<=8)->(if am then 1 else 0)+(if kind=8 then 1 else 0)=(if nC then 1 else 0)->(if un then 1 else 0)+(if kind=7 then 1 else 0)=(if qV then 1 else 0) ->
       Va ID (Cu (KR en (Q8 en) kind) λc=>PI ((h::cs).length+1) (Kw en (Q8 en) (λl=>Ee 4 t4.text bE n2 l t1.AU) q (h::cs++[c]) qV nC)):=by
     intro kind qV nC hk h8 h7;refine BM aaA λc hc=>VR (ih (cs++[c]) qV nC ?_ ?_ ?_ ?_);intro y hy;rcases List.mem_append.1 hy with hy | hy
     exact k1 y hy;rw[List.mem_singleton.1 hy,hc.2];exact hk;intro y hy;rcases List.mem_append.1 hy with hy | hy
     exact k2 y hy;rw[List.mem_singleton.1 hy];exact hc.1;rw[gN,k3];simp only[Hb,hc.2];omega;rw[gN,k4];simp only[Hb,hc.2];omega
   refine lP λt _=>DH (λ_=>go 6 un am (by decide) (by simp) (by simp)) λ_=>DH (λ_=>DH (λ_=>I7) λhu=>go 7 true am (by decide) (by simp) (by simp[hu])) λ_ =>
     DH (λ_=>DH (λ_=>I7) λha=>go 8 un true (by decide) (by simp[ha]) (by simp)) λ_=>DH (λ_=>DH (λha=>PQ (DS (.inr (.inr ⟨rfl,hn,h4,⟨rfl,rfl,rfl,rfl,rfl,rfl,rfl,rfl⟩,h,cs,rfl,k1,by rw[k3,ha];rfl,?_,hh,k2⟩)))) λ_=>I7) λ_=>I7
   rw[k4];split<;>omega
def arX:Va ID (Uw en (Q8 en)):=by
 refine lP λt _=>DH (λ_=>vM) λ_=>DH (λ_=>vM) λ_=>DH (λ_=>?_) λ_=>I7
 exact BM GS λt _=>BM (PR _) λn hn=>BM GS λ_ _=>BM LV λm hm=>BM arW λh hh=>BM GS λ_ _ _ _ _ hg e =>
   ajO (W7 hm.1 hm.2) hn hh _ [] false false (λk hk=>by cases hk) (λk hk=>by cases hk) rfl rfl hg e
end
end Mo
end Go.Proofs.YtpbkhogolfegfaaGreatDoor
namespace Go.Proofs.YtpbkhogolfegfaaGreatDoor
open AI Go
namespace Mo
set_option maxRecDepth 100000
set_option maxHeartbeats 4000000
section
variable (n:Nd)
def OA:(GA n).kind=n.kind:=by rw[J8]
def Xg:(GA n).name=n.name:=by rw[J8]
def Xh:(GA n).unit=n.unit:=by rw[J8]
def zA:(GA n).n=n.n:=by rw[J8]
def auU:(GA n).fr=n.fr:=by rw[J8]
def auV:(GA n).to=n.to:=by rw[J8]
def lC:(GA n).known=n.known:=by rw[J8]
def qP:(GA n).CL=n.CL:=by rw[J8]
def LS:(GA n).kids=n.kids.map GA:=by rw[J8]
end
def aiV:∀{l:List Nd},(∀k∈l,D7 (GA k)=D7 k/\Of (GA k)=Of k)->Ha (l.map GA)=Ha l/\fI (l.map GA)=fI l
 | [],_=>⟨rfl,rfl⟩
 | a::l,h=>by
   obtain⟨h1,h2⟩:=h a (by simp);obtain⟨h3,h4⟩:=aiV (l:=l) λk hk=>h k (by simp[hk]);simp only[List.map_cons,Ha,fI,h1,h2,h3,h4,and_self]
def ayX{p:Nd->Prop}(h:∀n,(∀k∈n.kids,p k)->p n):∀(m:Nat) (n:Nd),D7 n<=m->p n:=by
 intro m
 induction m with
 | zero=>intro n h;have:=FU n;omega
 | succ m ih =>
   intro n hn;have hsz:=FU n;exact h n λk hk=>ih k (by have:=M5 hk;omega)
def VA{p:Nd->Prop}(h:∀n,(∀k∈n.kids,p k)->p n)(n:Nd):p n:=ayX h (D7 n) n (Nat.le_refl _)
def vC(n:Nd):D7 (GA n)=D7 n/\Of (GA n)=Of n:=by
 refine VA (p:=λn=>D7 (GA n)=D7 n/\Of (GA n)=Of n) (λn ih=>?_) n;obtain⟨h1,h2⟩:=aiV (l:=n.kids) ih;rw[FU (GA n),Ni (GA n),Ni n,FU n,LS,h1,h2];exact⟨rfl,rfl⟩
def aEJ{n:Nd}:KJ n->KJ (GA n):=by
 refine VA (p:=λn=>KJ n->KJ (GA n)) (λn ih RB=>?_) n;obtain⟨p1,p2,p3⟩:=(Py n).1 RB;rw[J8];refine(Py _).2 ⟨p1,by simpa using p2,λy hy=>?_⟩
 obtain⟨k,hk,rfl⟩:=List.mem_map.1 hy;exact ih k hk (p3 k hk)
def aBN{n:Nd}{i:Nat}{q:Nd->Prop}(hq:∀k,q (GA k)↔q k):(∀k,(GA n).kids[i]?=some k->q k)↔∀k,n.kids[i]?=some k->q k:=by
 rw[LS];constructor;intro h k hk;exact(hq k).1 (h _ (by rw[List.getElem?_map,hk];rfl));intro h k hk;rw[List.getElem?_map] at hk;obtain⟨y,hy,rfl⟩:=Option.map_eq_some_iff.1 hk;exact(hq y).2 (h y hy)
def Tj{l:List Nd}{q:Nd->Prop}(hq:∀k∈l,q (GA k)↔q k):(∀k∈l.map GA,q k)↔∀k∈l,q k:=by
 constructor;intro h k hk;exact(hq k hk).1 (h _ (List.mem_map_of_mem hk));intro h k hk;obtain⟨y,hy,rfl⟩:=List.mem_map.1 hk;exact(hq y hy).2 (h y hy)
def agD(k:Nd):Qe (GA k)↔Qe k:=by unfold Qe;rw[OA,Xh,zA]
def R6(n f:Nd):Gs (GA n) f↔Gs n f:=by unfold Gs;rw[Xg,Xh,zA,auU,auV,lC,qP]
def awK(n:Nd):SC (GA n)↔SC n:=by
 unfold SC;rw[aBN agD];simp only[R6,OA,Xh,zA,Xg,qP,LS,List.length_map]
def nU(n:Nd):JN (GA n)↔JN n:=by
 refine VA (p:=λn=>JN (GA n)↔JN n) (λn ih=>?_) n;rw[Ja,Ja,awK,LS,Tj ih]
def Uo(k:Int):∀l:List Nd,Hb k (l.map GA)=Hb k l
 | []=>rfl
 | a::l=>by rw[List.map_cons,Hb,Hb,OA,Uo k l]
def ZT(x:Nd):Km (GA x)↔Km x:=by
 unfold Km;rw[R6,OA,LS,List.length_map,Tj (λk _=>and_congr (nU k) (agD k)),Tj (λk _=>nU k)]
def sO(x:Nd):QJ (GA x)↔QJ x:=by
 unfold QJ;simp only[R6,OA,zA,auU,auV,lC,LS,List.length_map]
def avV(n:Nd):wD (GA n)↔wD n:=by
 unfold wD;rw[R6,Xg,zA,LS];refine and_congr_right λ_=>and_congr_right λ_=>and_congr_right λ_=>?_;cases n.kids with
 | nil=>exact⟨λ⟨h,cs,e,_⟩=>(nomatch e),λ⟨h,cs,e,_⟩=>(nomatch e)⟩
 | cons a l =>
   have hk:kinds (l.map GA)↔kinds l:=by unfold kinds;exact Tj λk _=>by rw[OA]
   constructor;rintro⟨h,cs,e,h1,h2,h3,h4,h5⟩;rw[List.map_cons] at e;cases e;exact⟨a,l,rfl,hk.1 h1,by rwa[Uo] at h2,by rwa[Uo] at h3,(sO a).1 h4,(Tj λk _=>ZT k).1 h5⟩;rintro⟨h,cs,e,h1,h2,h3,h4,h5⟩;cases e;exact⟨GA a,l.map GA,rfl,hk.2 h1,by rwa[Uo],by rwa[Uo],(sO a).2 h4,(Tj λk _=>ZT k).2 h5⟩
def anR(n:Nd):ID (GA n)↔ID n:=by
 unfold ID;rw[avV];simp only[R6,OA,zA,Xg,Xh,LS,List.length_map]
def azG(n:Nd):okV (GA n)↔okV n:=by
 unfold okV;rw[R6,OA,nU,(vC n).1,(vC n).2,LS,Tj λk _=>anR k]
def abK:∀{l:List Nd},(∀k∈l,cN k=D7 k)->cL l=Ha l
 | [],_=>by rw[cL,Ha]
 | a::l,h=>by rw[cL,Ha,h a (by simp),abK λk hk=>h k (by simp[hk])]
def avY(n:Nd):cN n=D7 n:=by
 refine VA (p:=λn=>cN n=D7 n) (λn ih=>?_) n;rw[abL,FU,abK ih]
end Mo
end Go.Proofs.YtpbkhogolfegfaaGreatDoor
namespace Go.Proofs.YtpbkhogolfegfaaGreatDoor
open AI Go
namespace Mo
set_option maxRecDepth 100000
set_option maxHeartbeats 4000000
def tJ{α:Type}{l:List α}{body:Nat->α->Unit->Option (Lp Unit Unit Bool)}{x:Option Bool}(hl:l.length<=9223372036854775807)(hb:∀i y,l[i]?=some y->body i y ()=some (.nx ())):(Lk l.length (CX body (λ_=>()) (l.drop 0) 0 ())).bind (N4 (λ(_:Unit)=>x) (λv=>some v))=x:=by
 have key:∀(m:List α) (i:Nat),(∀j y,m[j]?=some y->body (i+j) y ()=some (.nx ()))->CX body (λ_=>()) m i ()=some (.inl ()):=by
   intro m
   induction m with
   | nil=>intro i _;rfl
   | cons y m ih =>
     intro i h;rw[CX,show body i y ()=some (.nx ()) from h 0 y rfl,Option.bind_some];exact ih (i+1) λj z hz=>by rw[Nat.add_assoc,Nat.add_comm 1 j];exact h (j+1) z hz
 rw[show Lk l.length=λy:Option (Unit⊕Bool)=>y from funext λy=>if_pos hl,List.drop_zero,key l 0 (λj y hy=>by rw[Nat.zero_add];exact hb j y hy)];rfl
def kV(x:Pc):O1 x x=true:=by unfold O1;simp
def qJ(f:Fn)(h:f.ps.length<=9223372036854775807):Ir f f=some true:=by
 rw[Ir,No rfl,No rfl];refine tJ h (λi y hy=>?_);rw[Jh,hy,Option.bind_some,kV,cond_true]
def hO(x:ByteArray):BS x.data.toList x.data.toList=true:=by rw[Ru];simp
def azY:∀(q:Nat) (e:Nd),D7 e<=q->D7 e<=1000000->Wh e->Ho q e e=some true:=by
 intro q
 induction q with
 | zero=>intro e h;have:=FU e;omega
 | succ q ih =>
   intro e hq hz ho;have he:=FU e;have hl:=Sj e.kids;obtain⟨h1,h2⟩:=(Ox e).1 ho;rw[Ho,MZ,No rfl,hO,hO,No rfl,No rfl,No rfl,No rfl,No rfl,qJ _ (by omega),Option.bind_some,No rfl];dsimp only[cond];refine tJ (by omega) (λi y hy=>?_);have hm:=List.mem_of_getElem? hy;have:=M5 hm;rw[LN,hy,Option.bind_some,ih y (by omega) (by omega) (h2 y hm),Option.bind_some,cond_true]
def ahJ{e:Nd}(hz:D7 e<=1000000)(ho:Wh e):IM e e=some true:=Vk (D7 e) λq hq=>azY q e hq hz ho
def ahG:∀(q:Nat) (n:Nd),D7 n<=q->D7 n<=100000->FF q n=some (GA n):=by
 intro q
 induction q with
 | zero=>intro n h;have:=FU n;omega
 | succ q ih =>
   intro n hq hz;have hsz:=FU n;have hl:=Sj n.kids
   have key:∀(m:List Nd) (i:Nat) (acc:List Nd),(∀k∈m,k∈n.kids)->acc.length+m.length<=100000->CX (ρ:=Nd) (λi y x=>JF (FF q) i y x) (λx=>x) m i acc=some (.inl (acc++m.map GA)):=by
     intro m
     induction m with
     | nil=>intro i acc _ _;simp[CX]
     | cons y m ihm =>
       intro i acc hm hc;simp only[List.length_cons] at hc;have hy:=M5 (hm y (List.mem_cons_self ..));rw[CX,JF,ih y (by omega) (by omega),Option.bind_some,EK (by omega),Option.bind_some];have:=ihm (i+1) (acc++[GA y]) (λk hk=>hm k (List.mem_cons_of_mem _ hk)) (by simp only[List.length_append,List.length_singleton];omega);dsimp only[Og];rw[this,List.append_assoc];rfl
   rw[FF,LO,show Lk n.kids.length=λy:Option (List Nd⊕Nd)=>y from funext λy=>if_pos (by omega),List.drop_zero,key n.kids 0 [] (λ_ h=>h) (by simp only[List.length_nil];omega),J8];rfl
def ahH{n:Nd}(hz:D7 n<=100000):LP n=some (GA n):=Vk (D7 n) λq hq=>ahG q n hq hz
def agR{n:Nd}(hs:D7 n<=10000)(hp:Wh n):GK n=some (GA n):=by
 unfold GK;rw[if_pos ⟨by rw[cL,cL,avY];omega,hp⟩]
end Mo
end Go.Proofs.YtpbkhogolfegfaaGreatDoor
namespace Go.Proofs.YtpbkhogolfegfaaGreatDoor
open AI Go
namespace Mo
set_option maxRecDepth 100000
set_option maxHeartbeats 4000000
def aAM{f:Fn}(h:lG f):∀(i:Nat) p,f.ps[i]?=some p->0<=p.fr:=by
 intro i
 induction i with
 | zero=>intro p hp;rw[h.2.2.1 p hp];omega
 | succ i ih =>
   intro p hp;have hi:i < f.ps.length:=by have:=(List.getElem?_eq_some_iff.1 hp).1;omega
   have h1:=(h.2.2.2 (i+1) p hp).2.1 f.ps[i] (by omega) (List.getElem?_eq_getElem hi);have:=ih _ (List.getElem?_eq_getElem hi);omega
def aiW{f:Fn}(h:lG f):pM f/\f.ps.length<=64:=by
 refine⟨⟨by have:=h.2.1;omega,λy hy=>?_⟩,h.2.1.2⟩;obtain⟨i,hi⟩:=List.getElem?_of_mem hy;have h0:=aAM h i y hi;obtain⟨a1,_,_,a4,a5,a6,a7⟩:=h.2.2.2 i y hi;have hr:=h.1;unfold OZ at hr;rw[IR (by omega)] at a4;rw[IR (by omega)] at a5;exact⟨⟨by omega,by omega⟩,⟨by omega,by omega⟩,by omega,by omega⟩
def K0{f:Fn}(h:f.ps=[]):pM f/\f.ps.length<=64:=by
 unfold pM;rw[h];exact⟨⟨by simp,λy hy=>(by cases hy)⟩,by simp⟩
def amM{n:Nd}(h:SC n):pM n.CL/\n.CL.ps.length<=64:=by
 unfold SC at h;rcases h with h | h | h | h | h | h | h | h
 exact K0 h.2.2.2.2.2.2.2.2.2.2.2.2.2;exact K0 h.2.2.2.2.2.2.2.2.2.2;exact K0 h.2.2.2.2.2.2.2.2.2.2;exact K0 h.2.2.2.2.2.2.2.2.2.2;exact K0 h.2.2.2.2.2.2.2.2.2;exact K0 h.2.1.2.2.2.2.2.2.2;exact K0 h.2.2.1.2.2.2.2.2.2.2;exact aiW h.2.2.1
def cI(n:Nd):JN n->D7 n<=1000000->KJ n/\Wh n:=by
 refine VA (p:=λn=>JN n->D7 n<=1000000->KJ n/\Wh n) (λn ih h hz=>?_) n;obtain⟨h1,h2⟩:=(Ja n).1 h;obtain⟨t1,t2⟩:=amM h1;have hs:=FU n;have hl:=Sj n.kids;exact⟨(Py n).2 ⟨t1,by omega,λk hk=>(ih k hk (h2 k hk) (by have:=Sk hk;omega)).1⟩,(Ox n).2 ⟨by omega,λk hk=>(ih k hk (h2 k hk) (by have:=Sk hk;omega)).2⟩⟩
def Sd{n:Nd}(ht:n.CL.ps=[])(hk:n.kids.length=0):KJ n/\Wh n:=by
 have:=List.eq_nil_of_length_eq_zero hk;obtain⟨t1,t2⟩:=K0 ht;exact⟨(Py n).2 ⟨t1,by omega,by rw[this];exact λk hk=>(by cases hk)⟩,(Ox n).2 ⟨by omega,by rw[this];exact λk hk=>(by cases hk)⟩⟩
def VB{n:Nd}(ht:n.CL.ps=[])(hz:D7 n<=1000000)(hk:∀k∈n.kids,KJ k/\Wh k):KJ n/\Wh n:=by
 obtain⟨t1,t2⟩:=K0 ht;have hs:=FU n;have hl:=Sj n.kids;exact⟨(Py n).2 ⟨t1,by omega,λk h=>(hk k h).1⟩,(Ox n).2 ⟨by omega,λk h=>(hk k h).2⟩⟩
def gM{n:Nd}(h:Km n)(hz:D7 n<=1000000):KJ n/\Wh n:=by
 refine VB h.1.2.2.2.2.2.2.2 hz λk hk=>cI k ?_ (by have:=Sk hk;omega);by_cases h7:n.kind=7;exact((h.2.1 h7).2 k hk).1;exact(h.2.2 h7).2 k hk
def xO{n:Nd}(h:ID n)(hz:D7 n<=1000000):KJ n/\Wh n:=by
 rcases h with h | h | h
 exact Sd h.2.2.2.2.2.2.2.2.2.2.2 h.2.2.2.1;exact Sd h.2.2.2.2.2.2.2.2.2.2.2.2.2 h.2.2.2.2.2.1;obtain⟨_,_,hb,hd,cs,hk,_,_,_,hh,hc⟩:=h.2;refine VB hb.2.2.2.2.2.2.2 hz λk hm=>?_;have:=Sk hm;rw[hk] at hm;rcases List.mem_cons.1 hm with rfl | hm
 exact Sd hh.2.2.2.2.2.2.2.2.2.2.2.2.2 hh.2.2.1;exact gM (hc k hm) (by omega)
def yM{ks:List Nd}(h:∀k∈ks,ID k)(hz:Ha ks<=10000):KJ (K8 ks)/\Wh (K8 ks):=by
 refine VB rfl (by have:=FU (K8 ks);rw[show D7 (K8 ks)=1+Ha ks from rfl];omega) λk hk=>xO (h k hk) (by have:=M5 (show k∈ks from hk);omega)
def qF{ks:List Nd}(h:∀k∈ks,ID k)(hz:D7 (K8 ks)<=2000)(hd:Of (K8 ks)<=40):okV (K8 ks):=⟨.inl ⟨rfl,⟨rfl,rfl,rfl,rfl,rfl,rfl,rfl,rfl⟩,h⟩,hz,hd⟩
def sJ{l:List Tk}(h:Gx l)(k:Nat):Gx (l.drop k):=λt ht=>h t (List.mem_of_mem_drop ht)
def aAR{en:Int}:∀(q:Nat) (l:List Tk) (ks:List Nd) (ds:List Dg) (r:List Nd×List Dg),Gx l->l.length<=10000->(∀k∈ks,ID k)->UP en q l ks ds=some r->∀k∈r.1,ID k:=by
 intro q
 induction q with
 | zero=>intro l ks ds r _ _ _ h;cases h
 | succ q ih =>
   intro l ks ds r hg hl hk h;cases l with
   | nil=>cases h;exact hk
   | cons t l =>
     unfold UP at h;cases hd:E3 ((ds.length:Nat):Int) 20 with
     | false=>rw[hd] at h;cases h;exact hk
     | true =>
       rw[hd] at h;dsimp only[cond] at h;split at h;cases h;rename_i n s hi;obtain⟨hn,hs⟩:=arX hg hi;obtain⟨⟨j,rfl⟩,_⟩:=Pp (λt ht=>(hg t ht).1) hl hi;refine ih _ _ _ _ hs (by rw[List.length_drop];omega) (λk hm=>?_) h;rcases List.mem_append.1 hm with hm | hm
       exact hk k hm;rw[List.mem_singleton.1 hm];exact hn;rename_i d s hi;obtain⟨⟨k,rfl⟩,_⟩:=Pp (λt ht=>(hg t ht).1) hl hi;obtain⟨j,hj⟩:=PM ((t::l).drop k);rw[hj] at h;exact ih _ _ _ _ (sJ (sJ hg k) j) (by simp only[List.length_drop];omega) hk h
def agM{s:ByteArray}{n:Nd}{ds:List Dg}(h:DL s=some (n,ds)) :
   (ds≠[]/\n=z0/\ds.length<=20)\/(ds=[]/\∃ks,Uz s=0/\UP ((s.data.toList.length:Nat):Int) ((FV s).length+1) (FV s) [] []=some (ks,[])/\n=K8 ks/\(∀k∈ks,ID k)/\D7 n<=2000/\Of n<=40):=by
 by_cases he:Uz s=0
 · obtain⟨ks,ds',h1,h2,h3,h4⟩:=tZ he
   rw[h] at h2;have hv:=aAR _ _ _ _ _ (eU s) (by have:=(Sl s).2;omega) (λk hk=>by cases hk) h1;cases ds' with
   | nil =>
     unfold avS xU at h2;by_cases hc:2000 < D7 (K8 ks)\/40 < Of (K8 ks);rw[if_pos hc] at h2;simp only[Option.some.injEq,Prod.mk.injEq] at h2;obtain⟨rfl,rfl⟩:=h2;exact .inl ⟨by simp,rfl,by simp⟩;rw[if_neg hc] at h2;simp only[Option.some.injEq,Prod.mk.injEq] at h2;obtain⟨rfl,rfl⟩:=h2;exact .inr ⟨rfl,ks,he,h1,rfl,hv,by omega,by omega⟩
   | cons d ds'=>cases h2;exact .inl ⟨by simp,rfl,h4⟩
 rw[yG he] at h;cases h;exact .inl ⟨by simp,rfl,by simp⟩
end Mo
end Go.Proofs.YtpbkhogolfegfaaGreatDoor
namespace Go.Proofs.YtpbkhogolfegfaaGreatDoor
open AI Go
namespace Mo
set_option maxRecDepth 100000
mutual
def orN(hi:Int):Nd->Prop
 | ⟨_,_,_,_,_,_,_,_,kids,AU⟩=>AU<=hi/\orL hi AU kids
def orL(hi lo:Int):List Nd->Prop
 | []=>True
 | k::ks=>(lo<=k.AU/\orN hi k)/\orL hi lo ks
end
def So(hi:Int):List Tk->Prop
 | []=>True
 | t::s=>t.AU<=hi/\(∀u∈s,t.AU<=u.AU)/\So hi s
def Lo(l:List Tk)(x:Int):Prop:=∀t∈l,x<=t.AU
section
variable {α β:Type} {hi x y:Int} {P:α->List Tk->Prop} {P2:β->List Tk->Prop}
def Vo(hi x:Int)(P:α->List Tk->Prop)(m:Rd α):Prop:=∀⦃l:List Tk⦄ ⦃a:α⦄ ⦃s:List Tk⦄,So hi l->Lo l x->m l=some (.inl a,s)->P a s/\So hi s/\Lo s x
end
section
variable {hi x y en:Int}
abbrev PN(hi x:Int):Nd->List Tk->Prop:=λn s=>orN hi n/\x<=n.AU/\Lo s n.AU
abbrev T2{α:Type}:α->List Tk->Prop:=λ_ _=>True
abbrev PL(hi x:Int):List Nd->List Tk->Prop:=λl _=>∀a∈l,x<=a.AU/\orN hi a
def Vx(hi:Int)(m:Rd Nd):Prop:=∀x,Vo hi x (PN hi x) m
structure VoE(hi:Int)(g:Ek->Rd Nd)(li:Rd (List Nd)):Prop where
 og:∀e,(∀t,e≠.wd t)->Vx hi (g e)
 ow:∀⦃t:Tk⦄ ⦃l s:List Tk⦄ ⦃a:Nd⦄ (x:Int),So hi (t::l)->x<=t.AU->g (.wd t) (t::l)=some (.inl a,s)->PN hi x a s/\So hi s/\Lo s x
 oli:∀x,Vo hi x (PL hi x) li
end
end Mo
end Go.Proofs.YtpbkhogolfegfaaGreatDoor
namespace Go.Proofs.YtpbkhogolfegfaaGreatDoor
open AI Go LexS
namespace Mo
set_option maxRecDepth 100000
set_option maxHeartbeats 4000000
def auN(n:Nd):Wh n->Wh (GA n):=by
 refine VA (p:=λn=>Wh n->Wh (GA n)) (λn ih h=>?_) n;obtain⟨h1,h2⟩:=(Ox n).1 h;refine(Ox _).2 ⟨by rw[qP];exact h1,λk hk=>?_⟩;rw[LS] at hk;obtain⟨y,hy,rfl⟩:=List.mem_map.1 hk;exact ih y hy (h2 y hy)
end Mo
end Go.Proofs.YtpbkhogolfegfaaGreatDoor
namespace Go.Proofs.YtpbkhogolfegfaaGreatDoor
open AI Go
namespace Mo
set_option maxRecDepth 100000
set_option maxHeartbeats 4000000
@[irreducible] def pU(s:ByteArray):Nd×List Dg:=match Q8 ((s.data.toList.length:Nat):Int) (FV s) with
 | some x=>alQ x
 | none=>(z0,[])
@[irreducible] def ppV(s:ByteArray):Nd×List Dg:=match UP ((s.data.toList.length:Nat):Int) ((FV s).length+1) (FV s) [] [] with
 | some x=>avS x.1 x.2
 | none=>(z0,[])
def agO{s:ByteArray}(h:Uz s=0):BY s=some (pU s):=by
 obtain⟨r,l,h1,h2⟩:=dW h;unfold pU;rw[h1];exact h2
def azN{s:ByteArray}(h:Uz s=0):DL s=some (ppV s):=by
 obtain⟨ks,ds,h1,h2,_⟩:=tZ h;unfold ppV;rw[h1];exact h2
abbrev t1:=EV
abbrev t6:=At
def aFG:JN (pU t1).1/\(pU t1).1.kind=16/\D7 (pU t1).1<=100/\Of (pU t1).1<=30:=by
 obtain⟨r,l,h1,h2⟩:=dW (s:=t1) (by kernel_rfl);rw[agO (by kernel_rfl)] at h2;refine⟨?_,by kernel_rfl,Nat.le_of_ble_eq_true (by kernel_rfl),Nat.le_of_ble_eq_true (by kernel_rfl)⟩;have h2:=Option.some.inj h2;have hd:(pU t1).2.length=0:=by kernel_rfl
 rw[h2] at hd ⊢;cases r with
 | inr d=>cases hd
 | inl n =>
   cases l with
   | cons t l=>cases hd
   | nil =>
     have hv:=(ajN (eU t1) h1).1;unfold alQ xU at hd ⊢;dsimp only at hd ⊢;by_cases hc:2000 < D7 n\/40 < Of n;rw[if_pos hc] at hd;cases hd;rw[if_neg hc];exact hv
def xG:JQ=some true:=by
 obtain⟨e1,k1,z1,d1⟩:=aFG;obtain⟨ok1,ps1⟩:=cI _ e1 (by omega);have v1:okV (pU t1).1:=⟨.inr ⟨by omega,e1⟩,by omega,by omega⟩
 have v6:KJ (ppV t6).1/\okV (ppV t6).1:=by
   have hp:=azN (s:=t6) (by kernel_rfl);have hd:(ppV t6).2.length=0:=by kernel_rfl
   rcases agM (n:=(ppV t6).1) (ds:=(ppV t6).2) hp with ⟨h,_⟩ | ⟨_,ks,_,_,h3,h4,h5,h6⟩
   exact absurd (List.eq_nil_of_length_eq_zero hd) h;rw[h3] at h5 h6 ⊢;have hz:D7 (K8 ks)=1+Ha ks:=rfl;exact⟨(yM h4 (by omega)).1,qF h4 h5 h6⟩
 have FW:LP (pU t1).1=some (GA (pU t1).1):=ahH (by omega);have hsm:IM (GA (pU t1).1) (GA (pU t1).1)=some true:=ahJ (by have:=vC (pU t1).1;omega) (auN _ ps1);have hv6:Ef (ppV t6).1=some true:=by rw[eX v6.1,Ds.2 v6.2]
 have hv1:Ef (GA (pU t1).1)=some true:=by rw[eX (aEJ ok1),Ds.2 ((azG _).2 v1)]
 have sX:Ef ⟨12,bR,ByteArray.empty,0,0,0,0,⟨0,[]⟩,[],0⟩=some false:=by
   rw[eX ((Sd rfl rfl).1),pD];rintro⟨⟨h,_⟩ | ⟨_,h⟩,_⟩;exact absurd h (by decide)
   · have:=((Ja _).1 h).1
     unfold SC at this;rcases this with h | h | h | h | h | h | h | h
     exact absurd h.1 (by decide);exact h.2.1.2.2.1 (by unfold tB;simp)
     all_goals exact absurd h.1 (by decide)
 have h7:(⟨16,J2,ByteArray.empty,0,0,0,0,⟨0,[]⟩,[⟨16,GP,ByteArray.empty,0,0,0,0,⟨0,[]⟩,[⟨11,ByteArray.empty,ED,3,0,0,0,⟨0,[]⟩,[],0⟩,⟨12,aS,ByteArray.empty,0,0,0,0,⟨0,[]⟩,[],0⟩],0⟩,⟨15,ByteArray.empty,ByteArray.empty,0,0,0,0,⟨0,[]⟩,[⟨16,EU,ByteArray.empty,0,0,0,0,⟨0,[]⟩,[⟨12,bS,ByteArray.empty,0,0,0,0,⟨0,[]⟩,[],0⟩,⟨12,cS,ByteArray.empty,0,0,0,0,⟨0,[]⟩,[],0⟩],0⟩],0⟩],0⟩:Nd)=GA (pU t1).1:=by kernel_rfl
 unfold JQ;rw[agO (s:=t1) (by kernel_rfl)];simp only[agO (s:=EC) (by kernel_rfl),agO (s:=Me) (by kernel_rfl),agO (s:=BF) (by kernel_rfl),azN (s:=Ei) (by kernel_rfl),azN (s:=t6) (by kernel_rfl),IE,DK,Option.bind_some];rw[h7];simp only[FW,hsm,hv6,hv1,sX,Option.bind_some];show(_:Option Bool)=some true
 kernel_rfl
end Mo
end Go.Proofs.YtpbkhogolfegfaaGreatDoor
namespace Go.Proofs.YtpbkhogolfegfaaGreatDoor
open AI Go LexS
namespace Mo
set_option maxRecDepth 100000
set_option maxHeartbeats 4000000
section
variable {s:ByteArray} (hs:s.data.toList.length<=100000)
theorem acY{α:Type}{l:List α}{i:Nat}:IA l ((i:Nat):Int)=l[i]?:=by
 unfold IA;rw[if_pos (by omega)];rfl
theorem xQ{α:Type}(l:List α)(k:Nat):(l.length<=k/\l.drop k=[])\/∃x,k < l.length/\l[k]?=some x/\l.drop k=x::l.drop (k+1):=by
 rcases Nat.lt_or_ge k l.length with h | h
 · exact .inr ⟨l[k],h,List.getElem?_eq_getElem h,List.drop_eq_getElem_cons h⟩
 · exact .inl ⟨h,List.drop_eq_nil_of_le h⟩
include hs
omit hs in
omit hs in
omit hs in
omit hs in
omit hs in
end
end Mo
end Go.Proofs.YtpbkhogolfegfaaGreatDoor
namespace Go.Proofs.YtpbkhogolfegfaaGreatDoor
open AI Go LexS
namespace Mo
set_option maxRecDepth 100000
set_option maxHeartbeats 4000000
def fT(r:Nat×Nat)(t:List UInt8)(k:Nat)(x:Tk×Bool):Prop:=(x.2=true->r.1≠0/\x.1=Nz (r.1,t.take r.2,k))/\(x.2=false->r.1=0)
theorem fT.no{t:List UInt8}{k:Nat}{x:Tk}:fT (0,0) t k (x,false):=⟨λh=>(by cases h),λ_=>rfl⟩
theorem fT.yes{q n:Nat}(hq:q≠0){t:List UInt8}{k:Nat}:fT (q,n) t k (Nz (q,t.take n,k),true):=⟨λ_=>⟨hq,rfl⟩,λh=>(by cases h)⟩
theorem fT.if{p:Prop}[Decidable p]{b:Bool}(hp:p↔b=true){q n:Nat}(hq:q≠0){t:List UInt8}{k:Nat}:fT (if p then (q,n) else (0,0)) t k (Nz (q,t.take n,k),b):=by
 cases b;rw[if_neg (λh=>by cases hp.1 h)];exact fT.no;rw[if_pos (hp.2 rfl)];exact fT.yes hq
section
variable {s:ByteArray} (hs:s.data.toList.length<=100000)
include hs
omit hs in
omit hs in
omit hs in
omit hs in
omit hs in
end
end Mo
end Go.Proofs.YtpbkhogolfegfaaGreatDoor
