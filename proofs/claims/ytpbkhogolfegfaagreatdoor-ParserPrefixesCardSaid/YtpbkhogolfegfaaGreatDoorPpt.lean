/- Part of a proof: see the last text. -/
import Derived.Test.YtpbkhogolfegfaaGreatDoorPps
set_option linter.unusedVariables false
set_option linter.unusedSimpArgs false
set_option linter.defProp false
noncomputable section
namespace Go.Proofs.YtpbkhogolfegfaaGreatDoor
open AI Go LexS
namespace Mo
set_option maxRecDepth 100000
def UE{m:Nat}{t:List UInt8}(h:GH m t=true):∃c u,t=c::u/\cin m c=true:=by
 cases t with
 | nil=>cases h
 | cons c u=>exact⟨c,u,rfl,h⟩
def SE:∀(t:List UInt8) (ys:List (List UInt8)),(Lj t ys).1=0\/(Lj t ys).1=6
 | _,[]=>.inl rfl
 | t,y::ys=>by
   unfold Lj;split;exact .inr rfl;exact SE t ys
def agV{t:List UInt8}(h:GH 8 t=true):1<=Be 8 t:=by
 obtain⟨c,u,rfl,hc⟩:=UE h;rw[Ds,if_pos hc];omega
def vH{t:List UInt8}(h:EK t=true):∃c0 c1 c2 c3 c5 c6 c8 c9,t.take 10=[c0,c1,c2,c3,45,c5,c6,45,c8,c9]/\SN c0/\SN c1/\SN c2/\SN c3/\SN c5/\SN c6/\SN c8/\SN c9:=by
 unfold EK at h;rw[Bool.and_eq_true] at h;obtain⟨hl,h⟩:=h;have hl:=of_decide_eq_true hl;have hd:=λi hi=>List.all_eq_true.1 h i (List.mem_range.2 hi)
 match t,hl with
 | c0::c1::c2::c3::c4::c5::c6::c7::c8::c9::u,_ =>
   have e4:c4=45:=by have:=hd 4 (by decide);simpa[FI] using this
   have e7:c7=45:=by have:=hd 7 (by decide);simpa[FI] using this
   have g:∀(i:Nat) (c:UInt8) (v:List UInt8),i < 10->i≠4->i≠7->(c0::c1::c2::c3::c4::c5::c6::c7::c8::c9::u).drop i=c::v->SN c:=by
     intro i c v h1 h4 h7 h;have:=hd i h1;unfold FI at this;rw[if_neg (by omega),h] at this;exact akS this
   subst e4 e7
   exact⟨c0,c1,c2,c3,c5,c6,c8,c9,rfl,g 0 _ _ (by decide) (by decide) (by decide) rfl,g 1 _ _ (by decide) (by decide) (by decide) rfl,g 2 _ _ (by decide) (by decide) (by decide) rfl,g 3 _ _ (by decide) (by decide) (by decide) rfl,
     g 5 _ _ (by decide) (by decide) (by decide) rfl,g 6 _ _ (by decide) (by decide) (by decide) rfl,g 8 _ _ (by decide) (by decide) (by decide) rfl,g 9 _ _ (by decide) (by decide) (by decide) rfl⟩
def mX{t:List UInt8}(h1:(t.drop (Be 8 t)).head?=some 46)(h2:GH 8 (t.drop (Be 8 t+1))=true)(h3:GH 8 (t.drop (Be 8 t+2))=true) :
   ∃x y,t.take (Be 8 t+3)=t.take (Be 8 t)++46::[x,y]/\SN x/\SN y:=by
 obtain⟨x,u,hx,yZ⟩:=UE h2;obtain⟨y,v,hy,D3⟩:=UE h3;generalize hd:Be 8 t=d at *
 have e1:t.drop d=46::t.drop (d+1):=by
   cases hq:t.drop d with
   | nil=>rw[hq] at h1;cases h1
   | cons a b =>
     rw[hq] at h1;have:t.drop (d+1)=b:=by rw[<- List.drop_drop,hq];rfl
     rw[this];simp only[List.head?_cons,Option.some.injEq] at h1;rw[h1]
 have e2:t.drop (d+1)=x::t.drop (d+2):=by
   rw[hx,show d+2=(d+1)+1 from rfl,<- List.drop_drop,hx];rfl
 refine⟨x,y,?_,akS yZ,akS D3⟩;rw[List.take_add,e1,e2,hy];rfl
def ahS{t:List UInt8}{o:Nat}(ht:t.length<=6000)(h:(A2 t).1≠0):Gd (Hi ((A2 t).1,t.take (A2 t).2,o)):=by
 have hlen:(t.take (A2 t).2).length<=6000:=by rw[List.length_take];omega
 have hlen:(Hi ((A2 t).1,t.take (A2 t).2,o)).text.data.toList.length<=6000:=hlen
 have other:(A2 t).1≠3->(A2 t).1≠4->(A2 t).1≠5->Gd (Hi ((A2 t).1,t.take (A2 t).2,o)):=by
   intro h3 h4 h5;refine⟨λh=>?_,λh=>?_,λh=>?_,hlen⟩;have:(((A2 t).1:Nat):Int)=3:=h;omega;have:(((A2 t).1:Nat):Int)=3\/(((A2 t).1:Nat):Int)=4:=h;omega;have:(((A2 t).1:Nat):Int)=5:=h;omega
 by_cases c2:GH 2 t=true;refine other ?_ ?_ ?_<;>(unfold A2;rw[if_pos c2];split<;>simp)
 by_cases c4:GH 4 t=true;refine other ?_ ?_ ?_<;>(unfold A2;rw[if_neg c2,if_pos c4];split<;>simp)
 by_cases c8:GH 8 t=true;rotate_left;have:A2 t=Lj t Gc:=by unfold A2;rw[if_neg c2,if_neg c4,if_neg c8]
 rcases SE t Gc with h1 | h1
 rw[this] at h;exact absurd h1 h;rw[<- this] at h1;exact other (by omega) (by omega) (by omega);have hr:A2 t=Gw t:=by unfold A2;rw[if_neg c2,if_neg c4,if_pos c8]
 have hp:=agV c8;have hsp:=YX 8 t;rw[hr] at h hlen ⊢;unfold Gw at h hlen ⊢;dsimp only at h hlen ⊢;by_cases hd:EK t=true;rw[if_pos hd] at h hlen ⊢;split at h;rename_i hf;rw[if_pos hf] at hlen ⊢;refine⟨λh=>?_,λh=>?_,λh=>?_,hlen⟩;have:(((5:Nat)):Int)=3:=h;omega;have:(((5:Nat)):Int)=3\/((5:Nat):Int)=4:=h;omega;obtain⟨c0,c1,c2,c3,c5,c6,c8,c9,h0,a0,a1,a2,a3,a5,a6,a8,a9⟩:=vH hd;dsimp only[Hi];rw[h0];exact vI a0 a1 a2 a3 a5 a6 a8 a9;exact absurd rfl h;rw[if_neg hd] at h hlen ⊢;by_cases h0:t.head?=some 48/\1 < Be 8 t;rw[if_pos h0] at h;exact absurd rfl h;rw[if_neg h0] at h hlen ⊢;by_cases h1:(t.drop (Be 8 t)).head?=some 46;rw[if_pos h1] at h hlen ⊢;by_cases h2:10 < Be 8 t\/GH 8 (t.drop (Be 8 t+1))=false\/GH 8 (t.drop (Be 8 t+2))=false;rw[if_pos h2] at h;exact absurd rfl h;rw[if_neg h2] at h hlen ⊢;split at h;rename_i hf;rw[if_pos hf] at hlen ⊢;refine⟨λh=>?_,λ_=>?_,λh=>?_,hlen⟩;have:(((4:Nat)):Int)=3:=h;omega;simp only[not_or,Bool.not_eq_false] at h2;obtain⟨x,y,e,hx,hy⟩:=mX h1 h2.2.1 h2.2.2;dsimp only[Hi];rw[e];have hs:=kO t;refine ZP (m:=t.take (Be 8 t)++[x,y]) (afQ hs) ?_ (by simp) ?_ ?_;simp only[List.length_append,List.length_take,List.length_cons,List.length_nil];omega;simp only[List.length_append,List.length_take,List.length_cons,List.length_nil];omega;intro c hc;rcases List.mem_append.1 hc with hc | hc
 exact hs c hc;simp only[List.mem_cons,List.not_mem_nil,or_false] at hc;rcases hc with rfl | rfl
 exact hx;exact hy;have:(((4:Nat)):Int)=5:=h;omega;exact absurd rfl h;rw[if_neg h1] at h hlen ⊢;by_cases h2:12 < Be 8 t;rw[if_pos h2] at h;exact absurd rfl h;rw[if_neg h2] at h hlen ⊢;split at h;rename_i hf;rw[if_pos hf] at hlen ⊢;have hs:=kO t
 have hne:t.take (Be 8 t)≠[]:=λe=>by
   have:=congrArg List.length e;rw[List.length_take,List.length_nil] at this;omega
 refine⟨λh=>?_,λ_=>?_,λh=>?_,hlen⟩;exact XH hne (by rw[List.length_take];omega) hs;exact ZP (anZ hs) (by rw[List.length_take];omega) hne (by rw[List.length_take];omega) hs;have:(((3:Nat)):Int)=5:=h;omega;exact absurd rfl h
def bL:∀(n o:Nat) (t:List UInt8) (x:LexS.Tok),x∈J2 n o t->x.1≠0->∃u o',u.length<=t.length/\(A2 u).1≠0/\x=((A2 u).1,u.take (A2 u).2,o'):=by
 intro n
 induction n with
 | zero=>intro o t x h;cases h
 | succ n ih =>
   intro o t x h h0;unfold J2 at h;split at h;cases h;split at h;rw[List.mem_singleton.1 h] at h0;exact absurd rfl h0;rename_i hr;rcases List.mem_cons.1 h with rfl | h
   exact⟨t,o,Nat.le_refl _,hr,rfl⟩;obtain⟨u,o',h1,h2⟩:=ih _ _ _ h h0;refine⟨u,o',Nat.le_trans h1 ?_,h2⟩;simp only[List.length_drop];omega
def Yt:∀(l acc:List LexS.Tok),acc.length<=2000->(El acc l).1.length<=2000/\∀x∈(El acc l).1,x∈acc\/x∈l/\x.1≠0:=by
 intro l
 induction l with
 | nil=>intro acc h;exact⟨h,λx hx=>.inl hx⟩
 | cons y l ih =>
   intro acc h;unfold El;split;exact⟨Nat.zero_le _,λx hx=>by cases hx⟩;split;exact⟨Nat.zero_le _,λx hx=>by cases hx⟩;rename_i h1 h2;obtain⟨a,b⟩:=ih (acc++[y]) (by simp only[List.length_append,List.length_singleton];omega);refine⟨a,λx hx=>?_⟩;rcases b x hx with hx | ⟨hx,h0⟩
   rcases List.mem_append.1 hx with hx | hx
   exact .inl hx;rw[List.mem_singleton.1 hx];exact .inr ⟨List.mem_cons_self ..,h2⟩;exact .inr ⟨List.mem_cons_of_mem _ hx,h0⟩
def Lc(s:ByteArray):Gl (Bu s)/\(Bu s).length<=2000:=by
 unfold Bu I9;split;refine⟨?_,Nat.zero_le _⟩;intro t ht;cases ht;rename_i hs;obtain⟨a,b⟩:=Yt (C0 s.data.toList) [] (Nat.zero_le _);refine⟨?_,by rw[List.length_map];exact a⟩;intro t ht;obtain⟨x,hx,rfl⟩:=List.mem_map.1 ht;rcases b x hx with hx | ⟨hx,h0⟩
 cases hx;obtain⟨u,o',h1,h2,rfl⟩:=bL _ _ _ x hx h0;rw[List.length_drop] at h1;exact ahS (by omega) h2
end Mo
end Go.Proofs.YtpbkhogolfegfaaGreatDoor
namespace Go.Proofs.YtpbkhogolfegfaaGreatDoor
open AI Go
namespace Mo
set_option maxRecDepth 100000
section
variable {α β:Type} {c:Nat} {f:α->Nat} {g:β->Nat}
def SU(c:Nat)(f:α->Nat)(m:Rd α):Prop:=∀⦃l:List Tk⦄ ⦃a:α⦄ ⦃s:List Tk⦄,m l=some (.inl a,s)->f a+s.length<=l.length+c
def BP{m:Rd α}{K:α->Rd β}(h1:SU c f m)(h2:∀a,SU (f a) g (K a)):SU c g (Ct m K):=by
 intro l b s h;rcases IB h with ⟨a,s',e1,e2⟩ | ⟨d,_,h⟩
 have a1:=h1 e1;have a2:=h2 a e2;omega;cases h
def Eb{a:α}(h:f a<=c):SU c f (FT a):=by
 intro l b s e;obtain⟨e1,rfl⟩:=KB e;cases e1;omega
def Je{e p:Int}:SU c f (LX e p):=by
 intro l b s h;obtain⟨h,_⟩:=My h;cases h
def M5{X:Option β}{K:β->Rd α}(h:∀b,X=some b->SU c f (K b)):SU c f (Li X K):=by
 intro l a s e;obtain⟨b,hb,e⟩:=IT e;exact h b hb e
def YZ{en:Int}{K:Tk->Rd α}(h:∀t,SU c f (K t)):SU c f (TQ en K):=by
 intro l a s e;cases l with
 | nil=>cases e
 | cons t l=>exact h t e
def Se{K:Rd α}(h:SU (c+1) f K):SU c f (Ue K):=by
 intro l a s e;cases l with
 | nil=>cases e
 | cons t l=>have:=h (l:=l) e;simp only[List.length_cons];omega
def Cp{b:Bool}{A B:Rd α}(h1:SU c f A)(h2:SU c f B):SU c f (cond b A B):=by cases b;exact h2;exact h1
def VL{x:ByteArray}{A B:Rd α}(h1:SU (c+1) f A)(h2:SU c f B):SU c f (Om x A B):=by
 intro l a s e;unfold Om at e;cases hx:H9 x l with
 | true=>rw[hx] at e;exact Se h1 e
 | false=>rw[hx] at e;exact h2 e
def VK{n:Nat}{m:Rd α}(h:SU c f m):SU c f (Ol n m):=λ_ _ _ e=>h (MB e).2
def SU.le{c':Nat}{m:Rd α}(h:SU c f m)(hc:c<=c'):SU c' f m:=λ_ _ _ e=>by have:=h e;omega
end
section
variable {c:Nat} {en:Int}
def Mr{f:Tk->Option Bool}:SU c (λ_=>c+1) (Lb en f):=YZ λt=>M5 λb _=>Cp (Se (Eb (Nat.le_refl _))) Je
def GR{x:ByteArray}:SU c (λ_=>c+1) (I5 en x):=Mr
def aT:SU c (λ_=>c+1) (Mh en):=BP Mr λt=>M5 λn _=>Eb (Nat.le_refl _)
def Qh{least:Int}:SU c (λ_=>c+1) (LH en least):=BP aT λp=>Cp Je (Cp Je (Eb (Nat.le_refl _)))
def Xk{least:Int}:SU c (λ_=>c+1) (Ra en least):=BP Mr λt=>M5 λd _=>Cp (Cp Je (Eb (Nat.le_refl _))) Je
def Iv(k:Int)(nm u:ByteArray)(n:Int)(ks:List Nd)(p:Int):Et (Fo k nm u n ks p)=1+G4 ks:=rfl
def O3(n:Nd):G4 [n]=Et n:=by simp[G4]
def UU(l m:List Nd):G4 (l++m)=G4 l+G4 m:=by
 induction l with
 | nil=>simp[G4]
 | cons a l ih=>simp only[List.cons_append,G4,ih];omega
def apF:SU c (λn=>Et n+c) (Uz en) :=
 BP GR λt=>BP Qh λn=>BP GR λ_=>BP Xk λf =>
   VL (BP Xk λu=>BP GR λ_=>BP Xk λk=>Eb (by show 1+G4 []+c<=_;simp only[G4];omega)) (BP GR λ_=>BP Xk λk=>Eb (by show 1+G4 []+c<=_;simp only[G4];omega))
def tR:SU c (λn=>Et n+c) (OV en) :=
 YZ λt=>Se (BP Mr λm=>BP GR λ_=>BP Mr λu=>Cp (BP Mr λr=>M5 λn _=>BP GR λ_=>Eb (by rw[Iv];simp only[G4];omega)) (BP GR λ_=>Eb (by rw[Iv];simp only[G4];omega)))
def Tg:SU c (λn=>Et n+c) (FK en):=BP Qh λp=>Eb (by rw[Iv];simp only[G4];omega)
def apH{read:Rd Nd}(hr:∀c,SU c (λn=>Et n+c) read):∀(q:Nat) (ns:List Nd) (c:Nat),SU (G4 ns+c) (λr=>G4 r+c) (Nb read q ns):=by
 intro q
 induction q with
 | zero=>intro ns c l a s h;cases h
 | succ q ih =>
   intro ns c;refine VL (BP (hr _) λn=>VK ((ih (ns++[n]) c).le ?_)) (Eb (Nat.le_refl _));rw[UU,O3];omega
def tS{read:Rd Nd}(hr:∀c,SU c (λn=>Et n+c) read):SU c (λr=>G4 r+c) (Rh read) :=
 BP (hr c) λn l a s h=>by
   have:=apH hr _ [n] c h;rw[O3] at this;exact this
def Y0:SU c (λ_=>c+1) (M6 en):=BP Mr λt=>M5 λd _=>Cp (Cp (Eb (Nat.le_refl _)) Je) (Eb (Nat.le_refl _))
def apI:SU c (λ_=>c+1) (US en):=BP Mr λt=>Cp (Eb (Nat.le_refl _)) (Eb (Nat.le_refl _))
def aV{Ax a b:Int}:SU c (λ_=>c) (Ny en Ax a b):=BP apI λs=>BP Qh λm=>BP GR λ_=>BP Qh λd=>M5 λg _=>M5 λz _=>Cp Je (Eb (by omega))
def SU.imp{α:Type}{f f':α->Nat}{m:Rd α}(h:SU c f m)(hf:∀a,f' a<=f a):SU c f' m:=λ_ a _ e=>by have:=h e;have:=hf a;omega
def aU{Ax a:Int}:SU c (λ_=>c) (Mj en Ax a):=BP GR λ_=>VL (BP Y0 λa=>aV.imp λ_=>by omega) (BP Y0 λa=>aV.imp λ_=>by omega)
def ahD{before:List Pt}{Ax:Int}:SU c (λ_=>c) (QR en before Ax):=BP Y0 λv=>Cp (Cp (aU.imp λ_=>by omega) Je) (M5 λq _=>Cp Je (Cp Je (aU.imp λ_=>by omega)))
def xS:∀(q:Nat) (l:List Pt) (k:Int) (c:Nat),SU c (λ_=>c) (Jq en q l k):=by
 intro q
 induction q with
 | zero=>intro l k c _ _ _ h;cases h
 | succ q ih=>intro l k c;exact BP ahD λp=>VK (VL ((ih _ _ _).imp λ_=>by omega) (Eb (Nat.le_refl _)))
def xT{k p:Int}:∀(l:List Pt) (acc:List Pc),SU c (λ_=>c) (LN k p l acc):=by
 intro l
 induction l with
 | nil=>intro acc;exact Eb (Nat.le_refl _)
 | cons x l ih=>intro acc;exact M5 λz _=>Cp Je (Cp Je (VK (ih _)))
def vA{op:ByteArray}{l r x:Nd}(h:Bl op l r=some x):Et x=1+Et l+Et r:=by
 unfold Bl at h;revert h;have e1:∀(nm:ByteArray) (a b:Nd) (p:Int),Et (⟨16,nm,ByteArray.empty,0,0,0,0,⟨0,[]⟩,[a,b],p⟩:Nd)=1+Et a+Et b:=by intro nm a b p;simp only[Et,G4];omega
 cases B2 op.data.toList JB.data.toList;cases B2 op.data.toList FQ.data.toList;intro h1;cases h1;exact e1 _ _ _ _;cases KV op JB J9 1 with
 | none=>intro h1;cases h1
 | some y=>intro h1;cases h1;rw[e1];omega
 cases KV op JB J9 1 with
 | none=>intro h1;cases h1
 | some y=>intro h1;cases h1;rw[e1];omega
def atM{α:Type}{f:α->Nat}{yes:ByteArray->Rd α}{no:Rd α}(h1:∀x,SU (c+1) f (yes x))(h2:SU c f no):∀ops:List ByteArray,SU c f (jG yes no ops):=by
 intro ops
 induction ops with
 | nil=>exact h2
 | cons x ops ih=>exact VL (h1 x) ih
def kS{sub:Rd Nd}(h:∀c,SU c (λn=>Et n+c) sub)(op:ByteArray)(l:Nd):SU (Et l+c+1) (λn=>Et n+c) (Pz en sub op l) :=
 BP (Cp Tg (h _)) λr=>M5 λx hx=>Eb (by rw[vA hx];omega)
def ahB{ops:List ByteArray}{sub:Rd Nd}(h:∀c,SU c (λn=>Et n+c) sub):∀(q:Nat) (l:Nd) (c:Nat),SU (Et l+c) (λn=>Et n+c) (I4 en ops sub q l):=by
 intro q
 induction q with
 | zero=>intro l c _ _ _ h;cases h
 | succ q ih=>intro l c;exact atM (λx=>BP (kS h x l) λb=>ih b c) (Eb (Nat.le_refl _)) ops
structure Siz(g:Ek->Rd Nd)(li:Rd (List Nd)):Prop where
 sg:∀e c,SU c (λn=>Et n+c) (g e)
 sli:∀c,SU c (λr=>G4 r+c) li
def aoZ:∀q:Nat,Siz (gP en q).1 (gP en q).2:=by
 intro q
 induction q with
 | zero =>
   constructor;intro e c _ _ _ h;cases h;intro c _ _ _ h;cases h
 | succ q A =>
   refine⟨λe c=>?_,λc=>tS (A.sg .ex)⟩;show SU c (λn=>Et n+c) (Ou en (gP en q).1 (gP en q).2 e);have lv:∀i,SU c (λn=>Et n+c) (MY en (gP en q).1 i):=λi=>BP (A.sg _ _) λN l a s h=>ahB (A.sg _) _ N c h;unfold Ou;split;exact A.sg _ _
   · intro l a s h
     unfold Wy at h;cases hx:H9 Vy l with
     | true =>
       rw[hx] at h;exact BP (g:=λn=>Et n+c) GR (λt=>BP (A.sg _ _) λk=>Eb (by rw[Iv,O3];omega)) h
     | false=>rw[hx] at h;exact A.sg _ _ h
   exact BP (A.sg _ _) λN=>atM (λx=>kS (A.sg _) x N) (Eb (Nat.le_refl _)) _;exact A.sg _ _;exact lv _;refine YZ λt=>Cp (BP aT λn=>VL (Eb (by rw[Iv];simp only[G4];omega)) (Eb (by rw[Iv];simp only[G4];omega))) (Cp (Se (BP Mr λa=>M5 λz _=>Eb (by rw[Iv];simp only[G4];omega))) (M5 λb _=>Cp (Se (Eb (by rw[Iv];simp only[G4];omega))) (A.sg _ _)));have one:∀(k:Int) (nm u:ByteArray) (n p:Int),SU c (λn=>Et n+c) (Ue (FT (Fo k nm u n [] p))):=λ_ _ _ _ _=>Se (Eb (by rw[Iv];simp only[G4];omega))
   exact Cp (one _ _ _ _ _) (Cp (one _ _ _ _ _) (Cp (Se (BP Qh λp=>Eb (by rw[Iv];simp only[G4];omega))) (Cp (one _ _ _ _ _) (Cp (one _ _ _ _ _) (Cp (one _ _ _ _ _) (Cp (one _ _ _ _ _) (Cp (A.sg _ _) (Cp (A.sg _ _) (Cp (A.sg _ _)
     (Cp (Se (BP (A.sg _ _) λa=>BP GR λ_=>Eb (by omega))) Je))))))))))
   exact YZ λt=>Se (BP GR λ_=>BP (A.sg _ _) λa=>BP GR λ_=>BP (A.sli _) λl=>VK (BP GR λ_=>Eb (by rw[Iv];simp only[G4];omega)));exact BP GR λt=>BP GR λ_=>BP (A.sg _ _) λa=>BP GR λ_=>BP (λl a s h=>xS _ _ _ _ h) λl=>BP GR λe=>VK (BP (xT _ _) λr=>Eb (by show 1+G4 [a]+c<=Et a+(c+1+1)+1+1;rw[O3];omega))
def atL:SU c (λn=>Et n+c) (KZ en):=λ_ _ _ h=>(aoZ _).sg .ex c h
def xR(kind:Int):SU c (λn=>Et n+c) (IG en (KZ en) kind) :=
 YZ λt=>Se (Cp (BP (tS λc=>Tg) λl=>BP GR λ_=>Eb (by rw[Iv];omega)) (BP atL λe=>BP GR λ_=>Eb (by rw[Iv,O3];omega)))
def ahC{mk:List Nd->Nd}(hm:∀l,Et (mk l)=1+G4 l):∀(q:Nat) (ns:List Nd) (un am:Bool) (c:Nat),SU (G4 ns+c+1) (λn=>Et n+c) (Gq en (KZ en) mk q ns un am):=by
 intro q
 induction q with
 | zero=>intro ns un am c _ _ _ h;cases h
 | succ q ih =>
   intro ns un am c
   have go:∀(kind:Int) (qD mR:Bool),SU (G4 ns+c+1) (λn=>Et n+c) (Ct (IG en (KZ en) kind) λx=>Ol (ns.length+1) (Gq en (KZ en) mk q (ns++[x]) qD mR)):=λkind qD mR =>
     BP (xR kind) λx=>VK ((ih (ns++[x]) qD mR c).le (by rw[UU,O3];omega))
   exact YZ λt=>Cp (go _ _ _) (Cp (Cp Je (go _ _ _)) (Cp (Cp Je (go _ _ _)) (Cp (Cp (Se (Eb (by rw[hm];omega))) Je) Je)))
def apG:SU c (λn=>Et n+c) (NY en (KZ en)) :=
 YZ λt=>Cp tR (Cp tR (Cp (BP GR λt=>BP Qh λn=>BP GR λ_=>BP Mr λm=>BP apF λh=>BP GR λ_=>λl a s e=>by
   have:=ahC (λl=>rfl) _ [h] false false c e;rw[O3] at this;dsimp only at this ⊢;omega) Je))
end
def aiR(a b:Nat):azY (a:Int) (b:Int)=((max a b:Nat):Int):=by
 unfold azY;split<;>omega
def auX:∀n:Nd,OE n<=Et n:=by
 intro n
 have key:∀(q:Nat) (n:Nd),Et n<=q->OE n<=Et n:=by
   intro q
   induction q with
   | zero=>intro n h;rw[Ge] at h;omega
   | succ q ih =>
     intro n h;rw[NQ,Ge];have:V3 n.kids<=G4 n.kids:=XU.2 λk hk=>Nat.le_trans (ih k (by have:=SF hk;omega)) (ND hk);omega
 exact key _ n (Nat.le_refl _)
def wK:∀(q:Nat) (n:Nd),Et n<=q->Et n<=1000000->Du q n=some (((Et n:Nat):Int),((OE n:Nat):Int)):=by
 intro q
 induction q with
 | zero=>intro n h;have:=Ge n;omega
 | succ q ih =>
   intro n hq hz;have hsz:=Ge n;rw[Du,J7];rw[show Tc n.kids.length=λy:Option ((Int×Int)⊕(Int×Int))=>y from funext λy=>if_pos (by have:=QY n.kids;omega),List.drop_zero]
   have key:∀(m:List Nd),(∀k∈m,k∈n.kids)->∀(i c d:Nat),c+G4 m<=1000000->C4 (ρ:=Int×Int) (λi y x=>FW (Du q) i y x.1 x.2) (λx=>(x.1,x.2)) m i ((c:Int),(d:Int))=some (.inl (((c+G4 m:Nat):Int),((max d (V3 m):Nat):Int))):=by
     intro m
     induction m with
     | nil=>intro _ i c d _;simp[C4,G4,V3]
     | cons a m ihm =>
       intro hm i c d hc;simp only[G4] at hc;have ha:=hm a (List.mem_cons_self ..);rw[C4,FW,ih a (by have:=ND ha;omega) (by have:=ND ha;omega),Option.bind_some];dsimp only;rw[CY (by omega),aiR];have:=ihm (λk hk=>hm k (List.mem_cons_of_mem _ hk)) (i+1) (c+Et a) (max d (OE a)) (by omega);rw[Option.bind_some];dsimp only[Rb];rw[show(c:Int)+(Et a:Int)=((c+Et a:Nat):Int) by omega,this];simp only[G4,V3,Nat.add_assoc,Nat.max_assoc]
   have h1:=key n.kids (λ_ h=>h) 0 1 0 (by omega);have h1:C4 (ρ:=Int×Int) (λi y x=>FW (Du q) i y x.1 x.2) (λx=>(x.1,x.2)) n.kids 0 (1,0)=some (.inl (((1+G4 n.kids:Nat):Int),((max 0 (V3 n.kids):Nat):Int))):=h1;rw[h1,Option.bind_some];dsimp only[MC];have hd:=NQ n;have hd2:=auX n;rw[CY (by omega),hsz,hd];congr 2;omega
def Z7{n:Nd}(hz:Et n<=1000000):Dt n=some (if 2000 < Et n\/40 < OE n then (z0,[⟨2,0⟩]) else (n,[])):=by
 have:Mb n=some (((Et n:Nat):Int),((OE n:Nat):Int)):=X1 (Et n) λq hq=>wK q n hq hz;unfold Dt;rw[this,Option.bind_some];dsimp only;by_cases h1:2000 < Et n;rw[GJ (by omega),if_pos (.inl h1)];rfl;rw[Hh (by omega)];by_cases h2:40 < OE n;rw[GJ (by omega),if_pos (.inr h2)];rfl;rw[Hh (by omega),if_neg (by omega)];rfl
end Mo
end Go.Proofs.YtpbkhogolfegfaaGreatDoor
namespace Go.Proofs.YtpbkhogolfegfaaGreatDoor
open AI Go
namespace Mo
set_option maxRecDepth 100000
def aeM(n:Nd):Nd×List Dg:=if 2000 < Et n\/40 < OE n then (z0,[⟨2,0⟩]) else (n,[])
def azQ{en:Int}:∀(q:Nat) (l:List Tk) (ks:List Nd) (ds:List Dg) (r:List Nd×List Dg),Gl l->l.length<=10000->JC en q l ks ds=some r->G4 r.1<=G4 ks+l.length/\r.2.length<=max 20 ds.length:=by
 intro q
 induction q with
 | zero=>intro l ks ds r _ _ h;cases h
 | succ q ih =>
   intro l ks ds r hg hl h;cases l with
   | nil=>cases h;exact⟨by dsimp only;omega,by dsimp only;omega⟩
   | cons t l =>
     unfold JC at h;cases hd:DM ((ds.length:Nat):Int) 20 with
     | false=>rw[hd] at h;cases h;exact⟨by dsimp only;omega,by dsimp only;omega⟩
     | true =>
       rw[hd] at h;dsimp only[cond] at h;have hd:=Yx hd;split at h;cases h;rename_i n s hi;have a:=apG (c:=0) hi;obtain⟨⟨k,rfl⟩,_,_⟩:=K0 hg hl hi;have b:=ih _ _ _ _ (hg.drop k) (by rw[List.length_drop];omega) h;rw[UU,O3] at b;exact⟨by dsimp only at a;omega,b.2⟩;rename_i d s hi;obtain⟨⟨k,rfl⟩,h2,_⟩:=K0 hg hl hi;obtain⟨j,hj⟩:=Qf ((t::l).drop k);have hl2:l.length<=10000:=by simp only[List.length_cons] at hl;omega
       have b:=ih _ _ _ _ (by rw[hj];exact(hg.drop k).drop j) (by omega) h;simp only[List.length_append,List.length_singleton] at b;simp only[List.length_cons];exact⟨by omega,by omega⟩
def mS(ks:List Nd):List Dg->Nd×List Dg
 | []=>aeM (G3 ks)
 | ds=>(z0,ds)
def Xa{s:ByteArray}(h:PX s=0):∃ks ds,JC ((s.data.toList.length:Nat):Int) ((Bu s).length+1) (Bu s) [] []=some (ks,ds)/\Cy s=some (mS ks ds)/\G4 ks<=2000/\ds.length<=20:=by
 obtain⟨hg,hl⟩:=Lc s;obtain⟨ks,ds,h1,h2⟩:=wU h hg (by omega);have h3:=azQ _ _ _ _ _ hg (by omega) h1;simp only[G4,List.length_nil] at h3;refine⟨ks,ds,h1,?_,by omega,by omega⟩;rw[h2];cases ds with
 | nil =>
   rw[Hh (by simp)];exact Z7 (by have:=Ge (G3 ks);simp only[G3] at this;rw[show Et (G3 ks)=1+G4 ks from rfl];omega)
 | cons d ds =>
   rw[GJ (by simp only[List.length_cons];omega)];rfl
def auM:(Nd⊕Dg)×List Tk->Nd×List Dg
 | (.inl n,[])=>aeM n
 | (.inl _,t::_)=>(z0,[⟨71,t.AH⟩])
 | (.inr d,_)=>(z0,[d])
def sV{s:ByteArray}(h:PX s=0):∃r l,KZ ((s.data.toList.length:Nat):Int) (Bu s)=some (r,l)/\Dq s=some (auM (r,l)):=by
 obtain⟨hg,hl⟩:=Lc s;obtain⟨r,l,h1,_⟩:=atP (en:=((s.data.toList.length:Nat):Int)) (n:=(Bu s).length) (by omega) hg (Nat.le_refl _);refine⟨r,l,h1,?_⟩;obtain⟨k',a1,a2,rfl,a4⟩:=rA (by omega) hg (Nat.zero_le _) (by rw[List.drop_zero];exact h1);unfold Dq IE;rw[Option.bind_some];dsimp only;rw[IQ (by unfold PX at h;omega)];dsimp only[cond];have a4:FM ⟨List.map Hi (LexS.I9 s.data.toList).fst,0,((s.data.toList.length:Nat):Int)⟩=some (r,(k':Int)):=a4;unfold KH Hj;rw[a4,Option.bind_some];cases r with
 | inr d=>rfl
 | inl n =>
   dsimp only[Sum.elim];rcases JK (Bu s) a2 with ⟨h2,h3⟩ | ⟨t,h2,h3,h4⟩
   rw[h3,Hh (by show((List.map Hi (LexS.I9 s.data.toList).fst).length:Int)<=_;unfold Bu at h2;omega)];dsimp only[cond,Option.bind,ahY]
   have hz:Et n<=1000000:=by
     have:=atL (c:=0) h1;dsimp only at this;omega
   have:=Z7 hz;rw[this];rfl;rw[h4,GJ (by show _ < ((List.map Hi (LexS.I9 s.data.toList).fst).length:Int);unfold Bu at h2;omega)];dsimp only[cond]
   have hgt:G5 (List.map Hi (LexS.I9 s.data.toList).fst) (k':Int)=some t:=by
     unfold G5;rw[if_pos (by omega),Int.toNat_natCast];exact h3
   rw[hgt];rfl
end Mo
end Go.Proofs.YtpbkhogolfegfaaGreatDoor
namespace Go.Proofs.YtpbkhogolfegfaaGreatDoor
open AI Go LexS
namespace Mo
set_option maxRecDepth 100000
structure Gy(t:Tk):Prop where
 name:t.kind=1->(1<=t.text.data.toList.length/\t.text.data.toList.length<=16)/\(∃b,t.text.data.toList[0]?=some b/\97<=b.toNat/\b.toNat<=122)/\∀c∈t.text.data.toList,uJ c
 cur:t.kind=2->vG t.text
def WU:∀n < 128,((L3 n &&& 26)≠0->(97<=n/\n<=122)\/(48<=n/\n<=57)\/n=95)/\((L3 n &&& 4)≠0->65<=n/\n<=90)/\((L3 n &&& 2)≠0->97<=n/\n<=122):=by decide
def WT{m:Nat}{c:UInt8}(h:cin m c=true):c.toNat < 128/\(L3 c.toNat &&& m)≠0:=by
 unfold cin at h;refine⟨?_,by simpa using h⟩
 by_cases hc:c.toNat < 128;exact hc;rw[cG _ (by omega)] at h;simp at h
def kN(m:Nat)(t:List UInt8):∀c∈t.take (Be m t),cin m c=true:=by
 unfold Be
 induction t with
 | nil=>intro c hc;cases hc
 | cons x t ih =>
   intro c hc;rw[List.takeWhile_cons] at hc;split at hc;rename_i hx;rw[List.length_cons,List.take_succ_cons] at hc;rcases List.mem_cons.1 hc with rfl | hc
   exact hx;exact ih c hc;cases hc
def azP{t:List UInt8}{o:Nat}:Gy (Hi ((A2 t).1,t.take (A2 t).2,o)):=by
 by_cases c2:GH 2 t=true;by_cases hc:Be 30 t<=16/\Be 26 t=Be 30 t;have hr:A2 t=(1,Be 30 t):=by unfold A2;rw[if_pos c2,if_pos hc]
 rw[hr];refine⟨λ_=>?_,λh=>?_⟩;obtain⟨c,u,rfl,aBP⟩:=UE c2
 have hp:1<=Be 26 (c::u):=by
   rw[Ds,if_pos (by
     obtain⟨a,b⟩:=WT aBP;have:=(WU _ a).2.2 b;unfold cin;have:∀n < 128,(L3 n &&& 2)≠0->((L3 n &&& 26) != 0)=true:=by decide
     exact this _ a b)]
   omega
 have hsp:=YX 30 (c::u);dsimp only[Hi];refine⟨⟨by rw[List.length_take];omega,by rw[List.length_take];omega⟩,⟨c,?_,?_⟩,λx hx=>?_⟩;rw[List.getElem?_take_of_lt (by omega)];rfl;obtain⟨a,b⟩:=WT aBP;exact(WU _ a).2.2 b;rw[<- hc.2] at hx;obtain⟨a,b⟩:=WT (kN 26 _ x hx);exact(WU _ a).1 b;have:(((1:Nat)):Int)=2:=h;omega;have hr:A2 t=(0,0):=by unfold A2;rw[if_pos c2,if_neg hc]
 rw[hr];exact⟨λh=>by have:(((0:Nat)):Int)=1:=h;omega,λh=>by have:(((0:Nat)):Int)=2:=h;omega⟩;by_cases c4:GH 4 t=true;by_cases hc:Be 30 t=3/\Be 4 t=Be 30 t;have hr:A2 t=(2,Be 30 t):=by unfold A2;rw[if_neg c2,if_pos c4,if_pos hc]
 rw[hr];refine⟨λh=>by have:(((2:Nat)):Int)=1:=h;omega,λ_=>?_⟩;have hsp:=YX 30 t;unfold vG;dsimp only[Hi];refine⟨by rw[List.length_take];omega,λx hx=>?_⟩;rw[<- hc.2] at hx;obtain⟨a,b⟩:=WT (kN 4 _ x hx);exact(WU _ a).2.1 b;have hr:A2 t=(0,0):=by unfold A2;rw[if_neg c2,if_pos c4,if_neg hc]
 rw[hr];exact⟨λh=>by have:(((0:Nat)):Int)=1:=h;omega,λh=>by have:(((0:Nat)):Int)=2:=h;omega⟩
 have:(A2 t).1≠1/\(A2 t).1≠2:=by
   unfold A2;rw[if_neg c2,if_neg c4];split
   · unfold Gw
     dsimp only
     repeat' split
     all_goals simp
   rcases SE t Gc with h | h<;>omega
 exact⟨λh=>absurd (show(((A2 t).1:Nat):Int)=1 from h) (by omega),λh=>absurd (show(((A2 t).1:Nat):Int)=2 from h) (by omega)⟩
def Gx(l:List Tk):Prop:=∀t∈l,Gd t/\Gy t
def eX(s:ByteArray):Gx (Bu s):=by
 intro t ht;refine⟨(Lc s).1 t ht,?_⟩;unfold Bu I9 at ht;split at ht;cases ht;obtain⟨a,b⟩:=Yt (C0 s.data.toList) [] (Nat.zero_le _);obtain⟨x,hx,rfl⟩:=List.mem_map.1 ht;rcases b x hx with hx | ⟨hx,h0⟩
 cases hx;obtain⟨u,o',h1,h2,rfl⟩:=bL _ _ _ x hx h0;exact azP
section
variable {α β:Type} {P:α->Prop} {P2:β->Prop}
def Va(P:α->Prop)(m:Rd α):Prop:=∀⦃l:List Tk⦄ ⦃a:α⦄ ⦃s:List Tk⦄,Gx l->m l=some (.inl a,s)->P a/\Gx s
def BQ{m:Rd α}{K:α->Rd β}(h1:Va P m)(h2:∀a,P a->Va P2 (K a)):Va P2 (Ct m K):=by
 intro l b s hg h;rcases IB h with ⟨a,s',e1,e2⟩ | ⟨d,_,h⟩
 obtain⟨pa,hg⟩:=h1 hg e1;exact h2 a pa hg e2;cases h
def D2{a:α}(h:P a):Va P (FT a):=by
 intro l b s hg e;obtain⟨e1,rfl⟩:=KB e;cases e1;exact⟨h,hg⟩
def Jg{e p:Int}:Va P (LX e p):=by
 intro l b s _ h;obtain⟨h,_⟩:=My h;cases h
def OA{X:Option β}{K:β->Rd α}(h:∀b,X=some b->Va P (K b)):Va P (Li X K):=by
 intro l a s hg e;obtain⟨b,hb,e⟩:=IT e;exact h b hb hg e
def lE{en:Int}{K:Tk->Rd α}(h:∀t,Gd t/\Gy t->Va P (K t)):Va P (TQ en K):=by
 intro l a s hg e;cases l with
 | nil=>cases e
 | cons t l=>exact h t (hg t (List.mem_cons_self ..)) hg e
def Qi{K:Rd α}(h:Va P K):Va P (Ue K):=by
 intro l a s hg e;cases l with
 | nil=>cases e
 | cons t l=>exact h (λt ht=>hg t (List.mem_cons_of_mem _ ht)) e
def DS{b:Bool}{A B:Rd α}(h1:b=true->Va P A)(h2:b=false->Va P B):Va P (cond b A B):=by cases b;exact h2 rfl;exact h1 rfl
def VR{x:ByteArray}{A B:Rd α}(h1:Va P A)(h2:Va P B):Va P (Om x A B):=by
 intro l a s hg e;unfold Om at e;cases hx:H9 x l with
 | true=>rw[hx] at e;exact Qi h1 hg e
 | false=>rw[hx] at e;exact h2 hg e
def VQ{n:Nat}{m:Rd α}(h:Va P m):Va P (Ol n m):=λ_ _ _ hg e=>h hg (MB e).2
def Va.imp{P':α->Prop}{m:Rd α}(h:Va P m)(f:∀a,P a->P' a):Va P' m:=λ_ a _ hg e=>⟨f a (h hg e).1,(h hg e).2⟩
end
section
variable {en:Int}
def Ms{f:Tk->Option Bool}:Va (λt=>(Gd t/\Gy t)/\f t=some true) (Lb en f) :=
 lE λt ht=>OA λb hb=>DS (λh=>Qi (D2 ⟨ht,by rw[hb,h]⟩)) λ_=>Jg
def GS{x:ByteArray}:Va TT (I5 en x):=Ms.imp λ_ _=>trivial
def W6{t:Tk}(hg:Gd t/\Gy t)(h:Cw t=some true):Ri t.text:=by
 unfold Cw at h;rw[adV] at h;cases hk:CS t.kind 1 with
 | false=>rw[hk] at h;cases h
 | true =>
   rw[hk] at h;obtain⟨h1,h2,h3⟩:=hg.2.name (FJ hk);refine⟨h1,h2,λhm=>?_,h3⟩;rw[DA.2 hm] at h;cases h
def tW{t:Tk}(hg:Gd t/\Gy t)(h:Fb t=some true):U2 t.text:=by
 unfold Fb at h;cases h1:B2 t.text.data.toList G9.data.toList with
 | true=>exact .inl (OW h1)
 | false =>
   rw[h1] at h;cases h2:B2 t.text.data.toList EF.data.toList with
   | true=>exact .inr (.inl (OW h2))
   | false =>
     rw[h2] at h;cases h3:B2 t.text.data.toList JN.data.toList with
     | true=>exact .inr (.inr (.inl (OW h3)))
     | false =>
       rw[h3] at h;exact .inr (.inr (.inr (hg.2.cur (FJ (QF h).symm))))
def bG:Va (λp:Int×Int=>0<=p.1/\p.1<=999999999999) (Mh en):=by
 refine BQ Ms λt ht=>OA λn hn=>D2 ?_;obtain⟨z,h1,h2⟩:=ht.1.1.num (FJ (QF ht.2).symm);rw[h1] at hn;cases hn;exact h2
def Qj(least:Int):Va (λp:Int×Int=>least<=p.1/\p.1<=1000000) (LH en least) :=
 BQ bG λp _=>DS (λ_=>Jg) λh1=>DS (λ_=>Jg) λh2=>D2 ⟨K2 h1,K2 h2⟩
def Xo(least:Int):Va (λd:Int=>least<=d/\0<=d/\d<=36524) (Ra en least):=by
 refine BQ Ms λt ht=>OA λd hd=>DS (λh=>DS (λ_=>Jg) λh3=>D2 ⟨K2 h3,?_⟩) λ_=>Jg;obtain⟨d',e,h1,h2⟩:=ht.1.1.date (FJ (QF ht.2).symm);rw[h1] at hd;cases hd;exact h2 (FJ h)
def aqK:Va Rc (Uz en):=by
 have mk:∀{n f u k p:Int},(0<=n/\n<=1000000)->(0<=f/\f<=36524)->(f < u/\u<=36525)->(0<=k/\k<=36524)->Rc ⟨5,bE,bE,n,f,u,k,⟨0,[]⟩,[],p⟩ :=
   λh1 h2 h3 h4=>⟨rfl,h1,rfl,h2,h3,h4,rfl,rfl,rfl,rfl,rfl,rfl,rfl,rfl⟩
 exact BQ GS λt _=>BQ (Qj _) λn hn=>BQ GS λ_ _=>BQ (Xo _) λf hf =>
   VR (BQ (Xo _) λu hu=>BQ GS λ_ _=>BQ (Xo _) λk hk=>D2 (mk hn hf.2 ⟨by have:=hu.1;rw[CY (by have:=hf.2;omega)] at this;omega,by have:=hu.2;omega⟩ hk.2))
     (BQ GS λ_ _=>BQ (Xo _) λk hk=>D2 (mk hn hf.2 ⟨by have:=hf.2;omega,by omega⟩ hk.2))
def aoC{x:ByteArray}{n:Int}(h:Ev x=some n):0<=n/\n<=4:=by
 unfold Ev at h;revert h;cases B2 S6.data.toList x.data.toList;cases B2 Me.data.toList x.data.toList;cases B2 Pg.data.toList x.data.toList;cases B2 Ta.data.toList x.data.toList<;>(intro h;cases h;decide)
 intro h;cases h;decide;intro h;cases h;decide;intro h;cases h;decide
def uD:Va ID (OV en):=by
 refine lE λt _=>Qi (BQ Ms λm hm=>BQ GS λ_ _=>BQ Ms λu hu=>DS (λ_=>BQ Ms λr hr=>OA λn hn=>BQ GS λ_ _=>D2 (.inr (.inl ?_))) λ_=>BQ GS λ_ _=>D2 (.inl ?_));have h1:=aoC hn
 have h2:0 < n:=by
   have h:=hr.2;unfold BX at h;rw[hn] at h;exact Yx (by cases hq:DM 0 n with | true=>rfl | false=>(simp only[Option.bind_some,hq,cond_false] at h;cases h))
 exact⟨rfl,W6 hm.1 hm.2,tW hu.1 hu.2,(by omega:1<=n),h1.2,rfl,rfl,rfl,rfl,rfl,rfl,rfl,rfl,rfl⟩;exact⟨rfl,W6 hm.1 hm.2,tW hu.1 hu.2,rfl,rfl,rfl,rfl,rfl,rfl,rfl,rfl,rfl⟩
end
end Mo
end Go.Proofs.YtpbkhogolfegfaaGreatDoor
namespace Go.Proofs.YtpbkhogolfegfaaGreatDoor
open AI Go LexS
namespace Mo
set_option maxRecDepth 100000
section
variable {en:Int}
def Zc:Va (λp:Int×Int=>0<=p.1/\p.1<=999999999999) (M6 en):=by
 refine BQ Ms λt ht=>OA λc hc=>?_
 have hk:t.kind=3\/t.kind=4:=by
   have h:=ht.2;unfold Dk at h;cases h4:CS t.kind 4 with
   | true=>exact .inr (FJ h4)
   | false =>
     rw[h4] at h;exact .inl (FJ (QF h).symm)
 obtain⟨z,h1,h2⟩:=ht.1.1.qT hk;rw[h1] at hc;cases hc;exact DS (λ_=>DS (λ_=>D2 h2) λ_=>Jg) λ_=>D2 h2
def aqN:Va (λs:Int=>s=1\/s=-1) (US en):=BQ Ms λt _=>DS (λ_=>D2 (.inr rfl)) λ_=>D2 (.inl rfl)
def axO{Ax d g z:Int}(hc:1<=Ax/\Ax<=1000000)(hd:1<=d/\d<=1000000)(h1:acA Ax d=some g)(h2:SO Ax g=some z):1<=BU z d:=by
 obtain⟨g',e1,mE,⟨c1,h3⟩,_⟩:=acC hc.1 (show(0:Int)<=d by omega);rw[h1] at e1;cases e1;rw[XV (by omega) (by omega) (by omega)] at h2;cases h2;have hq:Ax / g=c1:=by rw[h3,Int.mul_ediv_cancel_left _ (by omega)]
 have hc1:1<=c1:=by
   by_cases h:1<=c1;exact h;have:=Int.mul_nonpos_of_nonneg_of_nonpos (show 0<=g by omega) (show c1<=0 by omega);omega
 have fQ:c1<=1000000:=by
   have:=Int.mul_le_mul_of_nonneg_right mE (show 0<=c1 by omega);omega
 rw[hq];have a1:=Int.mul_le_mul fQ hd.2 (by omega) (by omega);have a2:=Int.mul_nonneg (show 0<=c1 by omega) (show 0<=d by omega);rw[IM (by omega)];have:=Int.mul_le_mul_of_nonneg_right hc1 (show 0<=d by omega);omega
def PtP(before:List Pt)(x:Pt×Int):Prop:=(0<=x.1.fr/\x.1.fr<=999999999999)/\(before=[]->x.1.fr=0)/\(∀q,before[before.length - 1]?=some q->q.fr < x.1.fr)/\before.length<=63/\(-999999999999<=x.1.AH/\x.1.AH<=999999999999)/\1<=x.2/\x.2<=1000000
def bI{Ax:Int}(hc:1<=Ax/\Ax<=1000000)(from_ a:Int):Va (λx:Pt×Int=>x.1.fr=from_/\x.1.AH=a/\1<=x.2/\x.2<=1000000) (Ny en Ax from_ a) :=
 BQ aqN λs hs=>BQ (Qj _) λm hm=>BQ GS λ_ _=>BQ (Qj _) λd hd=>OA λg hg=>OA λz hz=>DS (λ_=>Jg) λh5=>D2 ⟨rfl,rfl,axO hc hd hg hz,K2 h5⟩
def bH{Ax:Int}(hc:1<=Ax/\Ax<=1000000)(from_:Int):Va (λx:Pt×Int=>x.1.fr=from_/\(-999999999999<=x.1.AH/\x.1.AH<=999999999999)/\1<=x.2/\x.2<=1000000) (Mj en Ax from_) :=
 BQ GS λ_ _=>VR (BQ Zc λa ha=>(bI hc _ _).imp λx hx=>⟨hx.1,by rw[hx.2.1,IM (by omega)];omega,hx.2.2⟩) (BQ Zc λa ha=>(bI hc _ _).imp λx hx=>⟨hx.1,by rw[hx.2.1,IM (by omega)];omega,hx.2.2⟩)
def aiK(before:List Pt){Ax:Int}(hc:1<=Ax/\Ax<=1000000):Va (PtP before) (QR en before Ax):=by
 refine BQ Zc λv hv=>DS (λh=>DS (λh0=>(bH hc _).imp λx hx=>?_) λ_=>Jg) λh=>OA λq hq=>DS (λ_=>Jg) λh1=>DS (λ_=>Jg) λh2=>(bH hc _).imp λx hx=>?_;have hn:before=[]:=List.eq_nil_of_length_eq_zero (by have:=FJ h;omega);have h0:=FJ h0;exact⟨by rw[hx.1];omega,λ_=>by rw[hx.1];exact h0,λq hq=>(by rw[hn] at hq;cases hq),by rw[hn];exact Nat.zero_le _,hx.2⟩;have h1:=aeC h1;have h2:=aeC h2;have hne:before≠[]:=λe=>ZR h (by rw[e];rfl);exact⟨by rw[hx.1];omega,λe=>absurd e hne,λq' mG=>(by rw[hq] at mG;cases mG;rw[hx.1];exact h1),by omega,hx.2⟩
def PLP(ps:List Pt):Prop:=(∀x,ps[0]?=some x->x.fr=0)/\∀(i:Nat) p,ps[i]?=some p->(0<=p.fr/\p.fr<=999999999999)/\(∀q,0 < i->ps[i - 1]?=some q->q.fr < p.fr)/\-999999999999<=p.AH/\p.AH<=999999999999
def sX{ps:List Pt}{x:Pt×Int}(h:PLP ps)(hx:PtP ps x):PLP (ps++[x.1]):=by
 obtain⟨a1,a2,a3,a4,a5,a6⟩:=hx
 have get:∀{i:Nat} {p:Pt},(ps++[x.1])[i]?=some p->(i < ps.length/\ps[i]?=some p)\/(i=ps.length/\p=x.1):=by
   intro i p hp;by_cases hi:i < ps.length;rw[List.getElem?_append_left hi] at hp;exact .inl ⟨hi,hp⟩;rw[List.getElem?_append_right (by omega)] at hp;cases hj:i - ps.length with
   | zero=>rw[hj] at hp;cases hp;exact .inr ⟨by omega,rfl⟩
   | succ j=>rw[hj] at hp;cases hp
 refine⟨λy hy=>?_,λi p hp=>?_⟩;rcases get hy with ⟨h1,h2⟩ | ⟨h1,rfl⟩
 exact h.1 y h2;exact a2 (List.eq_nil_of_length_eq_zero h1.symm);rcases get hp with ⟨h1,h2⟩ | ⟨rfl,rfl⟩
 obtain⟨b1,b2,b3⟩:=h.2 i p h2;refine⟨b1,λq hq Zn=>?_,b3⟩;rcases get Zn with ⟨_,h4⟩ | ⟨h3,_⟩
 exact b2 q hq h4;omega;refine⟨a1,λq hq Zn=>?_,a5⟩;rcases get Zn with ⟨_,h4⟩ | ⟨h3,_⟩
 exact a3 q h4;omega
def yF:∀(q:Nat) (ps:List Pt) (c:Int),1<=c/\c<=1000000->PLP ps->Va (λr:List Pt×Int=>PLP r.1/\(1<=r.1.length/\r.1.length<=64)/\1<=r.2/\r.2<=1000000) (Jq en q ps c):=by
 intro q
 induction q with
 | zero=>intro ps c _ _ _ _ _ _ h;cases h
 | succ q ih =>
   intro ps c hc hp;refine BQ (aiK ps hc) λx hx=>VQ (VR (ih _ _ hx.2.2.2.2.2 (sX hp hx)) (D2 ⟨sX hp hx,?_,hx.2.2.2.2.2⟩));have:=hx.2.2.2.1;simp only[List.length_append,List.length_singleton];omega
def yG{c p:Int}:∀(ps:List Pt) (acc:List Pc),Va (λr:List Pc=>∃out,r=acc++out/\out.length=ps.length/\∀(i:Nat) x,ps[i]?=some x->∃sl,out[i]?=some ⟨x.fr,BU x.AH c,sl⟩/\-1000000<=sl/\sl<=1000000) (LN c p ps acc):=by
 intro ps
 induction ps with
 | nil=>intro acc;exact D2 ⟨[],by simp,rfl,λi x h=>by cases h⟩
 | cons y ps ih =>
   intro acc;refine OA λz _=>DS (λ_=>Jg) λh1=>DS (λ_=>Jg) λh2=>VQ ((ih _).imp λr hr=>?_);obtain⟨out,rfl,h3,h4⟩:=hr;refine⟨⟨y.fr,BU y.AH c,BU y.num z⟩::out,by simp,by simp[h3],λi x hx=>?_⟩;cases i with
   | zero=>cases hx;exact⟨_,rfl,K2 h2,K2 h1⟩
   | succ i=>exact h4 i x hx
def azN{ps:List Pt}{c:Int}{r:List Pc}(h:PLP ps)(hl:1<=ps.length/\ps.length<=64)(hc:1<=c/\c<=1000000)(h2:r.length=ps.length)(h3:∀(i:Nat) x,ps[i]?=some x->∃sl,r[i]?=some ⟨x.fr,BU x.AH c,sl⟩/\-1000000<=sl/\sl<=1000000):kU ⟨c,r⟩:=by
 have back:∀{i:Nat} {y:Pc},r[i]?=some y->∃x sl,ps[i]?=some x/\y=⟨x.fr,BU x.AH c,sl⟩/\-1000000<=sl/\sl<=1000000:=by
   intro i y hy;have hi:i < ps.length:=by have:=(List.getElem?_eq_some_iff.1 hy).1;omega
   obtain⟨sl,e,b⟩:=h3 i ps[i] (List.getElem?_eq_getElem hi);rw[hy] at e;exact⟨ps[i],sl,List.getElem?_eq_getElem hi,Option.some.inj e,b⟩
 refine⟨hc,by rw[h2];exact hl,λy hy=>?_,λi y hy=>?_⟩;obtain⟨x,sl,h4,rfl,_⟩:=back hy;exact h.1 x h4;obtain⟨x,sl,h4,rfl,h5,h6⟩:=back hy;obtain⟨a1,a2,a3,a4⟩:=h.2 i x h4;have m1:=Int.mul_le_mul_of_nonneg_right a4 (show 0<=c by omega);have m2:=Int.mul_le_mul_of_nonneg_right a3 (show 0<=c by omega);have e:BU x.AH c=x.AH*c:=IM (by omega);refine⟨a1.2,λq hq Zn=>?_,?_,?_,?_,h6,h5⟩;obtain⟨x',sl',h7,rfl,_⟩:=back Zn;exact a2 x' hq h7;dsimp only;unfold Vl fE;rw[if_neg (by omega),e,Int.mul_tmod_left];dsimp only;rw[e,IM (by omega)];exact m1;dsimp only;rw[e,IM (by omega)];exact m2
def aqM{P:Nd->Prop}{read:Rd Nd}(hr:Va P read):∀(q:Nat) (ns:List Nd),ns≠[]->(∀n∈ns,P n)->Va (λr:List Nd=>r≠[]/\∀n∈r,P n) (Nb read q ns):=by
 intro q
 induction q with
 | zero=>intro ns _ _ _ _ _ _ h;cases h
 | succ q ih =>
   intro ns h0 h;refine VR (BQ hr λn hn=>VQ (ih _ (by simp) λy hy=>?_)) (D2 ⟨h0,h⟩);rcases List.mem_append.1 hy with hy | hy
   exact h y hy;rw[List.mem_singleton.1 hy];exact hn
def uE{P:Nd->Prop}{read:Rd Nd}(hr:Va P read):Va (λr:List Nd=>r≠[]/\∀n∈r,P n) (Rh read) :=
 BQ hr λn hn _ _ _ hg h=>aqM hr _ [n] (by simp) (λy hy=>by rw[List.mem_singleton.1 hy];exact hn) hg h
def ayA{n p:Int}(h:1<=n/\n<=1000000):J4 (Fo 11 bE EF n [] p)/\QI (Fo 11 bE EF n [] p) :=
 ⟨(Jj _).2 ⟨.inl ⟨rfl,.inr (.inl rfl),by show 0<=n;omega,by show n<=_;omega,λe=>absurd e (show EF≠G9 by decide),rfl,rfl,rfl,rfl,rfl,rfl,rfl,rfl,rfl⟩,λk hk=>by cases hk⟩,rfl,rfl,h⟩
def Ti:Va (λn=>J4 n/\QI n) (FK en):=BQ (Qj _) λp hp=>D2 (ayA hp)
end
end Mo
end Go.Proofs.YtpbkhogolfegfaaGreatDoor
namespace Go.Proofs.YtpbkhogolfegfaaGreatDoor
open AI Go LexS
namespace Mo
set_option maxRecDepth 100000
def opQ{nm:ByteArray}{a b:Nd}{p:Int}(ho:YB nm)(ha:J4 a)(hb:J4 b)(hn:nm=EC->QI b):J4 ⟨16,nm,ByteArray.empty,0,0,0,0,⟨0,[]⟩,[a,b],p⟩:=by
 refine(Jj _).2 ⟨.inr (.inr (.inr (.inr (.inr (.inl ⟨rfl,⟨rfl,rfl,rfl,rfl,rfl,rfl,rfl,rfl⟩,rfl,ho,λe k hk=>?_⟩))))),λk hk=>?_⟩;cases hk;exact hn e;simp only[List.mem_cons,List.not_mem_nil,or_false] at hk;rcases hk with rfl | rfl
 exact ha;exact hb
def Vh:List ByteArray:=[jH,PJ,GO,H3,J9,G8,JB,FQ,Oi,Lh,Px,EC,gI]
def sU(i:Nat):∀x∈opsOf i,x∈Vh:=by
 unfold opsOf;split<;>(intro x hx;simp only[List.mem_cons,List.not_mem_nil,or_false] at hx)<;>(try (unfold Vh;simp only[List.mem_cons]))
 exact .inl hx;exact .inr (.inl hx);rcases hx with h | h | h | h | h | h<;>simp[h]
 rcases hx with h | h<;>simp[h]
 rcases hx with h | h | h<;>simp[h]
def uZ{op:ByteArray}{l r x:Nd}(ho:op∈Vh)(hl:J4 l)(hr:J4 r)(hn:op=EC->QI r)(h:Bl op l r=some x):J4 x:=by
 unfold Bl at h;revert h;cases h1:B2 op.data.toList JB.data.toList with
 | true =>
   rw[OW h1,show KV JB JB J9 1=some J9 from rfl];intro h;cases h;exact opQ (by unfold YB;simp) hr hl λe=>absurd e (by decide)
 | false =>
   cases h2:B2 op.data.toList FQ.data.toList with
   | true =>
     rw[OW h2,show KV FQ JB J9 1=some G8 from rfl];intro h;cases h;exact opQ (by unfold YB;simp) hr hl λe=>absurd e (by decide)
   | false =>
     intro h;cases h;refine opQ ?_ hl hr hn;unfold Vh at ho;simp only[List.mem_cons,List.not_mem_nil,or_false] at ho;have n1:=abJ h1;have n2:=abJ h2;unfold YB;rcases ho with h | h | h | h | h | h | h | h | h | h | h | h | h
     all_goals first | exact absurd h n1 | exact absurd h n2 | simp[h]
section
variable {en:Int}
def atU{α:Type}{P:α->Prop}{yes:ByteArray->Rd α}{no:Rd α}(h2:Va P no):∀ops:List ByteArray,(∀x∈ops,Va P (yes x))->Va P (jG yes no ops):=by
 intro ops
 induction ops with
 | nil=>intro _;exact h2
 | cons x ops ih=>intro h;exact VR (h x (List.mem_cons_self ..)) (ih λy hy=>h y (List.mem_cons_of_mem _ hy))
def lF{sub:Rd Nd}(h:Va J4 sub){op:ByteArray}(ho:op∈Vh){l:Nd}(hl:J4 l):Va J4 (Pz en sub op l):=by
 refine BQ (P:=λr=>J4 r/\(op=EC->QI r)) (DS (λ_=>Ti.imp λn hn=>⟨hn.1,λ_=>hn.2⟩) λh1=>h.imp λn hn=>⟨hn,λe=>absurd e (abJ h1)⟩) λr hr=>OA λx hx=>D2 (uZ ho hl hr.1 hr.2 hx)
def aiI{ops:List ByteArray}(aKC:∀x∈ops,x∈Vh){sub:Rd Nd}(h:Va J4 sub):∀(q:Nat) (l:Nd),J4 l->Va J4 (I4 en ops sub q l):=by
 intro q
 induction q with
 | zero=>intro l _ _ _ _ _ h;cases h
 | succ q ih=>intro l hl;exact atU (D2 hl) ops λx hx=>BQ (lF h (aKC x hx) hl) λb hb=>ih b hb
def ayT{nm:ByteArray}{p:Int}(h:Ri nm):J4 (Fo 12 nm bE 0 [] p):=(Jj _).2 ⟨.inr (.inl ⟨rfl,h,rfl,rfl,rfl,rfl,rfl,rfl,rfl,rfl,rfl⟩),λk hk=>by cases hk⟩
def Yu{u:ByteArray}{n p:Int}(h:U2 u)(h0:0<=n/\n<=999999999999)(h1:u=G9->n<=1):J4 (Fo 11 bE u n [] p):=(Jj _).2 ⟨.inl ⟨rfl,h,h0.1,h0.2,h1,rfl,rfl,rfl,rfl,rfl,rfl,rfl,rfl,rfl⟩,λk hk=>by cases hk⟩
def dT{a:Nd}(h:J4 a):∀k∈[a],J4 k:=λk hk=>by rw[List.mem_singleton.1 hk];exact h
def axX{k:Nd}{p:Int}(hk:J4 k):J4 (Fo 15 bE bE 0 [k] p):=(Jj _).2 ⟨.inr (.inr (.inr (.inr (.inl ⟨rfl,rfl,rfl,rfl,rfl,rfl,rfl,rfl,rfl,rfl⟩)))),dT hk⟩
def auN{n p:Int}(h:1<=n/\n<=1000000):J4 (Fo 13 bE bE n [] p):=(Jj _).2 ⟨.inr (.inr (.inl ⟨rfl,h,rfl,rfl,rfl,rfl,rfl,rfl,rfl,rfl,rfl⟩)),λk hk=>(by cases hk)⟩
def anP:PLP []:=⟨λx h=>(by cases h),λi p h=>(by cases h)⟩
def akR{nm:ByteArray}{a:Nd}{l:List Nd}{p:Int}(hn:nm=KS\/nm=FU)(ha:J4 a)(hl:l≠[]/\∀n∈l,J4 n):J4 (Fo 17 nm bE 0 (a::l) p):=by
 refine(Jj _).2 ⟨.inr (.inr (.inr (.inr (.inr (.inr (.inl ⟨rfl,hn,⟨rfl,rfl,rfl,rfl,rfl,rfl,rfl,rfl⟩,?_⟩)))))),λk hk=>?_⟩;have:=List.length_pos_iff.2 hl.1;show 2<=(a::l).length;rw[List.length_cons];omega;rcases List.mem_cons.1 hk with rfl | hk
 exact ha;exact hl.2 k hk
structure VaE(g:Ek->Rd Nd)(li:Rd (List Nd)):Prop where
 vg:∀e,e≠.ca->(∀t,e≠.wd t)->Va J4 (g e)
 vw:∀⦃t:Tk⦄ ⦃l s:List Tk⦄ ⦃a:Nd⦄,Gx (t::l)->g (.wd t) (t::l)=some (.inl a,s)->J4 a/\Gx s
 vc:∀⦃t:Tk⦄ ⦃l s:List Tk⦄ ⦃a:Nd⦄,Gx (t::l)->(t.text=KS\/t.text=FU)->g .ca (t::l)=some (.inl a,s)->J4 a/\Gx s
 vli:Va (λr:List Nd=>r≠[]/\∀n∈r,J4 n) li
def akW{u:ByteArray}(h:vG u):u≠G9:=by
 rintro rfl;have:=h.1;revert this;decide
def azV:∀q:Nat,VaE (gP en q).1 (gP en q).2:=by
 intro q
 induction q with
 | zero =>
   constructor;intro e _ _ _ _ _ _ h;cases h;intro _ _ _ _ _ h;cases h;intro _ _ _ _ _ _ h;cases h;intro _ _ _ _ h;cases h
 | succ q A =>
   have lv:∀i,Va J4 (MY en (gP en q).1 i):=λi=>BQ (A.vg _ (by simp) (by simp)) λN hN _ _ _ hg h=>aiI (sU i) (A.vg _ (by simp) (by simp)) _ N hN hg h;refine⟨λe hc hw=>?_,λt l s a hg h=>?_,λt l s a hg ht h=>?_,uE (A.vg .ex (by simp) (by simp))⟩
   · show Va J4 (Ou en (gP en q).1 (gP en q).2 e)
     unfold Ou;split;exact A.vg _ (by simp) (by simp)
     · intro l a s hg h
       unfold Wy at h;cases hx:H9 Vy l with
       | true =>
         rw[hx] at h;exact BQ (P2:=J4) GS (λt _=>BQ (A.vg _ (by simp) (by simp)) λk hk=>D2 (axX hk)) hg h
       | false=>rw[hx] at h;exact A.vg _ (by simp) (by simp) hg h
     exact BQ (A.vg _ (by simp) (by simp)) λN hN=>atU (D2 hN) _ λx hx=>lF (A.vg _ (by simp) (by simp)) (sU 3 x hx) hN;exact A.vg _ (by simp) (by simp);exact lv _
     · intro l a s hg h
       cases l with
       | nil=>cases h
       | cons t l =>
         have ht:=hg t (List.mem_cons_self ..);unfold V1 TQ at h;dsimp only at h;cases hk3:CS t.kind 3 with
         | true =>
           rw[hk3] at h;exact BQ (P2:=J4) bG (λn hn=>VR (D2 (Yu (.inr (.inr (.inl rfl))) hn λe=>absurd e (by decide))) (D2 (Yu (.inr (.inl rfl)) hn λe=>absurd e (by decide)))) hg h
         | false =>
           rw[hk3] at h;dsimp only[cond] at h;cases hk:CS t.kind 2 with
           | true =>
             rw[hk] at h;refine Qi (P:=J4) (BQ Ms λa ha=>OA λz hz=>D2 ?_) hg h;obtain⟨z',h1,h2⟩:=ha.1.1.qT (.inr (FJ (QF ha.2).symm));rw[h1] at hz;cases hz;have hc:=ht.2.cur (FJ hk);exact Yu (.inr (.inr (.inr hc))) h2 λe=>absurd e (akW hc)
           | false =>
             rw[hk] at h;obtain⟨b,hb,h⟩:=IT h;cases b with
             | true=>exact Qi (P:=J4) (D2 (ayT (W6 ht hb))) hg h
             | false=>exact A.vw hg h
     rename_i t;exact absurd rfl (hw t);exact absurd rfl hc;refine BQ GS λt _=>BQ GS λ_ _=>BQ (A.vg _ (by simp) (by simp)) λa ha=>BQ GS λ_ _=>BQ (λ_ _ _ hg h=>yF _ [] 1 (by decide) anP hg h) λl hl=>BQ GS λe _=>VQ (BQ (yG _ _) λr hr=>D2 ?_);obtain⟨out,e,h3,h4⟩:=hr;rw[List.nil_append] at e;subst e;exact(Jj _).2 ⟨.inr (.inr (.inr (.inr (.inr (.inr (.inr ⟨rfl,⟨rfl,rfl,rfl,rfl,rfl,rfl,rfl,rfl⟩,azN hl.1 hl.2.1 hl.2.2 h3 h4,rfl⟩)))))),dT ha⟩
   · have h:Rm en (gP en q).1 t (t::l)=some (.inl a,s):=h
     have dt:cK t.text->Va J4 (V2 t):=λh=>Qi (D2 ((Jj _).2 ⟨.inr (.inr (.inr (.inl ⟨rfl,h,rfl,rfl,rfl,rfl,rfl,rfl,rfl,rfl,rfl⟩))),λk hk=>by cases hk⟩))
     have key:(t.text=KS\/t.text=FU)/\(gP en q).1 .ca (t::l)=some (.inl a,s)\/(J4 a/\Gx s):=by
       unfold Rm at h;revert h;cases B2 t.text.data.toList Y5.data.toList;rotate_left;exact λh=>.inr (Qi (P:=J4) (D2 (Yu (.inl rfl) (by decide) λ_=>by decide)) hg h);cases B2 t.text.data.toList Tu.data.toList;rotate_left;exact λh=>.inr (Qi (P:=J4) (D2 (Yu (.inl rfl) (by decide) λ_=>by decide)) hg h);cases B2 t.text.data.toList cA.data.toList;rotate_left;exact λh=>.inr (Qi (P:=J4) (BQ (Qj _) λp hp=>D2 (auN hp)) hg h);cases h1:B2 t.text.data.toList LP.data.toList;rotate_left;exact λh=>.inr (dt (.inl (OW h1)) hg h);cases h1:B2 t.text.data.toList cJ.data.toList;rotate_left;exact λh=>.inr (dt (.inr (.inl (OW h1))) hg h);cases h1:B2 t.text.data.toList QG.data.toList;rotate_left;exact λh=>.inr (dt (.inr (.inr (.inl (OW h1)))) hg h);cases h1:B2 t.text.data.toList Vd.data.toList;rotate_left;exact λh=>.inr (dt (.inr (.inr (.inr (OW h1)))) hg h);cases h1:B2 t.text.data.toList KS.data.toList;rotate_left;exact λh=>.inl ⟨.inl (OW h1),h⟩;cases h1:B2 t.text.data.toList FU.data.toList;rotate_left;exact λh=>.inl ⟨.inr (OW h1),h⟩;cases B2 t.text.data.toList QZ.data.toList;rotate_left;exact λh=>.inr (A.vg _ (by simp) (by simp) hg h);cases B2 t.text.data.toList TN.data.toList;rotate_left;exact λh=>.inr (Qi (P:=J4) (BQ (A.vg _ (by simp) (by simp)) λa ha=>BQ GS λ_ _=>D2 ha) hg h);exact λh=>.inr (Jg (P:=J4) hg h)
     rcases key with ⟨h1,h2⟩ | h1
     exact A.vc hg h1 h2;exact h1
   have h:Ur en (gP en q).1 (gP en q).2 (t::l)=some (.inl a,s):=h;unfold Ur TQ at h;dsimp only at h;exact Qi (P:=J4) (BQ GS λ_ _=>BQ (A.vg _ (by simp) (by simp)) λa ha=>BQ GS λ_ _=>BQ A.vli λl hl=>VQ (BQ GS λ_ _=>D2 (akR ht ha hl))) hg h
def atT:Va J4 (KZ en):=λ_ _ _ hg h=>(azV _).vg .ex (by simp) (by simp) hg h
def yE{kind:Int}:Va (λn=>KG n/\n.kind=kind) (IG en (KZ en) kind):=by
 refine lE λt _=>Qi (DS (λhk=>BQ (uE Ti) λl hl=>BQ GS λ_ _=>D2 ⟨⟨⟨rfl,rfl,rfl,rfl,rfl,rfl,rfl,rfl⟩,λ_=>⟨?_,hl.2⟩,λh=>absurd (FJ hk) h⟩,rfl⟩) λhk=>BQ atT λe he=>BQ GS λ_ _=>D2 ⟨⟨⟨rfl,rfl,rfl,rfl,rfl,rfl,rfl,rfl⟩,λh=>absurd h (ZR hk),λ_=>⟨rfl,dT he⟩⟩,rfl⟩);exact List.length_pos_iff.2 hl.1
def gT(k:Int)(l m:List Nd):Hf k (l++m)=Hf k l+Hf k m:=by
 induction l with
 | nil=>simp[Hf]
 | cons a l ih=>simp only[List.cons_append,Hf,ih];omega
def aiJ{t1 t4:Tk}{n2:Int}(h4:Ri t4.text)(hn:1<=n2/\n2<=1000000){h:Nd}(hh:Rc h):∀(q:Nat) (cs:List Nd) (un am:Bool),kinds cs->(∀k∈cs,KG k)->Hf 8 cs=(if am then 1 else 0)->Hf 7 cs=(if un then 1 else 0) ->
   Va ID (Gq en (KZ en) (λl=>Fo 4 t4.text bE n2 l t1.AH) q (h::cs) un am):=by
 intro q
 induction q with
 | zero=>intro cs un am _ _ _ _ _ _ _ _ h;cases h
 | succ q ih =>
   intro cs un am k1 k2 k3 k4
   have go:∀(kind:Int) (qD mR:Bool),(6<=kind/\kind<=8)->(if am then 1 else 0)+(if kind=8 then 1 else 0)=(if mR then 1 else 0)->(if un then 1 else 0)+(if kind=7 then 1 else 0)=(if qD then 1 else 0) ->
       Va ID (Ct (IG en (KZ en) kind) λc=>Ol ((h::cs).length+1) (Gq en (KZ en) (λl=>Fo 4 t4.text bE n2 l t1.AH) q (h::cs++[c]) qD mR)):=by
     intro kind qD mR hk h8 h7;refine BQ yE λc hc=>VQ (ih (cs++[c]) qD mR ?_ ?_ ?_ ?_);intro y hy;rcases List.mem_append.1 hy with hy | hy
     exact k1 y hy;rw[List.mem_singleton.1 hy,hc.2];exact hk;intro y hy;rcases List.mem_append.1 hy with hy | hy
     exact k2 y hy;rw[List.mem_singleton.1 hy];exact hc.1;rw[gT,k3];simp only[Hf,hc.2];omega;rw[gT,k4];simp only[Hf,hc.2];omega
   refine lE λt _=>DS (λ_=>go 6 un am (by decide) (by simp) (by simp)) λ_=>DS (λ_=>DS (λ_=>Jg) λhu=>go 7 true am (by decide) (by simp) (by simp[hu])) λ_ =>
     DS (λ_=>DS (λ_=>Jg) λha=>go 8 un true (by decide) (by simp[ha]) (by simp)) λ_=>DS (λ_=>DS (λha=>Qi (D2 (.inr (.inr ⟨rfl,hn,h4,⟨rfl,rfl,rfl,rfl,rfl,rfl,rfl,rfl⟩,h,cs,rfl,k1,by rw[k3,ha];rfl,?_,hh,k2⟩)))) λ_=>Jg) λ_=>Jg
   rw[k4];split<;>omega
def aqL:Va ID (NY en (KZ en)):=by
 refine lE λt _=>DS (λ_=>uD) λ_=>DS (λ_=>uD) λ_=>DS (λ_=>?_) λ_=>Jg
 exact BQ GS λt _=>BQ (Qj _) λn hn=>BQ GS λ_ _=>BQ Ms λm hm=>BQ aqK λh hh=>BQ GS λ_ _ _ _ _ hg e =>
   aiJ (W6 hm.1 hm.2) hn hh _ [] false false (λk hk=>by cases hk) (λk hk=>by cases hk) rfl rfl hg e
end
end Mo
end Go.Proofs.YtpbkhogolfegfaaGreatDoor
namespace Go.Proofs.YtpbkhogolfegfaaGreatDoor
open AI Go
namespace Mo
set_option maxRecDepth 100000
set_option maxHeartbeats 4000000
section
variable (n:Nd)
def O2:(L1 n).kind=n.kind:=by rw[Ot]
def Xh:(L1 n).name=n.name:=by rw[Ot]
def Xi:(L1 n).unit=n.unit:=by rw[Ot]
def xQ:(L1 n).n=n.n:=by rw[Ot]
def atI:(L1 n).fr=n.fr:=by rw[Ot]
def atJ:(L1 n).to=n.to:=by rw[Ot]
def kQ:(L1 n).known=n.known:=by rw[Ot]
def pV:(L1 n).CV=n.CV:=by rw[Ot]
def Mq:(L1 n).kids=n.kids.map L1:=by rw[Ot]
end
def ahO:∀{l:List Nd},(∀k∈l,Et (L1 k)=Et k/\OE (L1 k)=OE k)->G4 (l.map L1)=G4 l/\V3 (l.map L1)=V3 l
 | [],_=>⟨rfl,rfl⟩
 | a::l,h=>by
   obtain⟨h1,h2⟩:=h a (by simp);obtain⟨h3,h4⟩:=ahO (l:=l) λk hk=>h k (by simp[hk]);simp only[List.map_cons,G4,V3,h1,h2,h3,h4,and_self]
def axW{p:Nd->Prop}(h:∀n,(∀k∈n.kids,p k)->p n):∀(m:Nat) (n:Nd),Et n<=m->p n:=by
 intro m
 induction m with
 | zero=>intro n h;have:=Ge n;omega
 | succ m ih =>
   intro n hn;have hsz:=Ge n;exact h n λk hk=>ih k (by have:=ND hk;omega)
def Yy{p:Nd->Prop}(h:∀n,(∀k∈n.kids,p k)->p n)(n:Nd):p n:=axW h (Et n) n (Nat.le_refl _)
def ahP(n:Nd):Et (L1 n)=Et n/\OE (L1 n)=OE n:=by
 refine Yy (p:=λn=>Et (L1 n)=Et n/\OE (L1 n)=OE n) (λn ih=>?_) n;obtain⟨h1,h2⟩:=ahO (l:=n.kids) ih;rw[Ge (L1 n),NQ (L1 n),NQ n,Ge n,Mq,h1,h2];exact⟨rfl,rfl⟩
def aDI{n:Nd}:KT n->KT (L1 n):=by
 refine Yy (p:=λn=>KT n->KT (L1 n)) (λn ih W1=>?_) n;obtain⟨p1,p2,p3⟩:=(P0 n).1 W1;rw[Ot];refine(P0 _).2 ⟨p1,by simpa using p2,λy hy=>?_⟩
 obtain⟨k,hk,rfl⟩:=List.mem_map.1 hy;exact ih k hk (p3 k hk)
def aAK{n:Nd}{i:Nat}{q:Nd->Prop}(hq:∀k,q (L1 k)↔q k):(∀k,(L1 n).kids[i]?=some k->q k)↔∀k,n.kids[i]?=some k->q k:=by
 rw[Mq];constructor;intro h k hk;exact(hq k).1 (h _ (by rw[List.getElem?_map,hk];rfl));intro h k hk;rw[List.getElem?_map] at hk;obtain⟨y,hy,rfl⟩:=Option.map_eq_some_iff.1 hk;exact(hq y).2 (h y hy)
def Tn{l:List Nd}{q:Nd->Prop}(hq:∀k∈l,q (L1 k)↔q k):(∀k∈l.map L1,q k)↔∀k∈l,q k:=by
 constructor;intro h k hk;exact(hq k hk).1 (h _ (List.mem_map_of_mem hk));intro h k hk;obtain⟨y,hy,rfl⟩:=List.mem_map.1 hk;exact(hq y hy).2 (h y hy)
def aeX(k:Nd):QI (L1 k)↔QI k:=by unfold QI;rw[O2,Xi,xQ]
def Sl(n f:Nd):Gs (L1 n) f↔Gs n f:=by unfold Gs;rw[Xh,Xi,xQ,atI,atJ,kQ,pV]
def avH(n:Nd):SP (L1 n)↔SP n:=by
 unfold SP;rw[aAK aeX];simp only[Sl,O2,Xi,xQ,Xh,pV,Mq,List.length_map]
def nH(n:Nd):J4 (L1 n)↔J4 n:=by
 refine Yy (p:=λn=>J4 (L1 n)↔J4 n) (λn ih=>?_) n;rw[Jj,Jj,avH,Mq,Tn ih]
def Uu(k:Int):∀l:List Nd,Hf k (l.map L1)=Hf k l
 | []=>rfl
 | a::l=>by rw[List.map_cons,Hf,Hf,O2,Uu k l]
def ZQ(x:Nd):KG (L1 x)↔KG x:=by
 unfold KG;rw[Sl,O2,Mq,List.length_map,Tn (λk _=>and_congr (nH k) (aeX k)),Tn (λk _=>nH k)]
def rN(x:Nd):Rc (L1 x)↔Rc x:=by
 unfold Rc;simp only[Sl,O2,xQ,atI,atJ,kQ,Mq,List.length_map]
def auO(n:Nd):uR (L1 n)↔uR n:=by
 unfold uR;rw[Sl,Xh,xQ,Mq];refine and_congr_right λ_=>and_congr_right λ_=>and_congr_right λ_=>?_;cases n.kids with
 | nil=>exact⟨λ⟨h,cs,e,_⟩=>(nomatch e),λ⟨h,cs,e,_⟩=>(nomatch e)⟩
 | cons a l =>
   have hk:kinds (l.map L1)↔kinds l:=by unfold kinds;exact Tn λk _=>by rw[O2]
   constructor;rintro⟨h,cs,e,h1,h2,h3,h4,h5⟩;rw[List.map_cons] at e;cases e;exact⟨a,l,rfl,hk.1 h1,by rwa[Uu] at h2,by rwa[Uu] at h3,(rN a).1 h4,(Tn λk _=>ZQ k).1 h5⟩;rintro⟨h,cs,e,h1,h2,h3,h4,h5⟩;cases e;exact⟨L1 a,l.map L1,rfl,hk.2 h1,by rwa[Uu],by rwa[Uu],(rN a).2 h4,(Tn λk _=>ZQ k).2 h5⟩
def amH(n:Nd):ID (L1 n)↔ID n:=by
 unfold ID;rw[auO];simp only[Sl,O2,xQ,Xh,Xi,Mq,List.length_map]
def ayF(n:Nd):okV (L1 n)↔okV n:=by
 unfold okV;rw[Sl,O2,nH,(ahP n).1,(ahP n).2,Mq,Tn λk _=>amH k]
end Mo
end Go.Proofs.YtpbkhogolfegfaaGreatDoor
namespace Go.Proofs.YtpbkhogolfegfaaGreatDoor
open AI Go
namespace Mo
set_option maxRecDepth 100000
set_option maxHeartbeats 4000000
def sK{α:Type}{l:List α}{body:Nat->α->Unit->Option (Lp Unit Unit Bool)}{x:Option Bool}(hl:l.length<=9223372036854775807)(hb:∀i y,l[i]?=some y->body i y ()=some (.nx ())):(Tc l.length (C4 body (λ_=>()) (l.drop 0) 0 ())).bind (MC (λ(_:Unit)=>x) (λv=>some v))=x:=by
 have key:∀(m:List α) (i:Nat),(∀j y,m[j]?=some y->body (i+j) y ()=some (.nx ()))->C4 body (λ_=>()) m i ()=some (.inl ()):=by
   intro m
   induction m with
   | nil=>intro i _;rfl
   | cons y m ih =>
     intro i h;rw[C4,show body i y ()=some (.nx ()) from h 0 y rfl,Option.bind_some];exact ih (i+1) λj z hz=>by rw[Nat.add_assoc,Nat.add_comm 1 j];exact h (j+1) z hz
 rw[show Tc l.length=λy:Option (Unit⊕Bool)=>y from funext λy=>if_pos hl,List.drop_zero,key l 0 (λj y hy=>by rw[Nat.zero_add];exact hb j y hy)];rfl
def kI(x:Pc):PA x x=true:=by unfold PA;simp
def pO(f:Fn)(h:f.ps.length<=9223372036854775807):Is f f=some true:=by
 rw[Is,IQ rfl,IQ rfl];refine sK h (λi y hy=>?_);rw[Jt,hy,Option.bind_some,kI,cond_true]
def hJ(x:ByteArray):B2 x.data.toList x.data.toList=true:=by rw[Tt];simp
def ayY:∀(q:Nat) (e:Nd),Et e<=q->Et e<=1000000->ZE e->Hs q e e=some true:=by
 intro q
 induction q with
 | zero=>intro e h;have:=Ge e;omega
 | succ q ih =>
   intro e hq hz ho;have he:=Ge e;have hl:=QY e.kids;obtain⟨h1,h2⟩:=(SC e).1 ho;rw[Hs,NA,IQ rfl,hJ,hJ,IQ rfl,IQ rfl,IQ rfl,IQ rfl,IQ rfl,pO _ (by omega),Option.bind_some,IQ rfl];dsimp only[cond];refine sK (by omega) (λi y hy=>?_);have hm:=List.mem_of_getElem? hy;have:=ND hm;rw[Mk,hy,Option.bind_some,ih y (by omega) (by omega) (h2 y hm),Option.bind_some,cond_true]
def agE{e:Nd}(hz:Et e<=1000000)(ho:ZE e):Kf e e=some true:=X1 (Et e) λq hq=>ayY q e hq hz ho
def agB:∀(q:Nat) (n:Nd),Et n<=q->Et n<=100000->FH q n=some (L1 n):=by
 intro q
 induction q with
 | zero=>intro n h;have:=Ge n;omega
 | succ q ih =>
   intro n hq hz;have hsz:=Ge n;have hl:=QY n.kids
   have key:∀(m:List Nd) (i:Nat) (acc:List Nd),(∀k∈m,k∈n.kids)->acc.length+m.length<=100000->C4 (ρ:=Nd) (λi y x=>JT (FH q) i y x) (λx=>x) m i acc=some (.inl (acc++m.map L1)):=by
     intro m
     induction m with
     | nil=>intro i acc _ _;simp[C4]
     | cons y m ihm =>
       intro i acc hm hc;simp only[List.length_cons] at hc;have hy:=ND (hm y (List.mem_cons_self ..));rw[C4,JT,ih y (by omega) (by omega),Option.bind_some,Gm (by omega),Option.bind_some];have:=ihm (i+1) (acc++[L1 y]) (λk hk=>hm k (List.mem_cons_of_mem _ hk)) (by simp only[List.length_append,List.length_singleton];omega);dsimp only[Rb];rw[this,List.append_assoc];rfl
   rw[FH,Ml,show Tc n.kids.length=λy:Option (List Nd⊕Nd)=>y from funext λy=>if_pos (by omega),List.drop_zero,key n.kids 0 [] (λ_ h=>h) (by simp only[List.length_nil];omega),Ot];rfl
def agC{n:Nd}(hz:Et n<=100000):Mn n=some (L1 n):=X1 (Et n) λq hq=>agB q n hq hz
end Mo
end Go.Proofs.YtpbkhogolfegfaaGreatDoor
namespace Go.Proofs.YtpbkhogolfegfaaGreatDoor
open AI Go
namespace Mo
set_option maxRecDepth 100000
set_option maxHeartbeats 4000000
def azM{f:Fn}(h:kU f):∀(i:Nat) p,f.ps[i]?=some p->0<=p.fr:=by
 intro i
 induction i with
 | zero=>intro p hp;rw[h.2.2.1 p hp];omega
 | succ i ih =>
   intro p hp;have hi:i < f.ps.length:=by have:=(List.getElem?_eq_some_iff.1 hp).1;omega
   have h1:=(h.2.2.2 (i+1) p hp).2.1 f.ps[i] (by omega) (List.getElem?_eq_getElem hi);have:=ih _ (List.getElem?_eq_getElem hi);omega
def ahQ{f:Fn}(h:kU f):oY f/\f.ps.length<=64:=by
 refine⟨⟨by have:=h.2.1;omega,λy hy=>?_⟩,h.2.1.2⟩;obtain⟨i,hi⟩:=List.getElem?_of_mem hy;have h0:=azM h i y hi;obtain⟨a1,_,_,a4,a5,a6,a7⟩:=h.2.2.2 i y hi;have hr:=h.1;unfold Py at hr;rw[IM (by omega)] at a4;rw[IM (by omega)] at a5;exact⟨⟨by omega,by omega⟩,⟨by omega,by omega⟩,by omega,by omega⟩
def LA{f:Fn}(h:f.ps=[]):oY f/\f.ps.length<=64:=by
 unfold oY;rw[h];exact⟨⟨by simp,λy hy=>(by cases hy)⟩,by simp⟩
def alC{n:Nd}(h:SP n):oY n.CV/\n.CV.ps.length<=64:=by
 unfold SP at h;rcases h with h | h | h | h | h | h | h | h
 exact LA h.2.2.2.2.2.2.2.2.2.2.2.2.2;exact LA h.2.2.2.2.2.2.2.2.2.2;exact LA h.2.2.2.2.2.2.2.2.2.2;exact LA h.2.2.2.2.2.2.2.2.2.2;exact LA h.2.2.2.2.2.2.2.2.2;exact LA h.2.1.2.2.2.2.2.2.2;exact LA h.2.2.1.2.2.2.2.2.2.2;exact ahQ h.2.2.1
def qZ(n:Nd):J4 n->Et n<=1000000->KT n/\ZE n:=by
 refine Yy (p:=λn=>J4 n->Et n<=1000000->KT n/\ZE n) (λn ih h hz=>?_) n;obtain⟨h1,h2⟩:=(Jj n).1 h;obtain⟨t1,t2⟩:=alC h1;have hs:=Ge n;have hl:=QY n.kids;exact⟨(P0 n).2 ⟨t1,by omega,λk hk=>(ih k hk (h2 k hk) (by have:=SF hk;omega)).1⟩,(SC n).2 ⟨by omega,λk hk=>(ih k hk (h2 k hk) (by have:=SF hk;omega)).2⟩⟩
def SB{n:Nd}(ht:n.CV.ps=[])(hk:n.kids.length=0):KT n/\ZE n:=by
 have:=List.eq_nil_of_length_eq_zero hk;obtain⟨t1,t2⟩:=LA ht;exact⟨(P0 n).2 ⟨t1,by omega,by rw[this];exact λk hk=>(by cases hk)⟩,(SC n).2 ⟨by omega,by rw[this];exact λk hk=>(by cases hk)⟩⟩
def Vw{n:Nd}(ht:n.CV.ps=[])(hz:Et n<=1000000)(hk:∀k∈n.kids,KT k/\ZE k):KT n/\ZE n:=by
 obtain⟨t1,t2⟩:=LA ht;have hs:=Ge n;have hl:=QY n.kids;exact⟨(P0 n).2 ⟨t1,by omega,λk h=>(hk k h).1⟩,(SC n).2 ⟨by omega,λk h=>(hk k h).2⟩⟩
def gN{n:Nd}(h:KG n)(hz:Et n<=1000000):KT n/\ZE n:=by
 refine Vw h.1.2.2.2.2.2.2.2 hz λk hk=>qZ k ?_ (by have:=SF hk;omega);by_cases h7:n.kind=7;exact((h.2.1 h7).2 k hk).1;exact(h.2.2 h7).2 k hk
def wA{n:Nd}(h:ID n)(hz:Et n<=1000000):KT n/\ZE n:=by
 rcases h with h | h | h
 exact SB h.2.2.2.2.2.2.2.2.2.2.2 h.2.2.2.1;exact SB h.2.2.2.2.2.2.2.2.2.2.2.2.2 h.2.2.2.2.2.1;obtain⟨_,_,hb,hd,cs,hk,_,_,_,hh,hc⟩:=h.2;refine Vw hb.2.2.2.2.2.2.2 hz λk hm=>?_;have:=SF hm;rw[hk] at hm;rcases List.mem_cons.1 hm with rfl | hm
 exact SB hh.2.2.2.2.2.2.2.2.2.2.2.2.2 hh.2.2.1;exact gN (hc k hm) (by omega)
def aJ{ks:List Nd}(h:∀k∈ks,ID k)(hz:G4 ks<=10000):KT (G3 ks)/\ZE (G3 ks):=by
 refine Vw rfl (by have:=Ge (G3 ks);rw[show Et (G3 ks)=1+G4 ks from rfl];omega) λk hk=>wA (h k hk) (by have:=ND (show k∈ks from hk);omega)
def pL{ks:List Nd}(h:∀k∈ks,ID k)(hz:Et (G3 ks)<=2000)(hd:OE (G3 ks)<=40):okV (G3 ks):=⟨.inl ⟨rfl,⟨rfl,rfl,rfl,rfl,rfl,rfl,rfl,rfl⟩,h⟩,hz,hd⟩
def rI{l:List Tk}(h:Gx l)(k:Nat):Gx (l.drop k):=λt ht=>h t (List.mem_of_mem_drop ht)
def ahW{en:Int}:∀(q:Nat) (l:List Tk) (ks:List Nd) (ds:List Dg) (r:List Nd×List Dg),Gx l->l.length<=10000->(∀k∈ks,ID k)->JC en q l ks ds=some r->∀k∈r.1,ID k:=by
 intro q
 induction q with
 | zero=>intro l ks ds r _ _ _ h;cases h
 | succ q ih =>
   intro l ks ds r hg hl hk h;cases l with
   | nil=>cases h;exact hk
   | cons t l =>
     unfold JC at h;cases hd:DM ((ds.length:Nat):Int) 20 with
     | false=>rw[hd] at h;cases h;exact hk
     | true =>
       rw[hd] at h;dsimp only[cond] at h;split at h;cases h;rename_i n s hi;obtain⟨hn,hs⟩:=aqL hg hi;obtain⟨⟨j,rfl⟩,_⟩:=K0 (λt ht=>(hg t ht).1) hl hi;refine ih _ _ _ _ hs (by rw[List.length_drop];omega) (λk hm=>?_) h;rcases List.mem_append.1 hm with hm | hm
       exact hk k hm;rw[List.mem_singleton.1 hm];exact hn;rename_i d s hi;obtain⟨⟨k,rfl⟩,_⟩:=K0 (λt ht=>(hg t ht).1) hl hi;obtain⟨j,hj⟩:=Qf ((t::l).drop k);rw[hj] at h;exact ih _ _ _ _ (rI (rI hg k) j) (by simp only[List.length_drop];omega) hk h
def jK{s:ByteArray}{n:Nd}{ds:List Dg}(h:Cy s=some (n,ds)) :
   (ds≠[]/\n=z0/\ds.length<=20)\/(ds=[]/\∃ks,PX s=0/\JC ((s.data.toList.length:Nat):Int) ((Bu s).length+1) (Bu s) [] []=some (ks,[])/\n=G3 ks/\(∀k∈ks,ID k)/\Et n<=2000/\OE n<=40):=by
 by_cases he:PX s=0
 · obtain⟨ks,ds',h1,h2,h3,h4⟩:=Xa he
   rw[h] at h2;have hv:=ahW _ _ _ _ _ (eX s) (by have:=(Lc s).2;omega) (λk hk=>by cases hk) h1;cases ds' with
   | nil =>
     unfold mS aeM at h2;by_cases hc:2000 < Et (G3 ks)\/40 < OE (G3 ks);rw[if_pos hc] at h2;simp only[Option.some.injEq,Prod.mk.injEq] at h2;obtain⟨rfl,rfl⟩:=h2;exact .inl ⟨by simp,rfl,by simp⟩;rw[if_neg hc] at h2;simp only[Option.some.injEq,Prod.mk.injEq] at h2;obtain⟨rfl,rfl⟩:=h2;exact .inr ⟨rfl,ks,he,h1,rfl,hv,by omega,by omega⟩
   | cons d ds'=>cases h2;exact .inl ⟨by simp,rfl,h4⟩
 rw[aF he] at h;cases h;exact .inl ⟨by simp,rfl,by simp⟩
def wT(s:ByteArray):∃n ds,Cy s=some (n,ds):=by
 by_cases he:PX s=0;obtain⟨ks,ds',h1,h2,_⟩:=Xa he;exact⟨_,_,h2⟩;exact⟨_,_,aF he⟩
end Mo
end Go.Proofs.YtpbkhogolfegfaaGreatDoor
namespace Go.Proofs.YtpbkhogolfegfaaGreatDoor
open AI Go
namespace Mo
set_option maxRecDepth 100000
mutual
def orN(hi:Int):Nd->Prop
 | ⟨_,_,_,_,_,_,_,_,kids,AH⟩=>AH<=hi/\orL hi AH kids
def orL(hi lo:Int):List Nd->Prop
 | []=>True
 | k::ks=>(lo<=k.AH/\orN hi k)/\orL hi lo ks
end
def So(hi:Int):List Tk->Prop
 | []=>True
 | t::s=>t.AH<=hi/\(∀u∈s,t.AH<=u.AH)/\So hi s
def Lo(l:List Tk)(x:Int):Prop:=∀t∈l,x<=t.AH
section
variable {α β:Type} {hi x y:Int} {P:α->List Tk->Prop} {P2:β->List Tk->Prop}
def Vo(hi x:Int)(P:α->List Tk->Prop)(m:Rd α):Prop:=∀⦃l:List Tk⦄ ⦃a:α⦄ ⦃s:List Tk⦄,So hi l->Lo l x->m l=some (.inl a,s)->P a s/\So hi s/\Lo s x
end
section
variable {hi x y en:Int}
abbrev PN(hi x:Int):Nd->List Tk->Prop:=λn s=>orN hi n/\x<=n.AH/\Lo s n.AH
abbrev T2{α:Type}:α->List Tk->Prop:=λ_ _=>True
abbrev PL(hi x:Int):List Nd->List Tk->Prop:=λl _=>∀a∈l,x<=a.AH/\orN hi a
def Vx(hi:Int)(m:Rd Nd):Prop:=∀x,Vo hi x (PN hi x) m
structure VoE(hi:Int)(g:Ek->Rd Nd)(li:Rd (List Nd)):Prop where
 og:∀e,(∀t,e≠.wd t)->Vx hi (g e)
 ow:∀⦃t:Tk⦄ ⦃l s:List Tk⦄ ⦃a:Nd⦄ (x:Int),So hi (t::l)->x<=t.AH->g (.wd t) (t::l)=some (.inl a,s)->PN hi x a s/\So hi s/\Lo s x
 oli:∀x,Vo hi x (PL hi x) li
end
end Mo
end Go.Proofs.YtpbkhogolfegfaaGreatDoor
namespace Go.Proofs.YtpbkhogolfegfaaGreatDoor
open AI Go LexS
namespace Mo
set_option maxRecDepth 100000
set_option maxHeartbeats 4000000
def aDN(n:Nd):ZE n->ZE (L1 n):=by
 refine Yy (p:=λn=>ZE n->ZE (L1 n)) (λn ih h=>?_) n;obtain⟨h1,h2⟩:=(SC n).1 h;refine(SC _).2 ⟨by rw[pV];exact h1,λk hk=>?_⟩;rw[Mq] at hk;obtain⟨y,hy,rfl⟩:=List.mem_map.1 hk;exact ih y hy (h2 y hy)
end Mo
end Go.Proofs.YtpbkhogolfegfaaGreatDoor
namespace Go.Proofs.YtpbkhogolfegfaaGreatDoor
open AI Go
namespace Mo
set_option maxRecDepth 100000
set_option maxHeartbeats 4000000
@[irreducible] def pE(s:ByteArray):Nd×List Dg:=match KZ ((s.data.toList.length:Nat):Int) (Bu s) with
 | some x=>auM x
 | none=>(z0,[])
@[irreducible] def ppV(s:ByteArray):Nd×List Dg:=match JC ((s.data.toList.length:Nat):Int) ((Bu s).length+1) (Bu s) [] [] with
 | some x=>mS x.1 x.2
 | none=>(z0,[])
def afH{s:ByteArray}(h:PX s=0):Dq s=some (pE s):=by
 obtain⟨r,l,h1,h2⟩:=sV h;unfold pE;rw[h1];exact h2
def ayL{s:ByteArray}(h:PX s=0):Cy s=some (ppV s):=by
 obtain⟨ks,ds,h1,h2,_⟩:=Xa h;unfold ppV;rw[h1];exact h2
abbrev t1:=E3
abbrev t6:=Av
def aEF:J4 (pE t1).1/\(pE t1).1.kind=16/\Et (pE t1).1<=100/\OE (pE t1).1<=30:=by
 obtain⟨r,l,h1,h2⟩:=sV (s:=t1) (by kernel_rfl);rw[afH (by kernel_rfl)] at h2;refine⟨?_,by kernel_rfl,Nat.le_of_ble_eq_true (by kernel_rfl),Nat.le_of_ble_eq_true (by kernel_rfl)⟩;have h2:=Option.some.inj h2;have hd:(pE t1).2.length=0:=by kernel_rfl
 rw[h2] at hd ⊢;cases r with
 | inr d=>cases hd
 | inl n =>
   cases l with
   | cons t l=>cases hd
   | nil =>
     have hv:=(atT (eX t1) h1).1;unfold auM aeM at hd ⊢;dsimp only at hd ⊢;by_cases hc:2000 < Et n\/40 < OE n;rw[if_pos hc] at hd;cases hd;rw[if_neg hc];exact hv
def vV:J6=some true:=by
 obtain⟨e1,k1,z1,d1⟩:=aEF;obtain⟨ok1,ps1⟩:=qZ _ e1 (by omega);have v1:okV (pE t1).1:=⟨.inr ⟨by omega,e1⟩,by omega,by omega⟩
 have v6:KT (ppV t6).1/\okV (ppV t6).1:=by
   have hp:=ayL (s:=t6) (by kernel_rfl);have hd:(ppV t6).2.length=0:=by kernel_rfl
   rcases jK (n:=(ppV t6).1) (ds:=(ppV t6).2) hp with ⟨h,_⟩ | ⟨_,ks,_,_,h3,h4,h5,h6⟩
   exact absurd (List.eq_nil_of_length_eq_zero hd) h;rw[h3] at h5 h6 ⊢;have hz:Et (G3 ks)=1+G4 ks:=rfl;exact⟨(aJ h4 (by omega)).1,pL h4 h5 h6⟩
 have Gt:Mn (pE t1).1=some (L1 (pE t1).1):=agC (by omega);have hsm:Kf (L1 (pE t1).1) (L1 (pE t1).1)=some true:=agE (by have:=ahP (pE t1).1;omega) (aDN _ ps1);have hv6:Em (ppV t6).1=some true:=by rw[fA v6.1,DA.2 v6.2]
 have hv1:Em (L1 (pE t1).1)=some true:=by rw[fA (aDI ok1),DA.2 ((ayF _).2 v1)]
 have hva:Em ⟨12,cA,ByteArray.empty,0,0,0,0,⟨0,[]⟩,[],0⟩=some false:=by
   rw[fA ((SB rfl rfl).1),oR];rintro⟨⟨h,_⟩ | ⟨_,h⟩,_⟩;exact absurd h (by decide)
   · have:=((Jj _).1 h).1
     unfold SP at this;rcases this with h | h | h | h | h | h | h | h
     exact absurd h.1 (by decide);exact h.2.1.2.2.1 (by unfold rZ;simp)
     all_goals exact absurd h.1 (by decide)
 have h7:(⟨16,PJ,ByteArray.empty,0,0,0,0,⟨0,[]⟩,[⟨16,J9,ByteArray.empty,0,0,0,0,⟨0,[]⟩,[⟨11,ByteArray.empty,EF,3,0,0,0,⟨0,[]⟩,[],0⟩,⟨12,aS,ByteArray.empty,0,0,0,0,⟨0,[]⟩,[],0⟩],0⟩,⟨15,ByteArray.empty,ByteArray.empty,0,0,0,0,⟨0,[]⟩,[⟨16,GO,ByteArray.empty,0,0,0,0,⟨0,[]⟩,[⟨12,bS,ByteArray.empty,0,0,0,0,⟨0,[]⟩,[],0⟩,⟨12,cS,ByteArray.empty,0,0,0,0,⟨0,[]⟩,[],0⟩],0⟩],0⟩],0⟩:Nd)=L1 (pE t1).1:=by kernel_rfl
 unfold J6;rw[afH (s:=t1) (by kernel_rfl)];simp only[afH (s:=ED) (by kernel_rfl),afH (s:=MP) (by kernel_rfl),afH (s:=BI) (by kernel_rfl),ayL (s:=Ep) (by kernel_rfl),ayL (s:=t6) (by kernel_rfl),JL,K1,Option.bind_some];rw[h7];simp only[Gt,hsm,hv6,hv1,hva,Option.bind_some];show(_:Option Bool)=some true
 kernel_rfl
end Mo
end Go.Proofs.YtpbkhogolfegfaaGreatDoor
namespace Go.Proofs.YtpbkhogolfegfaaGreatDoor
open AI Go LexS
namespace Mo
set_option maxRecDepth 100000
set_option maxHeartbeats 4000000
theorem byt{p:Nat->Bool}(h:(List.range 256).all p=true)(c:UInt8):p c.toNat=true:=List.all_eq_true.1 h _ (List.mem_range.2 c.toNat_lt)
theorem afE{o:Option Bool}{b:Bool}(h:(match o with | some x=>x == b | none=>false)=true):o=some b:=by
 cases o with
 | none=>cases h
 | some x=>rw[eq_of_beq h]
theorem anT(c:UInt8):Kz ((c.toNat:Nat):Int)=some (cin 1 c):=afE (byt (p:=λn=>match Kz ((n:Nat):Int) with | some x=>x == ((L3 n &&& 1) != 0) | none=>false) (by kernel_rfl) c)
theorem eB(c:UInt8):Gu ((c.toNat:Nat):Int)=some (cin 8 c):=afE (byt (p:=λn=>match Gu ((n:Nat):Int) with | some x=>x == ((L3 n &&& 8) != 0) | none=>false) (by kernel_rfl) c)
theorem anR(c:UInt8):IZ ((c.toNat:Nat):Int)=some (cin 2 c):=afE (byt (p:=λn=>match IZ ((n:Nat):Int) with | some x=>x == ((L3 n &&& 2) != 0) | none=>false) (by kernel_rfl) c)
theorem eC(c:UInt8):Gv ((c.toNat:Nat):Int)=some (cin 4 c):=afE (byt (p:=λn=>match Gv ((n:Nat):Int) with | some x=>x == ((L3 n &&& 4) != 0) | none=>false) (by kernel_rfl) c)
theorem afO(c:UInt8):Kc ((c.toNat:Nat):Int)=some (cin 30 c):=afE (byt (p:=λn=>match Kc ((n:Nat):Int) with | some x=>x == ((L3 n &&& 30) != 0) | none=>false) (by kernel_rfl) c)
theorem aaR(c:UInt8):cin 30 c=(cin 2 c||(cin 4 c||(cin 8 c||cin 16 c))):=by
 have:=byt (p:=λn=>((L3 n &&& 30) != 0) == (((L3 n &&& 2) != 0)||(((L3 n &&& 4) != 0)||(((L3 n &&& 8) != 0)||((L3 n &&& 16) != 0))))) (by kernel_rfl) c;exact eq_of_beq this
theorem aaQ(c:UInt8):cin 26 c=(cin 30 c&&!cin 4 c):=by
 have:=byt (p:=λn=>((L3 n &&& 26) != 0) == (((L3 n &&& 30) != 0)&&!((L3 n &&& 4) != 0))) (by kernel_rfl) c;exact eq_of_beq this
theorem auU(c:UInt8)(h:cin 8 c=true):cin 2 c=false/\cin 4 c=false:=by
 have:=byt (p:=λn=>!((L3 n &&& 8) != 0)||(!((L3 n &&& 2) != 0)&&!((L3 n &&& 4) != 0))) (by kernel_rfl) c;have h':((L3 c.toNat &&& 8) != 0)=true:=h;rw[h'] at this;simp only[Bool.not_true,Bool.false_or,Bool.and_eq_true,Bool.not_eq_true'] at this;exact this
theorem Uw(c d:UInt8):CS ((c.toNat:Nat):Int) ((d.toNat:Nat):Int)=(c == d):=by
 rw[Bool.eq_iff_iff,Qy,beq_iff_eq,beq_iff_eq];constructor;intro h;exact UInt8.toNat_inj.1 (by omega);intro h;rw[h]
theorem auZ(c:UInt8):CS ((c.toNat:Nat):Int) 10=(c == 10):=Uw c 10
theorem abK(c:UInt8):CS ((c.toNat:Nat):Int) 46=(c == 46):=Uw c 46
theorem avA(c:UInt8):CS ((c.toNat:Nat):Int) 45=(c == 45):=Uw c 45
theorem avB(c:UInt8):CS ((c.toNat:Nat):Int) 48=(c == 48):=Uw c 48
section
variable {s:ByteArray} (hs:s.data.toList.length<=100000)
theorem PP{α:Type}{l:List α}{i:Nat}:G5 l ((i:Nat):Int)=l[i]?:=by
 unfold G5;rw[if_pos (by omega)];rfl
theorem L8{α:Type}(l:List α)(k:Nat):(l.length<=k/\l.drop k=[])\/∃x,k < l.length/\l[k]?=some x/\l.drop k=x::l.drop (k+1):=by
 rcases Nat.lt_or_ge k l.length with h | h
 exact .inr ⟨l[k],h,List.getElem?_eq_getElem h,List.drop_eq_getElem_cons h⟩;exact .inl ⟨h,List.drop_eq_nil_of_le h⟩
theorem Ow{a b:Nat}(h1:a<=b)(h2:b<=s.data.toList.length):Ov s (a:Int) (b:Int)=some ⟨((s.data.toList.drop a).take (b - a)).toArray⟩:=by
 unfold Ov;rw[if_pos ⟨by omega,by omega,by omega⟩];rfl
theorem kP{b:Int->Option (Lp Int Int Int)}{m:Nat}(hb:∀(k:Nat) c,s.data.toList[k]?=some c->b (k:Int)=if cin m c then some (.nx ((k+1:Nat):Int)) else some (.ex (k:Int)))(he:∀k:Nat,s.data.toList.length<=k->b (k:Int)=some (.ex (k:Int))) :
   ∀(j k:Nat),s.data.toList.length - k<=j->EM b (j+1) (k:Int)=some (.inl ((k+Be m (s.data.toList.drop k):Nat):Int)):=by
 intro j
 induction j with
 | zero =>
   intro k hk;show(b (k:Int)).bind _=_;rw[he k (by omega),List.drop_eq_nil_of_le (by omega)];rfl
 | succ j ih =>
   intro k hk;show(b (k:Int)).bind _=_;rcases L8 s.data.toList k with ⟨h1,h2⟩ | ⟨c,h1,h2,h3⟩
   rw[he k h1,h2];rfl;rw[hb k c h2,h3,Ds];by_cases hc:cin m c=true;rw[if_pos hc,if_pos hc];show EM b (j+1) ((k+1:Nat):Int)=_;rw[ih (k+1) (by omega)];congr 2;omega;rw[if_neg hc,if_neg hc];rfl
include hs
theorem atE{k:Nat}(hk:k<=100000):La s (k:Int)=some ((k+Be 30 (s.data.toList.drop k):Nat):Int):=by
 unfold La;rw[Ff (kP (s:=s) (m:=30) (b:=λx=>Ke s x) (λk c hc=>?_) (λk hk=>?_) _ k (Nat.le_refl _)),Option.bind_some];rfl;have hlt:=(List.getElem?_eq_some_iff.1 hc).1;unfold Ke;rw[GJ (by omega),PP,hc];dsimp only[cond,Option.bind];rw[afO,CY (by omega)];cases cin 30 c<;>rfl
 unfold Ke;rw[Hh (by omega)];rfl
theorem jX{k:Nat}(hk:k<=100000):E4 s (k:Int)=some ((k+Be 8 (s.data.toList.drop k):Nat):Int):=by
 unfold E4;rw[Ff (kP (s:=s) (m:=8) (b:=λx=>Hc s x) (λk c hc=>?_) (λk hk=>?_) _ k (Nat.le_refl _)),Option.bind_some];rfl;have hlt:=(List.getElem?_eq_some_iff.1 hc).1;unfold Hc;rw[GJ (by omega),PP,hc];dsimp only[cond,Option.bind];rw[eB,CY (by omega)];cases cin 8 c<;>rfl
 unfold Hc;rw[Hh (by omega)];rfl
theorem jW{k:Nat}{t:ByteArray}(hk:k<=s.data.toList.length)(ht:t.data.toList.length<=100000):Ir s (k:Int) t=some (t.data.toList.isPrefixOf (s.data.toList.drop k)):=by
 unfold Ir;rw[MW,Kh (by omega)];by_cases h:k+t.data.toList.length<=s.data.toList.length;rw[Ys (by omega),CY (by omega)];dsimp only[cond];rw[show(k:Int)+((t.data.toList.length:Nat):Int)=((k+t.data.toList.length:Nat):Int) by omega,Ow (by omega) h,Option.bind_some,show k+t.data.toList.length - k=t.data.toList.length by omega,Tt];dsimp only;rw[List.toList_toArray];cases List.take t.data.toList.length (List.drop k s.data.toList) == t.data.toList<;>rfl
 rw[UH (by omega)];dsimp only[cond];congr 1;symm;apply beq_false_of_ne;intro e;have:=congrArg List.length e;rw[List.length_take,List.length_drop] at this;omega
omit hs in
theorem pH{k:Nat}(hk:k<=s.data.toList.length):D8 s (k:Int)=some (free (s.data.toList.drop k)):=by
 unfold D8 free;rcases L8 s.data.toList k with ⟨h1,h2⟩ | ⟨c,h1,h2,h3⟩
 rw[Ys (by omega),h2];rfl;rw[UH (by omega),PP,h2,h3];dsimp only[cond,Option.bind,GH,List.head?_cons];rw[afO,abK];dsimp only;have:(some c == some (46:UInt8))=(c == 46):=rfl;rw[this];cases cin 30 c<;>cases c == 46<;>rfl
def PY(t:List UInt8):Nat:=(t.takeWhile (λc=>c != 10)).length
omit hs in
theorem Vu(c:UInt8)(t:List UInt8):PY (c::t)=if c == 10 then 0 else 1+PY t:=by
 unfold PY;rw[List.takeWhile_cons,bne];cases c == 10;simp only[Bool.not_false,if_true,List.length_cons,Bool.false_eq_true,if_false];omega;rfl
omit hs in
theorem vM(t:List UInt8):Gz true t=PY t+Gz false (t.drop (PY t)):=by
 induction t with
 | nil=>rfl
 | cons c t ih =>
   rw[Vu];by_cases hc:c=10;subst hc;exact(iB t).trans (by simp);have:(c == 10)=false:=beq_false_of_ne hc;rw[this,abY c t hc,ih,if_neg (by simp),Nat.add_comm 1 (PY t),List.drop_succ_cons];omega
theorem ayQ:∀(j k:Nat),s.data.toList.length - k<=j->k<=s.data.toList.length->EM (λx=>Er s x) (j+1) (k:Int)=some (.inl ((k+PY (s.data.toList.drop k):Nat):Int)):=by
 have stop:∀k:Nat,s.data.toList.length<=k->Er s (k:Int)=some (.ex (k:Int)):=λk h=>by
   unfold Er;rw[Hh (by omega)];rfl
 intro j
 induction j with
 | zero =>
   intro k hk hl;show(Er s (k:Int)).bind _=_;rw[stop k (by omega),List.drop_eq_nil_of_le (by omega)];rfl
 | succ j ih =>
   intro k hk hl;show(Er s (k:Int)).bind _=_;rcases L8 s.data.toList k with ⟨h1,h2⟩ | ⟨c,h1,h2,h3⟩
   · rw[stop k h1,h2];rfl
   have:Er s (k:Int)=if (c == 10)=true then some (.ex (k:Int)) else some (.nx ((k+1:Nat):Int)):=by
     unfold Er;rw[GJ (by omega),PP,h2];dsimp only[cond,Option.bind];rw[auZ,CY (by omega)];cases c == 10<;>rfl
   rw[this,h3,Vu];cases c == 10;show EM (λx=>Er s x) (j+1) ((k+1:Nat):Int)=_;rw[ih (k+1) (by omega) (by omega)];congr 2;simp only[Bool.false_eq_true,if_false];omega;rfl
omit hs in
theorem aeN(t:List UInt8):PY t<=t.length:=(List.takeWhile_sublist _).length_le
theorem wY:∀(j k:Nat),s.data.toList.length - k<=j->k<=s.data.toList.length->∃r,EM (λx=>Dw s x) (j+1) (k:Int)=some r/\(r=.inl ((k+Gz false (s.data.toList.drop k):Nat):Int)\/r=.inr ((k+Gz false (s.data.toList.drop k):Nat):Int)):=by
 have stop:∀k:Nat,s.data.toList.length<=k->Dw s (k:Int)=some (.ex (k:Int)):=λk h=>by
   unfold Dw;rw[Hh (by omega)];rfl
 intro j
 induction j with
 | zero =>
   intro k hk hl;refine⟨.inl (k:Int),?_,.inl ?_⟩
   · show(Dw s (k:Int)).bind _=_
     rw[stop k (by omega)];rfl
   rw[List.drop_eq_nil_of_le (by omega)];rfl
 | succ j ih =>
   intro k hk hl;rcases L8 s.data.toList k with ⟨h1,h2⟩ | ⟨c,h1,h2,h3⟩
   · refine⟨.inl (k:Int),?_,.inl ?_⟩
     · show(Dw s (k:Int)).bind _=_
       rw[stop k h1];rfl
     rw[h2];rfl
   · have e:Dw s (k:Int)=cond (cin 1 c) (some (.nx ((k+1:Nat):Int))) (cond (([47,47]:List UInt8).isPrefixOf (s.data.toList.drop k)) (some (.nx ((k+PY (s.data.toList.drop k):Nat):Int))) (some (.rt (k:Int)))):=by
       unfold Dw;rw[GJ (by omega),PP,h2];dsimp only[cond,Option.bind];rw[anT,CY (by omega)];dsimp only;rw[jW hs hl (show(pG).data.toList.length<=100000 by decide)];rw[show(pG).data.toList=[47,47] from rfl];dsimp only;rw[Ff (ayQ hs _ k (Nat.le_refl _) hl)];rfl
     cases hw:cin 1 c with
     | true =>
       obtain⟨r,h4,h5⟩:=ih (k+1) (by omega) (by omega);refine⟨r,?_,?_⟩;show(Dw s (k:Int)).bind _=_;rw[e,hw];exact h4
       have:k+Gz false (s.data.toList.drop k)=k+1+Gz false (s.data.toList.drop (k+1)):=by
         rw[h3];show k+(if false=true then _ else if cin 1 c=true then 1+Gz false (s.data.toList.drop (k+1)) else _)=_
         rw[if_neg (by simp),if_pos hw];omega
       rw[this];exact h5
     | false =>
       cases hp:([47,47]:List UInt8).isPrefixOf (s.data.toList.drop k) with
       | false =>
         refine⟨.inr (k:Int),?_,.inr ?_⟩;show(Dw s (k:Int)).bind _=_;rw[e,hw,hp];rfl;rw[iC _ (by rw[h3];exact hw) hp];rfl
       | true =>
         have hl2:1<=PY (s.data.toList.drop k):=by
           rw[h3] at hp ⊢;rw[Vu]
           have:c=47:=by
             have:=hp;simp only[List.isPrefixOf,Bool.and_eq_true] at this;exact(eq_of_beq this.1).symm
           rw[this,if_neg (by decide)];omega
         have hl3:=aeN (s.data.toList.drop k);rw[List.length_drop] at hl3;obtain⟨r,h4,h5⟩:=ih (k+PY (s.data.toList.drop k)) (by omega) (by omega);refine⟨r,?_,?_⟩;show(Dw s (k:Int)).bind _=_;rw[e,hw,hp];exact h4
         have:k+Gz false (s.data.toList.drop k)=k+PY (s.data.toList.drop k)+Gz false (s.data.toList.drop (k+PY (s.data.toList.drop k))):=by
           rw[V6 _ hp,vM,List.drop_drop];omega
         rw[this];exact h5
theorem afN{k:Nat}(hk:k<=s.data.toList.length):Kb s (k:Int)=some ((k+DP (s.data.toList.drop k):Nat):Int):=by
 obtain⟨r,h1,h2⟩:=wY hs _ k (Nat.le_refl _) hk;unfold Kb;rw[Ff h1,Option.bind_some];rcases h2 with rfl | rfl<;>rfl
omit hs in
theorem auW(t:List UInt8):EK t=(decide (10<=t.length)&&(List.range' 0 10).all (FI t)):=by
 unfold EK;rw[List.range_eq_range']
theorem ayP{k:Nat}(hk:k<=s.data.toList.length):LJ s (k:Int)=some (EK (s.data.toList.drop k)):=by
 rw[auW];unfold LJ;rw[Kh (by omega),List.length_drop];by_cases hl:10<=s.data.toList.length - k
 · rw[Hh (by omega),decide_eq_true hl]
   dsimp only[cond];rw[Bool.true_and]
   have Gb:∀i:Nat,i < 10->FG s (k:Int) (i:Int)=if FI (s.data.toList.drop k) i=true then some (.nx ((i+1:Nat):Int)) else some (.rt false):=by
     intro i hi;obtain⟨c,hc⟩:∃c,s.data.toList[k+i]?=some c:=⟨_,List.getElem?_eq_getElem (by omega)⟩;have fQ:(s.data.toList.drop k)[i]?=some c:=by rw[List.getElem?_drop];exact hc
     unfold FG;rw[GJ (by omega),CY (by omega),show(k:Int)+(i:Int)=((k+i:Nat):Int) by omega,PP,hc];dsimp only[cond,Option.bind];rw[avA,eB,CY (by omega)];have e:(some c == some (45:UInt8))=(c == 45):=rfl
     have aAT:i=4\/i=7->FI (s.data.toList.drop k) i=(c == 45):=λh=>by
       unfold FI;rw[if_pos h,fQ,e]
     by_cases h4:i=4;rw[IQ (by omega),aAT (Or.inl h4)];cases c == 45<;>rfl
     rw[Ku (by omega)];by_cases h7:i=7;rw[IQ (by omega),aAT (Or.inr h7)];cases c == 45<;>rfl
     rw[Ku (by omega)]
     have dg:FI (s.data.toList.drop k) i=cin 8 c:=by
       unfold FI;rw[if_neg (by omega)];rw[<- List.head?_drop] at fQ;cases hd:(s.data.toList.drop k).drop i with
       | nil=>rw[hd] at fQ;cases fQ
       | cons a l=>rw[hd] at fQ;cases fQ;rfl
     rw[dg];cases cin 8 c<;>rfl
   have key:∀d i:Nat,i+d=10->EM (λx=>FG s (k:Int) x) (d+1) (i:Int)=some (if (List.range' i d).all (FI (s.data.toList.drop k))=true then .inl () else .inr false):=by
     intro d
     induction d with
     | zero =>
       intro i hi;show(FG s (k:Int) (i:Int)).bind _=_;unfold FG;rw[Hh (by omega)];rfl
     | succ d ih =>
       intro i hi;show(FG s (k:Int) (i:Int)).bind _=_;rw[Gb i (by omega),List.range'_succ,List.all_cons];by_cases hd:FI (s.data.toList.drop k) i=true;rw[if_pos hd,hd,Bool.true_and];exact ih (i+1) (by omega);rw[if_neg hd,Bool.eq_false_iff.2 hd];rfl
   have:=key 10 0 rfl;rw[show((0:Nat):Int)=0 from rfl] at this;rw[Ff this,Option.bind_some];cases (List.range' 0 10).all (FI (s.data.toList.drop k))<;>rfl
 rw[GJ (by omega),decide_eq_false hl];rfl
end
end Mo
end Go.Proofs.YtpbkhogolfegfaaGreatDoor
namespace Go.Proofs.YtpbkhogolfegfaaGreatDoor
open AI Go LexS
namespace Mo
set_option maxRecDepth 100000
set_option maxHeartbeats 4000000
theorem xF(t:List UInt8)(h:GH 8 t=false):Be 8 t=0:=by
 cases t with
 | nil=>rfl
 | cons c t=>rw[Ds,if_neg (by have:cin 8 c=false:=h;simp[this])]
theorem agW(u:List UInt8)(hf:free (u.drop 2)=true)(h1:GH 8 u=true)(h2:GH 8 (u.drop 1)=true):Be 8 u=2:=by
 match u,h1,h2 with
 | [c],_,h2=>simp[GH] at h2
 | c::d::v,h1,h2 =>
   have e1:cin 8 c=true:=h1;have e2:cin 8 d=true:=h2;rw[Ds,if_pos e1,Ds,if_pos e2]
   have e3:Be 8 v=0:=by
     apply xF;cases v with
     | nil=>rfl
     | cons x v =>
       have Yc:free (x::v)=true:=hf;unfold free GH at Yc;dsimp only at Yc;rw[aaR] at Yc;show cin 8 x=false;cases hx:cin 8 x with
       | false=>rfl
       | true=>rw[hx] at Yc;simp at Yc
   omega
theorem aiD(u:List UInt8)(h:Be 8 u=2):GH 8 u=true/\GH 8 (u.drop 1)=true:=by
 match u,h with
 | [],h=>simp[SD] at h
 | [c],h =>
   rw[Ds] at h;split at h;rw[SD] at h;omega;omega
 | c::d::v,h =>
   rw[Ds] at h;by_cases hc:cin 8 c=true;rw[if_pos hc,Ds] at h;by_cases hd:cin 8 d=true;exact⟨hc,hd⟩;rw[if_neg hd] at h;omega;rw[if_neg hc] at h;omega
theorem nI(t:List UInt8)(d e:Nat)(hd:d=Be 8 t)(he:e=Be 8 (t.drop (d+1)))(hn:EK t=false)(Zx:(t.drop d).head?=some 46) :
   Gw t=if ¬(t.head?=some 48/\1 < d)/\d<=10/\e=2/\free (t.drop (d+3))=true then (4,d+3) else (0,0):=by
 unfold Gw;simp only[hn,Bool.false_eq_true,if_false,<- hd];by_cases h1:t.head?=some 48/\1 < d;rw[if_pos h1,if_neg (λh=>h.1 h1)];rw[if_neg h1,if_pos Zx];by_cases h2:10 < d\/GH 8 (t.drop (d+1))=false\/GH 8 (t.drop (d+2))=false;rw[if_pos h2,if_neg];rintro⟨_,h3,h4,_⟩;rw[he] at h4;have:=aiD _ h4;rw[List.drop_drop] at this;rcases h2 with h | h | h
 omega;rw[h] at this;simp at this;rw[show d+1+1=d+2 from rfl,h] at this;simp at this;rw[if_neg h2]
 have i1:GH 8 (t.drop (d+1))=true:=by
   cases hh:GH 8 (t.drop (d+1)) with
   | true=>rfl
   | false=>exact absurd (.inr (.inl hh)) h2
 have i2:GH 8 (t.drop (d+2))=true:=by
   cases hh:GH 8 (t.drop (d+2)) with
   | true=>rfl
   | false=>exact absurd (.inr (.inr hh)) h2
 by_cases h3:free (t.drop (d+3))=true
 have h5:e=2:=by
   rw[he];refine agW _ ?_ i1 ?_;rw[List.drop_drop];exact h3;rw[List.drop_drop];exact i2
 rw[if_pos h3,if_pos ⟨h1,by omega,h5,h3⟩];rw[if_neg h3,if_neg (λh=>h3 h.2.2.2)]
theorem nJ(t:List UInt8)(d:Nat)(hd:d=Be 8 t)(hn:EK t=false)(Zx:¬(t.drop d).head?=some 46) :
   Gw t=if ¬(t.head?=some 48/\1 < d)/\d<=12/\free (t.drop d)=true then (3,d) else (0,0):=by
 unfold Gw;simp only[hn,Bool.false_eq_true,if_false,<- hd];by_cases h1:t.head?=some 48/\1 < d;rw[if_pos h1,if_neg (λh=>h.1 h1)];rw[if_neg h1,if_neg Zx];by_cases h2:12 < d;rw[if_pos h2,if_neg (λh=>by omega)];rw[if_neg h2];by_cases h3:free (t.drop d)=true;rw[if_pos h3,if_pos ⟨h1,by omega,h3⟩];rw[if_neg h3,if_neg (λh=>h3 h.2.2)]
def LV(r:Nat×Nat)(t:List UInt8)(k:Nat)(x:Tk×Bool):Prop:=(x.2=true->r.1≠0/\x.1=Hi (r.1,t.take r.2,k))/\(x.2=false->r.1=0)
theorem LV.no{t:List UInt8}{k:Nat}{x:Tk}:LV (0,0) t k (x,false):=⟨λh=>(by cases h),λ_=>rfl⟩
theorem LV.yes{q n:Nat}(hq:q≠0){t:List UInt8}{k:Nat}:LV (q,n) t k (Hi (q,t.take n,k),true):=⟨λ_=>⟨hq,rfl⟩,λh=>(by cases h)⟩
theorem LV.if{p:Prop}[Decidable p]{b:Bool}(hp:p↔b=true){q n:Nat}(hq:q≠0){t:List UInt8}{k:Nat}:LV (if p then (q,n) else (0,0)) t k (Hi (q,t.take n,k),b):=by
 cases b;rw[if_neg (λh=>by cases hp.1 h)];exact LV.no;rw[if_pos (hp.2 rfl)];exact LV.yes hq
section
variable {s:ByteArray} (hs:s.data.toList.length<=100000)
include hs
theorem aeY{k d e:Nat}(hk:k+d<=s.data.toList.length)(he:e=Be 8 ((s.data.toList.drop k).drop (d+1)))(A:Int->ByteArray->Option (Tk×Bool))(B:ByteArray->Option (Tk×Bool)) :
   cond (DM ((k+d:Nat):Int) ((s.data.toList.length:Nat):Int)) ((G5 s.data.toList ((k+d:Nat):Int)).bind λc=>cond (CS ((c.toNat:Nat):Int) 46) ((E4 s (BC ((k+d:Nat):Int) 1)).bind λy6=>(Ov s (k:Int) y6).bind λs7=>A y6 s7) ((Ov s (k:Int) ((k+d:Nat):Int)).bind λs9=>B s9)) ((Ov s (k:Int) ((k+d:Nat):Int)).bind λs11=>B s11)
     = if ((s.data.toList.drop k).drop d).head?=some 46 then A ((k+(d+1+e):Nat):Int) ⟨((s.data.toList.drop k).take (d+1+e)).toArray⟩ else B ⟨((s.data.toList.drop k).take d).toArray⟩:=by
 rw[Ow (by omega) hk,show k+d - k=d by omega];rcases L8 s.data.toList (k+d) with ⟨h1,h2⟩ | ⟨c,h1,h2,h3⟩
 rw[Hh (by omega),List.drop_drop,h2,if_neg (by simp)];rfl;rw[GJ (by omega),PP,h2,List.drop_drop,h3,List.head?_cons];dsimp only[cond,Option.bind];rw[abK];by_cases hc:c=46;subst hc;rw[if_pos rfl,CY (by omega),show((k+d:Nat):Int)+1=((k+d+1:Nat):Int) by omega,jX hs (by omega)];have e1:k+d+1+Be 8 (s.data.toList.drop (k+d+1))=k+(d+1+e):=by rw[he,List.drop_drop,Nat.add_assoc k d 1];omega
 rw[e1];have e2:=LO 8 ((s.data.toList.drop k).drop (d+1));rw[<- he,List.drop_drop,List.length_drop] at e2;dsimp only;rw[Ow (by omega) (by omega),show k+(d+1+e) - k=d+1+e by omega];rfl;rw[if_neg (by simpa using hc)]
 have:(c == 46)=false:=beq_false_of_ne hc;rw[this]
theorem wX{k:Nat}(hk:k < s.data.toList.length)(h8:GH 8 (s.data.toList.drop k)=true):∃x,IV s (k:Int)=some x/\LV (Gw (s.data.toList.drop k)) (s.data.toList.drop k) k x:=by
 unfold IV;rw[ayP hs (by omega),Option.bind_some];generalize ht:s.data.toList.drop k=t at *;have hlt:t.length=s.data.toList.length - k:=by rw[<- ht,List.length_drop]
 cases hd:EK t with
 | true =>
   have hl10:10<=t.length:=by
     unfold EK at hd;rw[Bool.and_eq_true] at hd;exact of_decide_eq_true hd.1
   dsimp only[cond];rw[CY (by omega),show(k:Int)+10=((k+10:Nat):Int) by omega,Ow (by omega) (by omega),Option.bind_some,pH (by omega),Option.bind_some,show k+10 - k=10 by omega,ht];refine⟨_,rfl,?_⟩;unfold Gw;rw[if_pos hd,<- List.drop_drop,ht];exact LV.if Iff.rfl (by decide)
 | false =>
   rw[cond_false,jX hs (by omega),Option.bind_some,ht];generalize hde:Be 8 t=d at *;have hd1:1<=d:=by rw[<- hde];exact R1 8 t h8
   have hdl:d<=t.length:=by rw[<- hde];exact LO 8 t
   obtain⟨e,he⟩:∃e,e=Be 8 ((s.data.toList.drop k).drop (d+1)):=⟨_,rfl⟩;have tail:=aeY hs (k:=k) (d:=d) (e:=e) (by omega) he;rw[ht] at tail he;have hel:=LO 8 (t.drop (d+1));rw[<- he,List.length_drop] at hel;rw[CY (a:=(k:Int)) (by omega)];obtain⟨c,hc⟩:∃c,s.data.toList[k]?=some c:=⟨_,List.getElem?_eq_getElem hk⟩;have hh:t.head?=some c:=by rw[<- ht,List.head?_drop];exact hc
   have aBB:¬(t.head?=some 48/\1 < d)->∃x,(if (t.drop d).head?=some 46 then
       (cond (N1 (LR ((k+d:Nat):Int) (k:Int)) 10) (cond (CS ((k+(d+1+e):Nat):Int) (BC ((k+d:Nat):Int) 3)) ((D8 s ((k+(d+1+e):Nat):Int)).bind λy8=>some ((⟨4,⟨(t.take (d+1+e)).toArray⟩,(k:Int)⟩:Tk),y8)) (some ((⟨4,⟨(t.take (d+1+e)).toArray⟩,(k:Int)⟩:Tk),false))) (some ((⟨4,⟨(t.take (d+1+e)).toArray⟩,(k:Int)⟩:Tk),false)))
       else (cond (N1 (LR ((k+d:Nat):Int) (k:Int)) 12) ((D8 s ((k+d:Nat):Int)).bind λyK=>some ((⟨3,⟨(t.take d).toArray⟩,(k:Int)⟩:Tk),yK)) (some ((⟨3,⟨(t.take d).toArray⟩,(k:Int)⟩:Tk),false))))=some x/\LV (Gw t) t k x:=by
     intro h0;rw[Kh (by omega),show((k+d:Nat):Int) - (k:Int)=(d:Int) by omega];by_cases Zx:(t.drop d).head?=some 46;rw[if_pos Zx,nI t d e hde.symm he hd Zx]
     have aNK:d < t.length:=by
       rcases Nat.lt_or_ge d t.length with h | h
       exact h;rw[List.drop_eq_nil_of_le h] at Zx;cases Zx
     by_cases h1:d<=10;rw[Ys (by omega),CY (by omega)];dsimp only[cond];by_cases h2:e=2;subst h2;rw[IQ (by omega)];dsimp only;rw[pH (by omega),Option.bind_some,<- List.drop_drop,ht];refine⟨_,rfl,?_⟩;exact LV.if (n:=d+3) ⟨λh=>h.2.2.2,λh=>⟨h0,h1,rfl,h⟩⟩ (by decide)
     rw[Ku (by omega),if_neg (λh=>h2 h.2.2.1)];exact⟨_,rfl,LV.no⟩;rw[UH (by omega),if_neg (λh=>h1 h.2.1)];exact⟨_,rfl,LV.no⟩;rw[if_neg Zx,nJ t d hde.symm hd Zx];by_cases h1:d<=12;rw[Ys (by omega)];dsimp only[cond];rw[pH (by omega),Option.bind_some,<- List.drop_drop,ht];refine⟨_,rfl,?_⟩;exact LV.if ⟨λh=>h.2.2,λh=>⟨h0,h1,h⟩⟩ (by decide)
     rw[UH (by omega),if_neg (λh=>h1 h.2.1)];exact⟨_,rfl,LV.no⟩
   by_cases h1:d=1;rw[IQ (by omega),cond_true,tail];exact aBB (λh=>by omega);rw[Ku (by omega),cond_false,PP,hc,Option.bind_some,avB];by_cases h2:c=48;have e2:(c == 48)=true:=by rw[h2];rfl
   rw[e2,cond_true,tail (λ_ s16=>some ((⟨4,s16,(k:Int)⟩:Tk),false)) (λs17=>some ((⟨3,s17,(k:Int)⟩:Tk),false))];have h3:t.head?=some 48/\1 < d:=⟨by rw[hh,h2],by omega⟩
   have hf:Gw t=(0,0):=by
     unfold Gw;simp only[hd,Bool.false_eq_true,if_false];rw[hde,if_pos h3]
   rw[hf];split<;>exact⟨_,rfl,LV.no⟩
   have e2:(c == 48)=false:=beq_false_of_ne h2;rw[e2,cond_false,tail];exact aBB (λh=>by rw[hh] at h;exact h2 (Option.some.inj h.1))
omit hs in
theorem jL{p:UInt8->Bool}{v:Tk×Bool}{B:Nat}{b:Int->Option (Lp Int Unit (Tk×Bool))}(hB:B<=s.data.toList.length)(hb:∀(i:Nat) c,i < B->s.data.toList[i]?=some c->b (i:Int)=if p c then some (.nx ((i+1:Nat):Int)) else some (.rt v))(he:b (B:Int)=some (.ex ())) :
   ∀(n i:Nat),i+n=B->EM b (n+1) (i:Int)=some (if ((s.data.toList.drop i).take n).all p then .inl () else .inr v):=by
 intro n
 induction n with
 | zero =>
   intro i hi;rw[show i=B by omega];show(b (B:Int)).bind _=_;rw[he];rfl
 | succ n ih =>
   intro i hi;obtain⟨c,hc⟩:∃c,s.data.toList[i]?=some c:=⟨_,List.getElem?_eq_getElem (by omega)⟩;show(b (i:Int)).bind _=_;rw[hb i c (by omega) hc];rcases L8 s.data.toList i with ⟨h1,h2⟩ | ⟨c',h1,h2,h3⟩
   omega;rw[hc] at h2;cases h2;rw[h3,List.take_succ_cons,List.all_cons];cases hp:p c;rfl;rw[Bool.true_and];exact ih (i+1) (by omega)
omit hs in
theorem kM{m:Nat}(hm:∀c,cin m c=true->cin 30 c=true)(t:List UInt8):(Be m t=Be 30 t)↔(t.take (Be 30 t)).all (cin m)=true:=by
 induction t with
 | nil=>simp[SD]
 | cons c t ih =>
   rw[Ds,Ds];by_cases hc:cin 30 c=true;rw[if_pos hc,Nat.add_comm 1 (Be 30 t),List.take_succ_cons,List.all_cons];by_cases hcm:cin m c=true;rw[if_pos hcm,hcm,Bool.true_and,<- ih];omega;rw[if_neg hcm,Bool.eq_false_iff.2 hcm,Bool.false_and];simp;rw[if_neg hc,if_neg (λh=>hc (hm c h))];simp
omit hs in
theorem auK(t:List UInt8)(h:∀c∈t,cin 30 c=true):t.all (cin 26)=t.all (λc=>!cin 4 c):=by
 induction t with
 | nil=>rfl
 | cons c t ih=>rw[List.all_cons,List.all_cons,aaQ,h c (by simp),ih (λx hx=>h x (by simp[hx]))];rfl
omit hs in
theorem xW(m:Nat)(t:List UInt8):∀c∈t.take (Be m t),cin m c=true:=by
 induction t with
 | nil=>intro c hc;simp at hc
 | cons x t ih =>
   intro c hc;rw[Ds] at hc;by_cases hx:cin m x=true;rw[if_pos hx,Nat.add_comm,List.take_succ_cons] at hc;rcases List.mem_cons.1 hc with rfl | hc
   exact hx;exact ih c hc;rw[if_neg hx] at hc;simp at hc
theorem ayR{k:Nat}(hk:k < s.data.toList.length)(h2:GH 2 (s.data.toList.drop k)=true):∃x,LK s (k:Int)=some x/\LV (A2 (s.data.toList.drop k)) (s.data.toList.drop k) k x:=by
 unfold LK A2;rw[if_pos h2,atE hs (by omega),Option.bind_some];generalize hw:Be 30 (s.data.toList.drop k)=w at *;have hwl:w<=s.data.toList.length - k:=by rw[<- hw,<- List.length_drop];exact LO 30 _
 rw[Ff (jL (s:=s) (p:=λc=>!cin 4 c) (v:=((⟨0,ByteArray.empty,0⟩:Tk),false)) (B:=k+w) (b:=λx=>I0 s ((k+w:Nat):Int) x) (by omega) (λi c hi hc=>?_) ?_ w k rfl),Option.bind_some]
 · have Hz:(Be 26 (s.data.toList.drop k)=w)↔((s.data.toList.drop k).take w).all (λc=>!cin 4 c)=true:=by
     rw[<- auK _ (λc hc=>by rw[<- hw] at hc;exact xW 30 _ c hc),<- hw];exact kM (m:=26) (λc hc=>by rw[aaQ,Bool.and_eq_true] at hc;exact hc.1) _
   cases ha:((s.data.toList.drop k).take w).all (λc=>!cin 4 c) with
   | false =>
     rw[ha] at Hz;rw[if_neg (show ¬(false=true) by simp),if_neg (show ¬(w<=16/\Be 26 (s.data.toList.drop k)=w) from λh=>by cases Hz.1 h.2)];exact⟨_,rfl,LV.no⟩
   | true =>
     rw[ha] at Hz;rw[if_pos rfl];dsimp only[MC];rw[Ow (by omega) (by omega),Option.bind_some,Kh (by omega),show((k+w:Nat):Int) - (k:Int)=(w:Int) by omega,show k+w - k=w by omega];by_cases h16:w<=16;rw[Ys (by omega),if_pos ⟨h16,Hz.2 rfl⟩];exact⟨_,rfl,LV.yes (by decide)⟩;rw[UH (by omega),if_neg (λh=>h16 h.1)];exact⟨_,rfl,LV.no⟩
 unfold I0;rw[Hh (by omega)];rfl;unfold I0;rw[GJ (by omega),PP,hc];dsimp only[cond,Option.bind];rw[eC,CY (by omega)];cases cin 4 c<;>rfl
theorem aDO{k:Nat}(hk:k < s.data.toList.length)(h2:GH 2 (s.data.toList.drop k)=false)(h4:GH 4 (s.data.toList.drop k)=true):∃x,MQ s (k:Int)=some x/\LV (A2 (s.data.toList.drop k)) (s.data.toList.drop k) k x:=by
 unfold MQ A2;rw[if_neg (by rw[h2];simp),if_pos h4,atE hs (by omega),Option.bind_some];generalize hw:Be 30 (s.data.toList.drop k)=w at *;have hwl:w<=s.data.toList.length - k:=by rw[<- hw,<- List.length_drop];exact LO 30 _
 rw[Ff (jL (s:=s) (p:=λc=>cin 4 c) (v:=((⟨0,ByteArray.empty,0⟩:Tk),false)) (B:=k+w) (b:=λx=>Kd s ((k+w:Nat):Int) x) (by omega) (λi c hi hc=>?_) ?_ w k rfl),Option.bind_some]
 · have Hz:(Be 4 (s.data.toList.drop k)=w)↔((s.data.toList.drop k).take w).all (λc=>cin 4 c)=true:=by
     rw[<- hw];exact kM (m:=4) (λc hc=>by rw[aaR,hc];simp) _
   cases ha:((s.data.toList.drop k).take w).all (λc=>cin 4 c) with
   | false =>
     rw[ha] at Hz;rw[if_neg (show ¬(false=true) by simp),if_neg (show ¬(w=3/\Be 4 (s.data.toList.drop k)=w) from λh=>by cases Hz.1 h.2)];exact⟨_,rfl,LV.no⟩
   | true =>
     rw[ha] at Hz;rw[if_pos rfl];dsimp only[MC];rw[Ow (by omega) (by omega),Option.bind_some,Kh (by omega),show((k+w:Nat):Int) - (k:Int)=(w:Int) by omega,show k+w - k=w by omega];by_cases h3:w=3;rw[IQ (by omega),if_pos ⟨h3,Hz.2 rfl⟩];exact⟨_,rfl,LV.yes (by decide)⟩;rw[Ku (by omega),if_neg (λh=>h3 h.1)];exact⟨_,rfl,LV.no⟩
 unfold Kd;rw[Hh (by omega)];rfl;unfold Kd;rw[GJ (by omega),PP,hc];dsimp only[cond,Option.bind];rw[eC,CY (by omega)];cases cin 4 c<;>rfl
omit hs in
theorem afK{y t:List UInt8}(h:y.isPrefixOf t=true):t.take y.length=y:=by
 rw[MW] at h;exact eq_of_beq h
theorem ayS{k:Nat}(hk:k<=s.data.toList.length):∀(ys:List ByteArray) (i:Nat),(∀y∈ys,y.data.toList.length<=100000)->∃r,C4 (λi y x=>JS s (k:Int) i y) (λx=>()) ys i ()=some r /\
   ((r=.inl ()/\(Lj (s.data.toList.drop k) (ys.map λy=>y.data.toList)).1=0)\/∃x,r=.inr x/\LV (Lj (s.data.toList.drop k) (ys.map λy=>y.data.toList)) (s.data.toList.drop k) k x):=by
 intro ys
 induction ys with
 | nil=>intro i _;exact⟨.inl (),rfl,.inl ⟨rfl,rfl⟩⟩
 | cons y ys ih =>
   intro i hy;rw[C4,List.map_cons];unfold JS Lj;rw[jW hs hk (hy y (by simp)),Option.bind_some];cases hp:y.data.toList.isPrefixOf (s.data.toList.drop k) with
   | true =>
     refine⟨_,rfl,.inr ⟨_,rfl,?_⟩⟩;rw[if_pos rfl];have:=LV.yes (q:=6) (n:=y.data.toList.length) (by decide) (t:=s.data.toList.drop k) (k:=k);rw[afK hp] at this;exact this
   | false =>
     rw[if_neg (by simp)];exact ih (i+1) (λz hz=>hy z (by simp[hz]))
theorem anS{k:Nat}(hk:k < s.data.toList.length):∃x,KA s (k:Int)=some x/\LV (A2 (s.data.toList.drop k)) (s.data.toList.drop k) k x:=by
 obtain⟨c,hc⟩:∃c,s.data.toList[k]?=some c:=⟨_,List.getElem?_eq_getElem hk⟩
 have hB:∀m,GH m (s.data.toList.drop k)=cin m c:=by
   intro m;rcases L8 s.data.toList k with ⟨h1,h2⟩ | ⟨c',h1,h2,h3⟩
   omega;rw[hc] at h2;cases h2;rw[h3];rfl
 unfold KA;rw[PP,hc,Option.bind_some,eB,Option.bind_some];cases h8:cin 8 c with
 | true =>
   obtain⟨x,h1,h2⟩:=wX hs hk (by rw[hB];exact h8);obtain⟨e2,e4⟩:=auU c h8
   have:A2 (s.data.toList.drop k)=Gw (s.data.toList.drop k):=by
     unfold A2;rw[hB,hB,hB,e2,e4,h8];rfl
   dsimp only[cond];rw[h1,this];exact⟨x,rfl,h2⟩
 | false =>
   dsimp only[cond];rw[anR,Option.bind_some];cases h2:cin 2 c with
   | true =>
     obtain⟨x,e1,e2⟩:=ayR hs hk (by rw[hB];exact h2);dsimp only;rw[e1];exact⟨x,rfl,e2⟩
   | false =>
     dsimp only;rw[eC,Option.bind_some];cases h4:cin 4 c with
     | true =>
       obtain⟨x,e1,e2⟩:=aDO hs hk (by rw[hB];exact h2) (by rw[hB];exact h4);dsimp only;rw[e1];exact⟨x,rfl,e2⟩
     | false =>
       have:A2 (s.data.toList.drop k)=Lj (s.data.toList.drop k) Gc:=by
         unfold A2;rw[hB,hB,hB,h2,h4,h8];rfl
       obtain⟨r,e1,e2⟩:=ayS hs (k:=k) (by omega) [GO,H3,G8,FQ,J9,JB,Oi,Lh,Px,EC,TN,VC,eA,ZF,UO,Rz,TO] 0 (by decide);have e3:(([GO,H3,G8,FQ,J9,JB,Oi,Lh,Px,EC,TN,VC,eA,ZF,UO,Rz,TO]:List ByteArray).map λy=>y.data.toList)=Gc:=rfl;rw[e3] at e2;rw[this];dsimp only;unfold KJ;rw[Option.bind_some,List.drop_zero,R4 (by decide),e1,Option.bind_some];rcases e2 with ⟨rfl,e2⟩ | ⟨x,rfl,e2⟩
       exact⟨_,rfl,⟨λh=>(by cases h),λ_=>e2⟩⟩;exact⟨x,rfl,e2⟩
end
theorem afF(s:List UInt8)(k:Nat)(pre:List LexS.Tok)(h:k < s.length)(hp:pre.length=2000):El pre (EJ s k)=([],2,k):=by
 by_cases hz:(A2 (s.drop k)).1=0;rw[J1 s k h hz,El,if_pos hp];rw[Hw s k h hz,El,if_pos hp]
theorem anI(s:List UInt8)(k:Nat)(pre:List LexS.Tok)(h:k < s.length)(hp:¬pre.length=2000)(hz:(A2 (s.drop k)).1=0):El pre (EJ s k)=([],61,k):=by
 rw[J1 s k h hz,El,if_neg hp,if_pos rfl]
theorem anK(s:List UInt8)(k:Nat)(pre:List LexS.Tok)(h:k < s.length)(hp:¬pre.length=2000)(hz:(A2 (s.drop k)).1≠0):El pre (EJ s k)=El (pre++[((A2 (s.drop k)).1,(s.drop k).take (A2 (s.drop k)).2,k)]) (EJ s (k+(A2 (s.drop k)).2+DP (s.drop (k+(A2 (s.drop k)).2)))):=by
 rw[Hw s k h hz,El,if_neg hp,if_neg hz]
theorem anJ(s:List UInt8)(k:Nat)(pre:List LexS.Tok)(h:s.length<=k):El pre (EJ s k)=(pre,0,0):=by
 rw[J0 s k h,El]
def aDB(x:List LexS.Tok×Nat×Nat):List Tk×Int×Int:=(x.1.map Hi,(x.2.1:Int),(x.2.2:Int))
theorem afM{s:ByteArray}(hs:s.data.toList.length<=6000):∀(j k:Nat) (pre:List LexS.Tok),s.data.toList.length - k<=j->k<=s.data.toList.length->pre.length<=2000->∃r:List Tk⊕(List Tk×Int×Int),EM (λx:List Tk×Int=>CP s x.1 x.2) (j+1) (pre.map Hi,(k:Int))=some r /\
   MC (λ(o:List Tk)=>some (o,(0:Int),(0:Int))) (λv=>some v) r=some (aDB (El pre (EJ s.data.toList k))):=by
 have fin:∀(j k:Nat) (pre:List LexS.Tok),s.data.toList.length<=k->∃r:List Tk⊕(List Tk×Int×Int),EM (λx:List Tk×Int=>CP s x.1 x.2) (j+1) (pre.map Hi,(k:Int))=some r /\
   MC (λ(o:List Tk)=>some (o,(0:Int),(0:Int))) (λv=>some v) r=some (aDB (El pre (EJ s.data.toList k))):=by
   intro j k pre h;refine⟨.inl (pre.map Hi),?_,?_⟩;show(CP s (pre.map Hi) (k:Int)).bind _=_;unfold CP;rw[Hh (by omega)];rfl;rw[anJ _ _ _ h];rfl
 intro j
 induction j with
 | zero=>intro k pre hk hl hp;exact fin 0 k pre (by omega)
 | succ j ih =>
   intro k pre hk hl hp;rcases Nat.lt_or_ge k s.data.toList.length with h | h
   rotate_left;exact fin _ k pre h
   have go:∀{y:Lp (List Tk×Int) (List Tk) (List Tk×Int×Int)},CP s (pre.map Hi) (k:Int)=some y->EM (λx:List Tk×Int=>CP s x.1 x.2) (j+1+1) (pre.map Hi,(k:Int))=Rb (EM (λx:List Tk×Int=>CP s x.1 x.2) (j+1)) y:=by
     intro y hy;show(CP s (pre.map Hi) (k:Int)).bind _=_;rw[hy];rfl
   by_cases hf:pre.length=2000
   have:CP s (pre.map Hi) (k:Int)=some (.rt ([],2,(k:Int))):=by
     unfold CP;rw[GJ (by omega),List.length_map,IQ (by omega)];rfl
   refine⟨.inr ([],2,(k:Int)),(go this).trans rfl,?_⟩;rw[afF _ _ _ h hf];rfl;obtain⟨x,h1,h2,h3⟩:=anS (s:=s) (by omega) h;cases hx:x.2 with
   | false =>
     have:CP s (pre.map Hi) (k:Int)=some (.rt ([],61,(k:Int))):=by
       unfold CP;rw[GJ (by omega),List.length_map,Ku (by omega),h1];dsimp only[cond,Option.bind];rw[hx]
     refine⟨.inr ([],61,(k:Int)),(go this).trans rfl,?_⟩;rw[anI _ _ _ h hf (h3 hx)];rfl
   | true =>
     obtain⟨h4,h5⟩:=h2 hx;have hrp:=LI _ h4;have hle:(s.data.toList.drop k).length=s.data.toList.length - k:=List.length_drop ..;generalize hn:(A2 (s.data.toList.drop k)).2=n at *;have hsk:=Xf (s.data.toList.drop (k+n));rw[List.length_drop] at hsk
     have htl:x.1.text.data.toList.length=n:=by
       rw[h5];show((s.data.toList.drop k).take n).length=n;rw[List.length_take];omega
     have:CP s (pre.map Hi) (k:Int)=some (.nx ((pre++[((A2 (s.data.toList.drop k)).1,(s.data.toList.drop k).take n,k)]).map Hi,((k+n+DP (s.data.toList.drop (k+n)):Nat):Int))):=by
       unfold CP;rw[GJ (by omega),List.length_map,Ku (by omega),h1];dsimp only[cond,Option.bind];rw[hx];dsimp only;rw[htl,CY (by omega),show(k:Int)+(n:Int)=((k+n:Nat):Int) by omega,Gm (by omega),afN (by omega) (by omega)];dsimp only;rw[h5,List.map_append];rfl
     obtain⟨r,e1,e2⟩:=ih (k+n+DP (s.data.toList.drop (k+n))) (pre++[((A2 (s.data.toList.drop k)).1,(s.data.toList.drop k).take n,k)]) (by omega) (by omega) (by simp only[List.length_append,List.length_singleton];omega);refine⟨r,(go this).trans e1,?_⟩;rw[e2,anK _ _ _ h hf h4,hn]
theorem ayV(s:ByteArray):K9 s=IE s:=by
 unfold K9 IE I9;by_cases h:6000 < s.data.toList.length;rw[GJ (by omega),if_pos h];rfl;rw[Hh (by omega),if_neg h];dsimp only[cond];have h0:=afN (s:=s) (k:=0) (by omega) (Nat.zero_le _);rw[show((0:Nat):Int)=0 from rfl,List.drop_zero,Nat.zero_add] at h0;have:=Xf s.data.toList;obtain⟨r,e1,e2⟩:=afM (s:=s) (by omega) s.data.toList.length (DP s.data.toList) [] (by omega) (by omega) (by simp);rw[List.map_nil] at e1;rw[h0,Option.bind_some,I2,Ff e1,Option.bind_some];exact e2
theorem aoB(s:ByteArray):K9 s=some (Bu s,(PX s:Int),(aDA s:Int)):=ayV s
end Mo
end Go.Proofs.YtpbkhogolfegfaaGreatDoor
namespace Go.Proofs.YtpbkhogolfegfaaGreatDoor
open AI Go LexS
namespace Mo
set_option maxRecDepth 100000
set_option maxHeartbeats 4000000
section
variable {S:Int->Int->Prop} {en en':Int}
def alG{l l':List Tk}(h:F2 S l l'):F2 S (Oq l) (Oq l'):=by
 induction h with
 | nil=>exact .nil
 | cons ht f ih =>
   rename_i t t' l l';unfold Oq;have:NW t=NW t':=by unfold NW;rw[ht.2.1]
   rw[<- this];cases NW t;exact ih;exact .cons ht f
def apZ:∀(q q':Nat) {l l':List Tk} {ks ks':List Nd} {ds ds':List Dg} {r r':List Nd×List Dg},F2 S l l'->mB S ks ks'->ds.map Dg.err=ds'.map Dg.err->JC en q l ks ds=some r->JC en' q' l' ks' ds'=some r'->mB S r.1 r'.1/\r.2.map Dg.err=r'.2.map Dg.err:=by
 intro q
 induction q with
 | zero=>intro q' l l' ks ks' ds ds' r r' _ _ _ h;cases h
 | succ q ih =>
   intro q' l l' ks ks' ds ds' r r' f hk hd h h';cases q' with
   | zero=>cases h'
   | succ q' =>
     cases f with
     | nil=>cases h;cases h';exact⟨hk,hd⟩
     | cons ht f =>
       rename_i t t' l l';unfold JC at h h';have hl:ds.length=ds'.length:=by have:=congrArg List.length hd;simpa using this
       rw[<- hl] at h';cases hc:DM ((ds.length:Nat):Int) 20 with
       | false=>rw[hc] at h h';cases h;cases h';exact⟨hk,hd⟩
       | true =>
         rw[hc] at h h';dsimp only[cond] at h h';split at h;cases h;rename_i n s hi;split at h';cases h';rename_i n' s' Nq;rcases UP (S:=S) (en:=en) (en':=en') (w:=[]) (b:=true) (.cons ht f) hi (by rw[List.append_nil];exact Nq) with ⟨s1,rfl,f1,q⟩ | ⟨hw,_⟩
         cases q with
         | l q=>exact ih q' (by rw[List.append_nil];exact f1) (UJ hk (.cons q .nil)) hd h h'
         exact absurd rfl hw;rename_i d' s' Nq;rcases UP (S:=S) (en:=en) (en':=en') (w:=[]) (b:=true) (.cons ht f) hi (by rw[List.append_nil];exact Nq) with ⟨s1,rfl,f1,q⟩ | ⟨hw,_⟩
         cases q;exact absurd rfl hw
         · rename_i d s hi
           split at h';cases h';rename_i n' s' Nq;rcases UP (S:=S) (en:=en) (en':=en') (w:=[]) (b:=true) (.cons ht f) hi (by rw[List.append_nil];exact Nq) with ⟨s1,rfl,f1,q⟩ | ⟨hw,_⟩
           cases q;exact absurd rfl hw
           · rename_i d' s' Nq
             rcases UP (S:=S) (en:=en) (en':=en') (w:=[]) (b:=true) (.cons ht f) hi (by rw[List.append_nil];exact Nq) with ⟨s1,rfl,f1,q⟩ | ⟨hw,_⟩
             · cases q with
               | r q =>
                 refine ih q' (by rw[List.append_nil];exact alG f1) hk ?_ h h';rw[List.map_append,List.map_append,hd];simp only[List.map_cons,List.map_nil,q.1]
             exact absurd rfl hw
end
def pD{s:ByteArray}(h:PX s=0):∃ks ds,JC ((s.data.toList.length:Nat):Int) ((Bu s).length+1) (Bu s) [] []=some (ks,ds)/\Cy s=some (mS ks ds)/\G4 ks<=2000/\ds.length<=20/\KT (G3 ks)/\ZE (G3 ks):=by
 obtain⟨ks,ds,h1,h2,h3,h4⟩:=Xa h;have hv:=ahW _ _ _ _ _ (eX s) (by have:=(Lc s).2;omega) (λk hk=>by cases hk) h1;dsimp only at hv;have:=aJ hv (by omega);exact⟨ks,ds,h1,h2,h3,h4,this.1,this.2⟩
def wG{s:ByteArray}(h:PX s=0):∀x∈(I9 s.data.toList).1,aAD x/\1<=x.2.1.length/\x.2.1.length<=6000:=by
 obtain⟨h1,h2,h3,_⟩:=W5 s.data.toList h;intro x hx;rw[<- h2] at hx;have ht:=qJ _ h3.2 x hx;rw[I2] at hx;have hb:=NG _ _ _ rfl x hx;exact⟨ht,(hb.2.2.2.2 ht.1).1,by omega⟩
end Mo
end Go.Proofs.YtpbkhogolfegfaaGreatDoor
namespace Go.Proofs.YtpbkhogolfegfaaGreatDoor
open AI Go LexS
namespace Mo
set_option maxRecDepth 100000
set_option maxHeartbeats 4000000
section
variable {en en':Int}
def kW:∀(q q':Nat) (l:List Tk) (ks:List Nd) (ds:List Dg) (r:List Nd×List Dg),q<=q'->JC en q l ks ds=some r->JC en q' l ks ds=some r:=by
 intro q
 induction q with
 | zero=>intro q' l ks ds r _ h;cases h
 | succ q ih =>
   intro q' l ks ds r hq h;obtain⟨q',rfl⟩:∃p,q'=p+1:=⟨q' - 1,by omega⟩;cases l with
   | nil=>exact h
   | cons t l =>
     unfold JC at h ⊢;cases hc:DM ((ds.length:Nat):Int) 20 with
     | false=>rw[hc] at h;exact h
     | true =>
       rw[hc] at h;dsimp only[cond] at h ⊢;split at h;cases h;rename_i n s hi;exact ih q' _ _ _ _ (by omega) h;rename_i d s hi;exact ih q' _ _ _ _ (by omega) h
def kX{q q':Nat}{l:List Tk}{ks:List Nd}{ds:List Dg}{r r':List Nd×List Dg}(h:JC en q l ks ds=some r)(h':JC en q' l ks ds=some r'):r=r':=by
 have h1:=kW q (max q q') l ks ds r (Nat.le_max_left ..) h;have h2:=kW q' (max q q') l ks ds r' (Nat.le_max_right ..) h';exact Option.some.inj (h1.symm.trans h2)
def ahU:∀(q:Nat) (l:List Tk) (ks:List Nd) (ds:List Dg) (r:List Nd×List Dg),JC en q l ks ds=some r->ds.length<=r.2.length:=by
 intro q
 induction q with
 | zero=>intro l ks ds r h;cases h
 | succ q ih =>
   intro l ks ds r h;cases l with
   | nil=>cases h;exact Nat.le_refl _
   | cons t l =>
     unfold JC at h;cases hd:DM ((ds.length:Nat):Int) 20 with
     | false=>rw[hd] at h;cases h;exact Nat.le_refl _
     | true =>
       rw[hd] at h;dsimp only[cond] at h;split at h;cases h;exact ih _ _ _ _ h;have:=ih _ _ _ _ h;simp only[List.length_append,List.length_singleton] at this;omega
end
mutual
def shN(d:Int):Nd->Nd
 | ⟨kind,name,unit,n,fr,to,known,CV,kids,a⟩=>⟨kind,name,unit,n,fr,to,known,CV,shL d kids,a+d⟩
def shL(d:Int):List Nd->List Nd
 | []=>[]
 | k::ks=>shN d k::shL d ks
end
def akY(l m:List Nd):V3 (l++m)=max (V3 l) (V3 m):=by
 induction l with
 | nil=>simp[V3]
 | cons a l ih=>simp only[List.cons_append,V3,ih];omega
end Mo
end Go.Proofs.YtpbkhogolfegfaaGreatDoor
namespace Go.Proofs.YtpbkhogolfegfaaGreatDoor
open AI Go
namespace Mo
set_option maxRecDepth 100000
set_option maxHeartbeats 4000000
section
variable {α β:Type} {st:Bool}
def LC(st:Bool)(m m':Rd α):Prop:=∀⦃l:List Tk⦄ ⦃a:α⦄ ⦃s:List Tk⦄,m l=some (.inl a,s)->∃c,l=c++s/\(st=true->c≠[])/\∀(p y:List Tk) (r:α⊕Dg) (s1:List Tk),s=p++y->m' (c++p)=some (r,s1)->r=.inl a/\s1=p
theorem LC.VS{m m':Rd α}(h:LC true m m'):LC st m m':=λ_ _ _ e=>by
 obtain⟨c,h1,h2,h3⟩:=h e;exact⟨c,h1,λ_=>h2 rfl,h3⟩
theorem LC.none{m m' m'':Rd α}(h:LC st m m')(h2:∀l,m'' l=none):LC st m m'':=λ_ _ _ e=>by
 obtain⟨c,h1,h3,_⟩:=h e;exact⟨c,h1,h3,λp y r s1 _ e=>by rw[h2] at e;cases e⟩
theorem sA{m m':Rd α}{K K':α->Rd β}{s1 s2:Bool}(h1:LC s1 m m')(h2:∀a,LC s2 (K a) (K' a))(h:st=true->s1=true\/s2=true):LC st (Ct m K) (Ct m' K'):=by
 intro l b s e;rcases IB e with ⟨a,t,e1,e2⟩ | ⟨d,_,e⟩
 rotate_left;cases e;obtain⟨c1,rfl,n1,k1⟩:=h1 e1;obtain⟨c2,rfl,n2,k2⟩:=h2 a e2;refine⟨c1++c2,(List.append_assoc ..).symm,λhs=>?_,?_⟩;rcases h hs with h | h
 simp[n1 h];simp[n2 h];rintro p y r s1 rfl e3;rw[List.append_assoc] at e3;have go:∀(r1:α⊕Dg) (t1:List Tk),m' (c1++(c2++p))=some (r1,t1)->r1=.inl a/\t1=c2++p:=λr1 t1 e=>k1 (c2++p) y r1 t1 (by rw[List.append_assoc]) e;rcases IB e3 with ⟨a',t',e4,e5⟩ | ⟨d',e4,rfl⟩
 obtain⟨h3,rfl⟩:=go _ _ e4;cases h3;exact k2 p y r s1 rfl e5;obtain⟨h3,_⟩:=go _ _ e4;cases h3
theorem BH{m m':Rd α}{K K':α->Rd β}(h1:LC true m m')(h2:∀a,LC false (K a) (K' a)):LC st (Ct m K) (Ct m' K'):=sA h1 h2 λ_=>.inl rfl
theorem amN{m m':Rd α}{K K':α->Rd β}(h1:LC false m m')(h2:∀a,LC false (K a) (K' a)):LC false (Ct m K) (Ct m' K'):=sA h1 h2 λh=>by cases h
theorem Da{a:α}:LC false (FT a) (FT a):=by
 intro l b s e;obtain⟨e1,rfl⟩:=KB e;cases e1;refine⟨[],rfl,(λh=>by cases h),λp y r s1 _ e=>?_⟩;obtain⟨rfl,rfl⟩:=KB e;exact⟨rfl,rfl⟩
theorem I8{e p:Int}{m':Rd α}:LC st (LX e p) m':=by
 intro l b s h;obtain⟨h,_⟩:=My h;cases h
theorem MX{X:Option β}{K K':β->Rd α}(h:∀b,X=some b->LC st (K b) (K' b)):LC st (Li X K) (Li X K'):=by
 intro l a s e;obtain⟨b,hb,e⟩:=IT e;obtain⟨c,h1,h2,h3⟩:=h b hb e;refine⟨c,h1,h2,λp y r s1 hs e2=>?_⟩;obtain⟨b',Ve,e2⟩:=IT e2;rw[hb] at Ve;cases Ve;exact h3 p y r s1 hs e2
theorem Yo{en en':Int}{K K':Tk->Rd α}(h:∀t,LC true (K t) (K' t)):LC st (TQ en K) (TQ en' K'):=by
 intro l a s e;cases l with
 | nil=>cases e
 | cons t l =>
   obtain⟨c,h1,h2,h3⟩:=h t e;refine⟨c,h1,λ_=>h2 rfl,λp y r s1 hs e2=>?_⟩;cases c with
   | nil=>exact absurd rfl (h2 rfl)
   | cons t' c =>
     cases h1;exact h3 p y r s1 hs e2
theorem Na{K K':Rd α}(h:LC false K K'):LC st (Ue K) (Ue K'):=by
 intro l a s e;cases l with
 | nil=>cases e
 | cons t l =>
   obtain⟨c,h1,_,h3⟩:=h e;exact⟨t::c,by rw[h1];rfl,λ_=>by simp,λp y r s1 hs e2=>h3 p y r s1 hs e2⟩
theorem Cm{b:Bool}{A A' B B':Rd α}(h1:LC st A A')(h2:LC st B B'):LC st (cond b A B) (cond b A' B'):=by cases b;exact h2;exact h1
theorem xG{x:ByteArray}{t:Tk}{l l':List Tk}:H9 x (t::l)=H9 x (t::l'):=rfl
theorem asU{x:ByteArray}{A A' B B':Rd α}(h1:LC true A A')(h2:LC st B B'):LC st (λs=>cond (H9 x s) (A s) (B s)) (λs=>cond (H9 x s) (A' s) (B' s)):=by
 intro l a s e;cases hx:H9 x l with
 | true =>
   dsimp only at e;rw[hx] at e;obtain⟨c,k1,k2,k3⟩:=h1 e;refine⟨c,k1,λ_=>k2 rfl,λp y r s1 hs e2=>?_⟩;cases c with
   | nil=>exact absurd rfl (k2 rfl)
   | cons t c =>
     rw[k1,List.cons_append] at hx;rw[List.cons_append] at e2;dsimp only at e2;rw[xG (l':=c++s),hx] at e2;exact k3 p y r s1 hs (by rw[List.cons_append];exact e2)
 | false =>
   dsimp only at e;rw[hx] at e;obtain⟨c,k1,k2,k3⟩:=h2 e;refine⟨c,k1,k2,λp y r s1 hs e2=>?_⟩
   have:H9 x (c++p)=false:=by
     rw[k1,hs,<- List.append_assoc] at hx;cases hc:c++p with
     | nil=>rfl
     | cons t q=>rw[hc] at hx;exact hx
   dsimp only at e2;rw[this] at e2;exact k3 p y r s1 hs e2
theorem R2{x:ByteArray}{A A' B B':Rd α}(h1:LC false A A')(h2:LC st B B'):LC st (Om x A B) (Om x A' B'):=asU (A:=Ue A) (A':=Ue A') (Na h1) h2
theorem Pl{n n':Nat}{m m':Rd α}(h:LC st m m'):LC st (Ol n m) (Ol n' m'):=by
 intro l a s e;obtain⟨c,h1,h2,h3⟩:=h (MB e).2;exact⟨c,h1,h2,λp y r s1 hs e2=>h3 p y r s1 hs (MB e2).2⟩
theorem iT{m m':Rd α}{F F':Nat->Rd α}{k k':List Tk->Nat}(h:∀n n',LC st (F n) (F' n'))(hm:m=λs=>F (k s) s)(hm':m'=λs=>F' (k' s) s):LC st m m':=by
 subst hm hm';intro l a s e;obtain⟨c,h1,h2,_⟩:=h (k l) 0 e;refine⟨c,h1,h2,λp y r s1 hs e2=>?_⟩;obtain⟨c',h1',_,h3⟩:=h (k l) (k' (c++p)) e;have:c'=c:=List.append_cancel_right (h1'.symm.trans h1);subst this;exact h3 p y r s1 hs e2
end
section
variable {en en':Int} {st:Bool}
theorem Mg{f:Tk->Option Bool}:LC st (Lb en f) (Lb en' f):=Yo λt=>MX λb _=>Cm (Na Da) I8
theorem GI{x:ByteArray}:LC st (I5 en x) (I5 en' x):=Mg
theorem Z4:LC st (Mh en) (Mh en'):=BH Mg λt=>MX λn _=>Da
theorem PW{least:Int}:LC st (LH en least) (LH en' least):=BH Z4 λp=>Cm I8 (Cm I8 Da)
theorem W4{least:Int}:LC st (Ra en least) (Ra en' least):=BH Mg λt=>MX λd _=>Cm (Cm I8 Da) I8
theorem amP:LC st (Uz en) (Uz en') :=
 BH GI λt=>BH PW λn=>BH GI λ_=>BH W4 λf=>R2 (BH W4 λu=>BH GI λ_=>BH W4 λk=>Da) (BH GI λ_=>BH W4 λk=>Da)
theorem sB:LC st (OV en) (OV en') :=
 Yo λt=>Na (BH Mg λm=>BH GI λ_=>BH Mg λu=>Cm (BH Mg λr=>MX λn _=>BH GI λ_=>Da) (BH GI λ_=>Da))
theorem Tb:LC st (FK en) (FK en'):=BH PW λp=>Da
theorem amR{read Qa:Rd Nd}(hr:LC true read Qa):∀(q q':Nat) (ns:List Nd),LC false (Nb read q ns) (Nb Qa q' ns):=by
 intro q
 induction q with
 | zero=>intro q' ns l a s e;cases e
 | succ q ih =>
   intro q' ns;cases q' with
   | zero =>
     refine LC.none (m':=Nb Qa 1 ns) ?_ (λ_=>rfl);exact R2 (BH hr λn=>Pl (ih 0 _)) Da
   | succ q'=>exact R2 (BH hr λn=>Pl (ih q' _)) Da
theorem dO{read Qa:Rd Nd}(hr:LC true read Qa):LC st (Rh read) (Rh Qa) :=
 BH hr λn=>iT (F:=λq=>Nb read q [n]) (F':=λq=>Nb Qa q [n]) (k:=λs=>s.length+1) (k':=λs=>s.length+1) (λq q'=>amR hr q q' [n]) rfl rfl
theorem Yq:LC st (M6 en) (M6 en'):=BH Mg λt=>MX λd _=>Cm (Cm Da I8) Da
theorem amS:LC st (US en) (US en'):=BH Mg λt=>Cm Da Da
theorem Z6{Ax a b:Int}:LC st (Ny en Ax a b) (Ny en' Ax a b):=BH amS λs=>BH PW λm=>BH GI λ_=>BH PW λd=>MX λg _=>MX λz _=>Cm I8 Da
theorem Z5{Ax a:Int}:LC st (Mj en Ax a) (Mj en' Ax a):=BH GI λ_=>R2 (BH Yq λa=>Z6) (BH Yq λa=>Z6)
theorem iU{before:List Pt}{Ax:Int}:LC st (QR en before Ax) (QR en' before Ax):=BH Yq λv=>Cm (Cm Z5 I8) (MX λq _=>Cm I8 (Cm I8 Z5))
theorem wC:∀(q q':Nat) (l:List Pt) (k:Int) {st:Bool},LC st (Jq en q l k) (Jq en' q' l k):=by
 intro q
 induction q with
 | zero=>intro q' l k st _ _ _ e;cases e
 | succ q ih =>
   intro q' l k st;cases q' with
   | zero =>
     refine LC.none (m':=Jq en' 1 l k) ?_ (λ_=>rfl);exact BH iU λp=>Pl (R2 (ih 0 _ _) Da)
   | succ q'=>exact BH iU λp=>Pl (R2 (ih q' _ _) Da)
theorem wD{k p:Int}:∀(l:List Pt) (acc:List Pc),LC false (LN k p l acc) (LN k p l acc):=by
 intro l
 induction l with
 | nil=>intro acc;exact Da
 | cons x l ih=>intro acc;exact MX λz _=>Cm I8 (Cm I8 (Pl (ih _)))
theorem sC{α:Type}{yes akD:ByteArray->Rd α}{no no':Rd α}(h1:∀x,LC false (yes x) (akD x))(h2:LC st no no'):∀ops:List ByteArray,LC st (jG yes no ops) (jG akD no' ops)
 | []=>h2
 | x::ops=>R2 (h1 x) (sC h1 h2 ops)
theorem Yp{sub WJ:Rd Nd}(h:LC true sub WJ){op:ByteArray}{l:Nd}:LC st (Pz en sub op l) (Pz en' WJ op l):=BH (Cm Tb h) λr=>MX λb _=>Da
theorem adX{ops:List ByteArray}{sub WJ:Rd Nd}(h:LC true sub WJ):∀(q q':Nat) (l:Nd),LC false (I4 en ops sub q l) (I4 en' ops WJ q' l):=by
 intro q
 induction q with
 | zero=>intro q' l _ _ _ e;cases e
 | succ q ih =>
   intro q' l;cases q' with
   | zero =>
     refine LC.none (m':=I4 en' ops WJ 1 l) ?_ (λ_=>rfl);exact sC (λop=>BH (Yp h) λb=>ih 0 b) Da ops
   | succ q'=>exact sC (λop=>BH (Yp h) λb=>ih q' b) Da ops
structure LCE(g g':Ek->Rd Nd)(li li':Rd (List Nd)):Prop where
 lg:∀e,LC true (g e) (g' e)
 ll:LC true li li'
section
variable {g g':Ek->Rd Nd} {li li':Rd (List Nd)} (A:LCE g g' li li')
include A
theorem aeB:LC st (TX en g) (TX en' g') :=
 BH GI λt=>BH GI λ_=>BH (A.lg .ex) λa=>BH GI λ_ =>
   BH (iT (F:=λq=>Jq en q [] 1) (F':=λq=>Jq en' q [] 1) (k:=λs=>s.length+1) (k':=λs=>s.length+1) (λq q'=>wC q q' [] 1) rfl rfl) λl=>BH GI λe=>Pl (amN (wD _ _) λr=>Da)
theorem amO:LC st (Ur en g li) (Ur en' g' li') :=
 Yo λt=>Na (BH GI λ_=>BH (A.lg .ex) λa=>BH GI λ_=>BH A.ll λl=>Pl (BH GI λ_=>Da))
theorem amT{t:Tk}:LC true (Rm en g t) (Rm en' g' t) :=
 Cm (Na Da)<|Cm (Na Da)<|Cm (Na (BH PW λp=>Da))<|Cm (Na Da)<|Cm (Na Da)<|Cm (Na Da)<|Cm (Na Da) <|
 Cm (A.lg .ca)<|Cm (A.lg .ca)<|Cm (A.lg .ta)<|Cm (Na (BH (A.lg .ex) λa=>BH GI λ_=>Da)) I8
theorem amM:LC st (V1 en g) (V1 en' g') :=
 Yo λt=>Cm (BH Z4 λn=>R2 Da Da) (Cm (Na (BH Mg λa=>MX λc _=>Da)) (MX λb _=>Cm (Na Da) (A.lg (.wd t))))
theorem adZ(i:Nat):LC st (MY en g i) (MY en' g' i) :=
 BH (A.lg _) λl=>iT (F:=λq=>I4 en (opsOf i) (g (.lv (i+1))) q l) (F':=λq=>I4 en' (opsOf i) (g' (.lv (i+1))) q l) (k:=λs=>s.length+1) (k':=λs=>s.length+1) (λq q'=>adX (A.lg _) q q' l) rfl rfl
theorem adY:LC st (XO en g) (XO en' g'):=BH (A.lg _) λl=>sC (λop=>Yp (A.lg _)) Da _
theorem axN:LC true (Wy en g) (Wy en' g'):=asU (BH GI λt=>BH (A.lg _) λk=>Da) (A.lg (.lv 3))
theorem sD:∀e,LC true (Ou en g li e) (Ou en' g' li' e):=by
 intro e;cases e with
 | ex=>exact A.lg (.lv 0)
 | at_=>exact amM A
 | wd t=>exact amT A
 | ca=>exact amO A
 | ta=>exact aeB A
 | lv i =>
   unfold Ou;split;rename_i h;cases h;exact axN A;exact adY A;exact A.lg .at_;rename_i h;cases h;exact adZ A _
   all_goals (rename_i h;cases h)
end
theorem axM:∀q q':Nat,LCE (gP en q).1 (gP en' q').1 (gP en q).2 (gP en' q').2:=by
 intro q
 induction q with
 | zero =>
   intro q';constructor;intro e _ _ _ h;cases h;intro _ _ _ h;cases h
 | succ q ih =>
   intro q';cases q' with
   | zero=>exact⟨λe=>(sD (en':=en') (ih 0) e).none λ_=>rfl,(dO ((ih 0).lg .ex)).none λ_=>rfl⟩
   | succ q'=>exact⟨sD (ih q'),dO ((ih q').lg .ex)⟩
theorem aCY:LC st (KZ en) (KZ en'):=LC.VS (iT (F:=λq=>(gP en q).1 .ex) (F':=λq=>(gP en' q).1 .ex) (k:=λl=>10*l.length+11) (k':=λl=>10*l.length+11) (λq q'=>(axM q q').lg .ex) rfl rfl)
theorem Vt(kind:Int):LC st (IG en (KZ en) kind) (IG en' (KZ en') kind) :=
 Yo λt=>Na (Cm (BH (dO Tb) λl=>BH GI λ_=>Da) (BH aCY λe=>BH GI λ_=>Da))
theorem aeA{mk:List Nd->Nd}:∀(q q':Nat) (ns:List Nd) (un am:Bool) {st:Bool},LC st (Gq en (KZ en) mk q ns un am) (Gq en' (KZ en') mk q' ns un am):=by
 intro q
 induction q with
 | zero=>intro q' ns un am st _ _ _ e;cases e
 | succ q ih =>
   have go:∀(q':Nat) (ns:List Nd) (un am:Bool) {st:Bool},LC st (Gq en (KZ en) mk (q+1) ns un am) (Gq en' (KZ en') mk (q'+1) ns un am):=λq' ns un am st =>
     Yo λt=>Cm (BH (Vt _) λc=>Pl (ih q' _ _ _))<|Cm (Cm I8 (BH (Vt _) λc=>Pl (ih q' _ _ _)))<|Cm (Cm I8 (BH (Vt _) λc=>Pl (ih q' _ _ _)))<|Cm (Cm (Na Da) I8) I8
   intro q' ns un am st;cases q' with
   | zero=>exact(go 0 ns un am).none λ_=>rfl
   | succ q'=>exact go q' ns un am
theorem oM:LC st (JG en (KZ en)) (JG en' (KZ en')) :=
 BH GI λt=>BH PW λn=>BH GI λ_=>BH Mg λm=>BH amP λh=>BH GI λ_ =>
   iT (F:=λq=>Gq en (KZ en) (λl=>Fo 4 m.text bE n.1 l t.AH) q [h] false false) (F':=λq=>Gq en' (KZ en') (λl=>Fo 4 m.text bE n.1 l t.AH) q [h] false false) (k:=λs=>s.length+1) (k':=λs=>s.length+1) (λq q'=>aeA q q' _ _ _) rfl rfl
theorem amQ:LC st (NY en (KZ en)) (NY en' (KZ en')):=Yo λt=>Cm sB (Cm sB (Cm oM I8))
end
end Mo
end Go.Proofs.YtpbkhogolfegfaaGreatDoor
