/- Part of a proof: see the last text. -/
import Derived.Test.YtpbkhogolfegfaaGreatDoorPis
set_option linter.unusedVariables false
set_option linter.unusedSimpArgs false
set_option linter.defProp false
noncomputable section
namespace Go.Proofs.YtpbkhogolfegfaaGreatDoor
open AI Go LexS
namespace Mo
set_option maxRecDepth 100000
def Vh{m:Nat}{t:List UInt8}(h:GQ m t=true):∃c u,t=c::u/\cin m c=true:=by
 cases t with
 | nil=>cases h
 | cons c u=>exact⟨c,u,rfl,h⟩
def Th:∀(t:List UInt8) (ys:List (List UInt8)),(Lv t ys).1=0\/(Lv t ys).1=6
 | _,[]=>.inl rfl
 | t,y::ys=>by
   unfold Lv;split;exact .inr rfl;exact Th t ys
def adh{t:List UInt8}(h:GQ 8 t=true):1<=Be 8 t:=by
 obtain⟨c,u,rfl,hc⟩:=Vh h;rw[Dt,if_pos hc];omega
def wH{t:List UInt8}(h:EP t=true):∃c0 c1 c2 c3 c5 c6 c8 c9,t.take 10=[c0,c1,c2,c3,45,c5,c6,45,c8,c9]/\Tt c0/\Tt c1/\Tt c2/\Tt c3/\Tt c5/\Tt c6/\Tt c8/\Tt c9:=by
 unfold EP at h;rw[Bool.and_eq_true] at h;obtain⟨hl,h⟩:=h;have hl:=of_decide_eq_true hl;have hd:=λi hi=>List.all_eq_true.1 h i (List.mem_range.2 hi)
 match t,hl with
 | c0::c1::c2::c3::c4::c5::c6::c7::c8::c9::u,_ =>
   have e4:c4=45:=by have:=hd 4 (by decide);simpa[FR] using this
   have e7:c7=45:=by have:=hd 7 (by decide);simpa[FR] using this
   have g:∀(i:Nat) (c:UInt8) (v:List UInt8),i < 10->i≠4->i≠7->(c0::c1::c2::c3::c4::c5::c6::c7::c8::c9::u).drop i=c::v->Tt c:=by
     intro i c v h1 h4 h7 h;have:=hd i h1;unfold FR at this;rw[if_neg (by omega),h] at this;exact aeZ this
   subst e4 e7
   exact⟨c0,c1,c2,c3,c5,c6,c8,c9,rfl,g 0 _ _ (by decide) (by decide) (by decide) rfl,g 1 _ _ (by decide) (by decide) (by decide) rfl,g 2 _ _ (by decide) (by decide) (by decide) rfl,g 3 _ _ (by decide) (by decide) (by decide) rfl,
     g 5 _ _ (by decide) (by decide) (by decide) rfl,g 6 _ _ (by decide) (by decide) (by decide) rfl,g 8 _ _ (by decide) (by decide) (by decide) rfl,g 9 _ _ (by decide) (by decide) (by decide) rfl⟩
def oJ{t:List UInt8}(h1:(t.drop (Be 8 t)).head?=some 46)(h2:GQ 8 (t.drop (Be 8 t+1))=true)(h3:GQ 8 (t.drop (Be 8 t+2))=true) :
   ∃x y,t.take (Be 8 t+3)=t.take (Be 8 t)++46::[x,y]/\Tt x/\Tt y:=by
 obtain⟨x,u,hx,hx2⟩:=Vh h2;obtain⟨y,v,hy,D6⟩:=Vh h3;generalize hd:Be 8 t=d at *
 have e1:t.drop d=46::t.drop (d+1):=by
   cases hq:t.drop d with
   | nil=>rw[hq] at h1;cases h1
   | cons a b =>
     rw[hq] at h1;have:t.drop (d+1)=b:=by rw[<- List.drop_drop,hq];rfl
     rw[this];simp only[List.head?_cons,Option.some.injEq] at h1;rw[h1]
 have e2:t.drop (d+1)=x::t.drop (d+2):=by
   rw[hx,show d+2=(d+1)+1 from rfl,<- List.drop_drop,hx];rfl
 refine⟨x,y,?_,aeZ hx2,aeZ D6⟩;rw[List.take_add,e1,e2,hy];rfl
def adF{t:List UInt8}{o:Nat}(ht:t.length<=6000)(h:(A2 t).1≠0):Gd (IP ((A2 t).1,t.take (A2 t).2,o)):=by
 have hlen:(t.take (A2 t).2).length<=6000:=by rw[List.length_take];omega
 have hlen:(IP ((A2 t).1,t.take (A2 t).2,o)).text.data.toList.length<=6000:=hlen
 have other:(A2 t).1≠3->(A2 t).1≠4->(A2 t).1≠5->Gd (IP ((A2 t).1,t.take (A2 t).2,o)):=by
   intro h3 h4 h5;refine⟨λh=>?_,λh=>?_,λh=>?_,hlen⟩;have:(((A2 t).1:Nat):Int)=3:=h;omega;have:(((A2 t).1:Nat):Int)=3\/(((A2 t).1:Nat):Int)=4:=h;omega;have:(((A2 t).1:Nat):Int)=5:=h;omega
 by_cases c2:GQ 2 t=true;refine other ?_ ?_ ?_<;>(unfold A2;rw[if_pos c2];split<;>simp)
 by_cases c4:GQ 4 t=true;refine other ?_ ?_ ?_<;>(unfold A2;rw[if_neg c2,if_pos c4];split<;>simp)
 by_cases c8:GQ 8 t=true;rotate_left;have:A2 t=Lv t Gj:=by unfold A2;rw[if_neg c2,if_neg c4,if_neg c8]
 rcases Th t Gj with h1 | h1
 rw[this] at h;exact absurd h1 h;rw[<- this] at h1;exact other (by omega) (by omega) (by omega);have hr:A2 t=GI t:=by unfold A2;rw[if_neg c2,if_neg c4,if_pos c8]
 have hp:=adh c8;have hsp:=ZA 8 t;rw[hr] at h hlen ⊢;unfold GI at h hlen ⊢;dsimp only at h hlen ⊢;by_cases hd:EP t=true;rw[if_pos hd] at h hlen ⊢;split at h;rename_i hf;rw[if_pos hf] at hlen ⊢;refine⟨λh=>?_,λh=>?_,λh=>?_,hlen⟩;have:(((5:Nat)):Int)=3:=h;omega;have:(((5:Nat)):Int)=3\/((5:Nat):Int)=4:=h;omega;obtain⟨c0,c1,c2,c3,c5,c6,c8,c9,h0,a0,a1,a2,a3,a5,a6,a8,a9⟩:=wH hd;dsimp only[IP];rw[h0];exact wI a0 a1 a2 a3 a5 a6 a8 a9;exact absurd rfl h;rw[if_neg hd] at h hlen ⊢;by_cases h0:t.head?=some 48/\1 < Be 8 t;rw[if_pos h0] at h;exact absurd rfl h;rw[if_neg h0] at h hlen ⊢;by_cases h1:(t.drop (Be 8 t)).head?=some 46;rw[if_pos h1] at h hlen ⊢;by_cases h2:10 < Be 8 t\/GQ 8 (t.drop (Be 8 t+1))=false\/GQ 8 (t.drop (Be 8 t+2))=false;rw[if_pos h2] at h;exact absurd rfl h;rw[if_neg h2] at h hlen ⊢;split at h;rename_i hf;rw[if_pos hf] at hlen ⊢;refine⟨λh=>?_,λ_=>?_,λh=>?_,hlen⟩;have:(((4:Nat)):Int)=3:=h;omega;simp only[not_or,Bool.not_eq_false] at h2;obtain⟨x,y,e,hx,hy⟩:=oJ h1 h2.2.1 h2.2.2;dsimp only[IP];rw[e];have hs:=mI t;refine bC (m:=t.take (Be 8 t)++[x,y]) (acJ hs) ?_ (by simp) ?_ ?_;simp only[List.length_append,List.length_take,List.length_cons,List.length_nil];omega;simp only[List.length_append,List.length_take,List.length_cons,List.length_nil];omega;intro c hc;rcases List.mem_append.1 hc with hc | hc
 exact hs c hc;simp only[List.mem_cons,List.not_mem_nil,or_false] at hc;rcases hc with rfl | rfl
 exact hx;exact hy;have:(((4:Nat)):Int)=5:=h;omega;exact absurd rfl h;rw[if_neg h1] at h hlen ⊢;by_cases h2:12 < Be 8 t;rw[if_pos h2] at h;exact absurd rfl h;rw[if_neg h2] at h hlen ⊢;split at h;rename_i hf;rw[if_pos hf] at hlen ⊢;have hs:=mI t
 have KE:t.take (Be 8 t)≠[]:=λe=>by
   have:=congrArg List.length e;rw[List.length_take,List.length_nil] at this;omega
 refine⟨λh=>?_,λ_=>?_,λh=>?_,hlen⟩;exact Ym KE (by rw[List.length_take];omega) hs;exact bC (agm hs) (by rw[List.length_take];omega) KE (by rw[List.length_take];omega) hs;have:(((3:Nat)):Int)=5:=h;omega;exact absurd rfl h
def dN:∀(n o:Nat) (t:List UInt8) (x:Tok),x∈IG n o t->x.1≠0->∃u o',u.length<=t.length/\(A2 u).1≠0/\x=((A2 u).1,u.take (A2 u).2,o'):=by
 intro n
 induction n with
 | zero=>intro o t x h;cases h
 | succ n ih =>
   intro o t x h h0;unfold IG at h;split at h;cases h;split at h;rw[List.mem_singleton.1 h] at h0;exact absurd rfl h0;rename_i hr;rcases List.mem_cons.1 h with rfl | h
   exact⟨t,o,Nat.le_refl _,hr,rfl⟩;obtain⟨u,o',h1,h2⟩:=ih _ _ _ h h0;refine⟨u,o',Nat.le_trans h1 ?_,h2⟩;simp only[List.length_drop];omega
def Y8:∀(l acc:List Tok),acc.length<=2000->(DW acc l).1.length<=2000/\∀x∈(DW acc l).1,x∈acc\/x∈l/\x.1≠0:=by
 intro l
 induction l with
 | nil=>intro acc h;exact⟨h,λx hx=>.inl hx⟩
 | cons y l ih =>
   intro acc h;unfold DW;split;exact⟨Nat.zero_le _,λx hx=>by cases hx⟩;split;exact⟨Nat.zero_le _,λx hx=>by cases hx⟩;rename_i h1 h2;obtain⟨a,b⟩:=ih (acc++[y]) (by simp only[List.length_append,List.length_singleton];omega);refine⟨a,λx hx=>?_⟩;rcases b x hx with hx | ⟨hx,h0⟩
   rcases List.mem_append.1 hx with hx | hx
   exact .inl hx;rw[List.mem_singleton.1 hx];exact .inr ⟨List.mem_cons_self ..,h2⟩;exact .inr ⟨List.mem_cons_of_mem _ hx,h0⟩
def Mt(s:ByteArray):Gl (D3 s)/\(D3 s).length<=2000:=by
 unfold D3 Lt;split;refine⟨?_,Nat.zero_le _⟩;intro t ht;cases ht;rename_i hs;obtain⟨a,b⟩:=Y8 (Dl s.data.toList) [] (Nat.zero_le _);refine⟨?_,by rw[List.length_map];exact a⟩;intro t ht;obtain⟨x,hx,rfl⟩:=List.mem_map.1 ht;rcases b x hx with hx | ⟨hx,h0⟩
 cases hx;obtain⟨u,o',h1,h2,rfl⟩:=dN _ _ _ x hx h0;rw[List.length_drop] at h1;exact adF (by omega) h2
end Mo
end Go.Proofs.YtpbkhogolfegfaaGreatDoor
namespace Go.Proofs.YtpbkhogolfegfaaGreatDoor
open AI Go
namespace Mo
set_option maxRecDepth 100000
section
variable {α β:Type} {c:Nat} {f:α->Nat} {g:β->Nat}
def SU(c:Nat)(f:α->Nat)(m:Rd α):Prop:=∀⦃l:List Tk⦄ ⦃a:α⦄ ⦃s:List Tk⦄,m l=some (.inl a,s)->f a+s.length<=l.length+c
def BJ{m:Rd α}{K:α->Rd β}(h1:SU c f m)(h2:∀a,SU (f a) g (K a)):SU c g (Cw m K):=by
 intro l b s h;rcases Jn h with ⟨a,s',e1,e2⟩ | ⟨d,_,h⟩
 have a1:=h1 e1;have a2:=h2 a e2;omega;cases h
def Eg{a:α}(h:f a<=c):SU c f (FX a):=by
 intro l b s e;obtain⟨e1,rfl⟩:=LS e;cases e1;omega
def Jg{e p:Int}:SU c f (M8 e p):=by
 intro l b s h;obtain⟨h,_⟩:=Nt h;cases h
def Np{X:Option β}{K:β->Rd α}(h:∀b,X=some b->SU c f (K b)):SU c f (L5 X K):=by
 intro l a s e;obtain⟨b,hb,e⟩:=Jq e;exact h b hb e
def ZC{en:Int}{K:Tk->Rd α}(h:∀t,SU c f (K t)):SU c f (Vz en K):=by
 intro l a s e;cases l with
 | nil=>cases e
 | cons t l=>exact h t e
def SW{K:Rd α}(h:SU (c+1) f K):SU c f (VV K):=by
 intro l a s e;cases l with
 | nil=>cases e
 | cons t l=>have:=h (l:=l) e;simp only[List.length_cons];omega
def Cl{b:Bool}{A B:Rd α}(h1:SU c f A)(h2:SU c f B):SU c f (cond b A B):=by cases b;exact h2;exact h1
def Wt{x:ByteArray}{A B:Rd α}(h1:SU (c+1) f A)(h2:SU c f B):SU c f (OI x A B):=by
 intro l a s e;unfold OI at e;cases hx:JC x l with
 | true=>rw[hx] at e;exact SW h1 e
 | false=>rw[hx] at e;exact h2 e
def Ws{n:Nat}{m:Rd α}(h:SU c f m):SU c f (O4 n m):=λ_ _ _ e=>h (Om e).2
def SU.le{c':Nat}{m:Rd α}(h:SU c f m)(hc:c<=c'):SU c' f m:=λ_ _ _ e=>by have:=h e;omega
end
section
variable {c:Nat} {en:Int}
def MI{f:Tk->Option Bool}:SU c (λ_=>c+1) (LX en f):=ZC λt=>Np λb _=>Cl (SW (Eg (Nat.le_refl _))) Jg
def G3{x:ByteArray}:SU c (λ_=>c+1) (JT en x):=MI
def cU:SU c (λ_=>c+1) (NL en):=BJ MI λt=>Np λn _=>Eg (Nat.le_refl _)
def QL{least:Int}:SU c (λ_=>c+1) (Mr en least):=BJ cU λp=>Cl Jg (Cl Jg (Eg (Nat.le_refl _)))
def X0{least:Int}:SU c (λ_=>c+1) (Sy en least):=BJ MI λt=>Np λd _=>Cl (Cl Jg (Eg (Nat.le_refl _))) Jg
def ID(k:Int)(nm u:ByteArray)(n:Int)(ks:List Nd)(p:Int):DG (Ff k nm u n ks p)=1+Gk ks:=rfl
def Pn(n:Nd):Gk [n]=DG n:=by simp[Gk]
def QP(l m:List Nd):Gk (l++m)=Gk l+Gk m:=by
 induction l with
 | nil=>simp[Gk]
 | cons a l ih=>simp only[List.cons_append,Gk,ih];omega
def agR:SU c (λn=>DG n+c) (WU en) :=
 BJ G3 λt=>BJ QL λn=>BJ G3 λ_=>BJ X0 λf =>
   Wt (BJ X0 λu=>BJ G3 λ_=>BJ X0 λk=>Eg (by show 1+Gk []+c<=_;simp only[Gk];omega)) (BJ G3 λ_=>BJ X0 λk=>Eg (by show 1+Gk []+c<=_;simp only[Gk];omega))
def uS:SU c (λn=>DG n+c) (Sz en) :=
 ZC λt=>SW (BJ MI λm=>BJ G3 λ_=>BJ MI λu=>Cl (BJ MI λr=>Np λn _=>BJ G3 λ_=>Eg (by rw[ID];simp only[Gk];omega)) (BJ G3 λ_=>Eg (by rw[ID];simp only[Gk];omega)))
def TP:SU c (λn=>DG n+c) (GA en):=BJ QL λp=>Eg (by rw[ID];simp only[Gk];omega)
def agT{read:Rd Nd}(hr:∀c,SU c (λn=>DG n+c) read):∀(q:Nat) (ns:List Nd) (c:Nat),SU (Gk ns+c) (λr=>Gk r+c) (RU read q ns):=by
 intro q
 induction q with
 | zero=>intro ns c l a s h;cases h
 | succ q ih =>
   intro ns c;refine Wt (BJ (hr _) λn=>Ws ((ih (ns++[n]) c).le ?_)) (Eg (Nat.le_refl _));rw[QP,Pn];omega
def uT{read:Rd Nd}(hr:∀c,SU c (λn=>DG n+c) read):SU c (λr=>Gk r+c) (SG read) :=
 BJ (hr c) λn l a s h=>by
   have:=agT hr _ [n] c h;rw[Pn] at this;exact this
def ZD:SU c (λ_=>c+1) (OR en):=BJ MI λt=>Np λd _=>Cl (Cl (Eg (Nat.le_refl _)) Jg) (Eg (Nat.le_refl _))
def agU:SU c (λ_=>c+1) (Xd en):=BJ MI λt=>Cl (Eg (Nat.le_refl _)) (Eg (Nat.le_refl _))
def cW{Az a b:Int}:SU c (λ_=>c) (Ph en Az a b):=BJ agU λs=>BJ QL λm=>BJ G3 λ_=>BJ QL λd=>Np λg _=>Np λz _=>Cl Jg (Eg (by omega))
def SU.imp{α:Type}{f f':α->Nat}{m:Rd α}(h:SU c f m)(hf:∀a,f' a<=f a):SU c f' m:=λ_ a _ e=>by have:=h e;have:=hf a;omega
def cV{Az a:Int}:SU c (λ_=>c) (NS en Az a):=BJ G3 λ_=>Wt (BJ ZD λa=>cW.imp λ_=>by omega) (BJ ZD λa=>cW.imp λ_=>by omega)
def adp{before:List Pt}{Az:Int}:SU c (λ_=>c) (SK en before Az):=BJ ZD λv=>Cl (Cl (cV.imp λ_=>by omega) Jg) (Np λq _=>Cl Jg (Cl Jg (cV.imp λ_=>by omega)))
def yM:∀(q:Nat) (l:List Pt) (k:Int) (c:Nat),SU c (λ_=>c) (MA en q l k):=by
 intro q
 induction q with
 | zero=>intro l k c _ _ _ h;cases h
 | succ q ih=>intro l k c;exact BJ adp λp=>Ws (Wt ((ih _ _ _).imp λ_=>by omega) (Eg (Nat.le_refl _)))
def yN{k p:Int}:∀(l:List Pt) (acc:List Pc),SU c (λ_=>c) (MG k p l acc):=by
 intro l
 induction l with
 | nil=>intro acc;exact Eg (Nat.le_refl _)
 | cons x l ih=>intro acc;exact Np λz _=>Cl Jg (Cl Jg (Ws (ih _)))
def wA{op:ByteArray}{l r x:Nd}(h:Bb op l r=some x):DG x=1+DG l+DG r:=by
 unfold Bb at h;revert h;have e1:∀(nm:ByteArray) (a b:Nd) (p:Int),DG (⟨16,nm,ByteArray.empty,0,0,0,0,⟨0,[]⟩,[a,b],p⟩:Nd)=1+DG a+DG b:=by intro nm a b p;simp only[DG,Gk];omega
 cases BY op.data.toList IS.data.toList;cases BY op.data.toList FG.data.toList;intro h1;cases h1;exact e1 _ _ _ _;cases J5 op IS JL 1 with
 | none=>intro h1;cases h1
 | some y=>intro h1;cases h1;rw[e1];omega
 cases J5 op IS JL 1 with
 | none=>intro h1;cases h1
 | some y=>intro h1;cases h1;rw[e1];omega
def aiL{α:Type}{f:α->Nat}{yes:ByteArray->Rd α}{no:Rd α}(h1:∀x,SU (c+1) f (yes x))(h2:SU c f no):∀ops:List ByteArray,SU c f (n5 yes no ops):=by
 intro ops
 induction ops with
 | nil=>exact h2
 | cons x ops ih=>exact Wt (h1 x) ih
def mM{sub:Rd Nd}(h:∀c,SU c (λn=>DG n+c) sub)(op:ByteArray)(l:Nd):SU (DG l+c+1) (λn=>DG n+c) (Rr en sub op l) :=
 BJ (Cl TP (h _)) λr=>Np λx hx=>Eg (by rw[wA hx];omega)
def adn{ops:List ByteArray}{sub:Rd Nd}(h:∀c,SU c (λn=>DG n+c) sub):∀(q:Nat) (l:Nd) (c:Nat),SU (DG l+c) (λn=>DG n+c) (LA en ops sub q l):=by
 intro q
 induction q with
 | zero=>intro l c _ _ _ h;cases h
 | succ q ih=>intro l c;exact aiL (λx=>BJ (mM h x l) λb=>ih b c) (Eg (Nat.le_refl _)) ops
structure Siz(g:Ek->Rd Nd)(li:Rd (List Nd)):Prop where
 sg:∀e c,SU c (λn=>DG n+c) (g e)
 sli:∀c,SU c (λr=>Gk r+c) li
def agM:∀q:Nat,Siz (gP en q).1 (gP en q).2:=by
 intro q
 induction q with
 | zero =>
   constructor;intro e c _ _ _ h;cases h;intro c _ _ _ h;cases h
 | succ q A =>
   refine⟨λe c=>?_,λc=>uT (A.sg .ex)⟩;show SU c (λn=>DG n+c) (Pm en (gP en q).1 (gP en q).2 e);have lv:∀i,SU c (λn=>DG n+c) (Ol en (gP en q).1 i):=λi=>BJ (A.sg _ _) λN l a s h=>adn (A.sg _) _ N c h;unfold Pm;split;exact A.sg _ _
   . intro l a s h
     unfold Zg at h;cases hx:JC Vq l with
     | true =>
       rw[hx] at h;exact BJ (g:=λn=>DG n+c) G3 (λt=>BJ (A.sg _ _) λk=>Eg (by rw[ID,Pn];omega)) h
     | false=>rw[hx] at h;exact A.sg _ _ h
   exact BJ (A.sg _ _) λN=>aiL (λx=>mM (A.sg _) x N) (Eg (Nat.le_refl _)) _;exact A.sg _ _;exact lv _;refine ZC λt=>Cl (BJ cU λn=>Wt (Eg (by rw[ID];simp only[Gk];omega)) (Eg (by rw[ID];simp only[Gk];omega))) (Cl (SW (BJ MI λa=>Np λz _=>Eg (by rw[ID];simp only[Gk];omega))) (Np λb _=>Cl (SW (Eg (by rw[ID];simp only[Gk];omega))) (A.sg _ _)));have one:∀(k:Int) (nm u:ByteArray) (n p:Int),SU c (λn=>DG n+c) (VV (FX (Ff k nm u n [] p))):=λ_ _ _ _ _=>SW (Eg (by rw[ID];simp only[Gk];omega))
   exact Cl (one _ _ _ _ _) (Cl (one _ _ _ _ _) (Cl (SW (BJ QL λp=>Eg (by rw[ID];simp only[Gk];omega))) (Cl (one _ _ _ _ _) (Cl (one _ _ _ _ _) (Cl (one _ _ _ _ _) (Cl (one _ _ _ _ _) (Cl (A.sg _ _) (Cl (A.sg _ _) (Cl (A.sg _ _)
     (Cl (SW (BJ (A.sg _ _) λa=>BJ G3 λ_=>Eg (by omega))) Jg))))))))))
   exact ZC λt=>SW (BJ G3 λ_=>BJ (A.sg _ _) λa=>BJ G3 λ_=>BJ (A.sli _) λl=>Ws (BJ G3 λ_=>Eg (by rw[ID];simp only[Gk];omega)));exact BJ G3 λt=>BJ G3 λ_=>BJ (A.sg _ _) λa=>BJ G3 λ_=>BJ (λl a s h=>yM _ _ _ _ h) λl=>BJ G3 λe=>Ws (BJ (yN _ _) λr=>Eg (by show 1+Gk [a]+c<=DG a+(c+1+1)+1+1;rw[Pn];omega))
def aiK:SU c (λn=>DG n+c) (Nf en):=λ_ _ _ h=>(agM _).sg .ex c h
def yL(kind:Int):SU c (λn=>DG n+c) (IM en (Nf en) kind) :=
 ZC λt=>SW (Cl (BJ (uT λc=>TP) λl=>BJ G3 λ_=>Eg (by rw[ID];omega)) (BJ aiK λe=>BJ G3 λ_=>Eg (by rw[ID,Pn];omega)))
def ado{mk:List Nd->Nd}(hm:∀l,DG (mk l)=1+Gk l):∀(q:Nat) (ns:List Nd) (un am:Bool) (c:Nat),SU (Gk ns+c+1) (λn=>DG n+c) (Iy en (Nf en) mk q ns un am):=by
 intro q
 induction q with
 | zero=>intro ns un am c _ _ _ h;cases h
 | succ q ih =>
   intro ns un am c
   have go:∀(kind:Int) (iV iM:Bool),SU (Gk ns+c+1) (λn=>DG n+c) (Cw (IM en (Nf en) kind) λx=>O4 (ns.length+1) (Iy en (Nf en) mk q (ns++[x]) iV iM)):=λkind iV iM =>
     BJ (yL kind) λx=>Ws ((ih (ns++[x]) iV iM c).le (by rw[QP,Pn];omega))
   exact ZC λt=>Cl (go _ _ _) (Cl (Cl Jg (go _ _ _)) (Cl (Cl Jg (go _ _ _)) (Cl (Cl (SW (Eg (by rw[hm];omega))) Jg) Jg)))
def agS:SU c (λn=>DG n+c) (Qk en (Nf en)) :=
 ZC λt=>Cl uS (Cl uS (Cl (BJ G3 λt=>BJ QL λn=>BJ G3 λ_=>BJ MI λm=>BJ agR λh=>BJ G3 λ_=>λl a s e=>by
   have:=ado (λl=>rfl) _ [h] false false c e;rw[Pn] at this;dsimp only at this ⊢;omega) Jg))
end
def ad7(a b:Nat):alz (a:Int) (b:Int)=((max a b:Nat):Int):=by
 unfold alz;split<;>omega
def ajk:∀n:Nd,Nh n<=DG n:=by
 intro n
 have key:∀(q:Nat) (n:Nd),DG n<=q->Nh n<=DG n:=by
   intro q
   induction q with
   | zero=>intro n h;rw[E6] at h;omega
   | succ q ih =>
     intro n h;rw[Ob,E6];have:UK n.kids<=Gk n.kids:=Yz.2 λk hk=>Nat.le_trans (ih k (by have:=Ti hk;omega)) (LW hk);omega
 exact key _ n (Nat.le_refl _)
def xG:∀(q:Nat) (n:Nd),DG n<=q->DG n<=1000000->Dv q n=some (((DG n:Nat):Int),((Nh n:Nat):Int)):=by
 intro q
 induction q with
 | zero=>intro n h;have:=E6 n;omega
 | succ q ih =>
   intro n hq hz;have Qi:=E6 n;rw[Dv,Ki];rw[show RT n.kids.length=λy:Option ((Int×Int)⊕(Int×Int))=>y from funext λy=>if_pos (by have:=MJ n.kids;omega),List.drop_zero]
   have key:∀(m:List Nd),(∀k∈m,k∈n.kids)->∀(i c d:Nat),c+Gk m<=1000000->CO (ρ:=Int×Int) (λi y x=>F0 (Dv q) i y x.1 x.2) (λx=>(x.1,x.2)) m i ((c:Int),(d:Int))=some (.inl (((c+Gk m:Nat):Int),((max d (UK m):Nat):Int))):=by
     intro m
     induction m with
     | nil=>intro _ i c d _;simp[CO,Gk,UK]
     | cons a m ihm =>
       intro hm i c d hc;simp only[Gk] at hc;have ha:=hm a (List.mem_cons_self ..);rw[CO,F0,ih a (by have:=LW ha;omega) (by have:=LW ha;omega),Option.bind_some];dsimp only;rw[CM (by omega),ad7];have:=ihm (λk hk=>hm k (List.mem_cons_of_mem _ hk)) (i+1) (c+DG a) (max d (Nh a)) (by omega);rw[Option.bind_some];dsimp only[Qd];rw[show(c:Int)+(DG a:Int)=((c+DG a:Nat):Int) by omega,this];simp only[Gk,UK,Nat.add_assoc,Nat.max_assoc]
   have h1:=key n.kids (λ_ h=>h) 0 1 0 (by omega);have h1:CO (ρ:=Int×Int) (λi y x=>F0 (Dv q) i y x.1 x.2) (λx=>(x.1,x.2)) n.kids 0 (1,0)=some (.inl (((1+Gk n.kids:Nat):Int),((max 0 (UK n.kids):Nat):Int))):=h1;rw[h1,Option.bind_some];dsimp only[Ma];have hd:=Ob n;have fD:=ajk n;rw[CM (by omega),Qi,hd];congr 2;omega
def bV{n:Nd}(hz:DG n<=1000000):Du n=some (if 2000 < DG n\/40 < Nh n then (z0,[⟨2,0⟩]) else (n,[])):=by
 have:Mq n=some (((DG n:Nat):Int),((Nh n:Nat):Int)):=T5 (DG n) λq hq=>xG q n hq hz;unfold Du;rw[this,Option.bind_some];dsimp only;by_cases h1:2000 < DG n;rw[Ir (by omega),if_pos (.inl h1)];rfl;rw[Ic (by omega)];by_cases h2:40 < Nh n;rw[Ir (by omega),if_pos (.inr h2)];rfl;rw[Ic (by omega),if_neg (by omega)];rfl
end Mo
end Go.Proofs.YtpbkhogolfegfaaGreatDoor
namespace Go.Proofs.YtpbkhogolfegfaaGreatDoor
open AI Go
namespace Mo
set_option maxRecDepth 100000
def acb(n:Nd):Nd×List Dg:=if 2000 < DG n\/40 < Nh n then (z0,[⟨2,0⟩]) else (n,[])
def alp{en:Int}:∀(q:Nat) (l:List Tk) (ks:List Nd) (ds:List Dg) (r:List Nd×List Dg),Gl l->l.length<=10000->Jh en q l ks ds=some r->Gk r.1<=Gk ks+l.length/\r.2.length<=max 20 ds.length:=by
 intro q
 induction q with
 | zero=>intro l ks ds r _ _ h;cases h
 | succ q ih =>
   intro l ks ds r hg hl h;cases l with
   | nil=>cases h;exact⟨by dsimp only;omega,by dsimp only;omega⟩
   | cons t l =>
     unfold Jh at h;cases hd:Ez ((ds.length:Nat):Int) 20 with
     | false=>rw[hd] at h;cases h;exact⟨by dsimp only;omega,by dsimp only;omega⟩
     | true =>
       rw[hd] at h;dsimp only[cond] at h;have hd:=Zc hd;split at h;cases h;rename_i n s hi;have a:=agS (c:=0) hi;obtain⟨⟨k,rfl⟩,_,_⟩:=Mk hg hl hi;have b:=ih _ _ _ _ (hg.drop k) (by rw[List.length_drop];omega) h;rw[QP,Pn] at b;exact⟨by dsimp only at a;omega,b.2⟩;rename_i d s hi;obtain⟨⟨k,rfl⟩,h2,_⟩:=Mk hg hl hi;obtain⟨j,hj⟩:=QJ ((t::l).drop k);have fG:l.length<=10000:=by simp only[List.length_cons] at hl;omega
       have b:=ih _ _ _ _ (by rw[hj];exact(hg.drop k).drop j) (by omega) h;simp only[List.length_append,List.length_singleton] at b;simp only[List.length_cons];exact⟨by omega,by omega⟩
def vS(ks:List Nd):List Dg->Nd×List Dg
 | []=>acb (GF ks)
 | ds=>(z0,ds)
def XR{s:ByteArray}(h:PK s=0):∃ks ds,Jh ((s.data.toList.length:Nat):Int) ((D3 s).length+1) (D3 s) [] []=some (ks,ds)/\Cg s=some (vS ks ds)/\Gk ks<=2000/\ds.length<=20:=by
 obtain⟨hg,hl⟩:=Mt s;obtain⟨ks,ds,h1,h2⟩:=xP h hg (by omega);have h3:=alp _ _ _ _ _ hg (by omega) h1;simp only[Gk,List.length_nil] at h3;refine⟨ks,ds,h1,?_,by omega,by omega⟩;rw[h2];cases ds with
 | nil =>
   rw[Ic (by simp)];exact bV (by have:=E6 (GF ks);simp only[GF] at this;rw[show DG (GF ks)=1+Gk ks from rfl];omega)
 | cons d ds =>
   rw[Ir (by simp only[List.length_cons];omega)];rfl
def ai9:(Nd⊕Dg)×List Tk->Nd×List Dg
 | (.inl n,[])=>acb n
 | (.inl _,t::_)=>(z0,[⟨71,t.AH⟩])
 | (.inr d,_)=>(z0,[d])
def tW{s:ByteArray}(h:PK s=0):∃r l,Nf ((s.data.toList.length:Nat):Int) (D3 s)=some (r,l)/\Dr s=some (ai9 (r,l)):=by
 obtain⟨hg,hl⟩:=Mt s;obtain⟨r,l,h1,_⟩:=aiO (en:=((s.data.toList.length:Nat):Int)) (n:=(D3 s).length) (by omega) hg (Nat.le_refl _);refine⟨r,l,h1,?_⟩;obtain⟨k',a1,a2,rfl,a4⟩:=sF (by omega) hg (Nat.zero_le _) (by rw[List.drop_zero];exact h1);unfold Dr IK;rw[Option.bind_some];dsimp only;rw[JS (by unfold PK at h;omega)];dsimp only[cond];have a4:FU ⟨List.map IP (LexS.Lt s.data.toList).fst,0,((s.data.toList.length:Nat):Int)⟩=some (r,(k':Int)):=a4;unfold KW Hp;rw[a4,Option.bind_some];cases r with
 | inr d=>rfl
 | inl n =>
   dsimp only[Sum.elim];rcases JR (D3 s) a2 with ⟨h2,h3⟩ | ⟨t,h2,h3,h4⟩
   rw[h3,Ic (by show((List.map IP (LexS.Lt s.data.toList).fst).length:Int)<=_;unfold D3 at h2;omega)];dsimp only[cond,Option.bind,adK]
   have hz:DG n<=1000000:=by
     have:=aiK (c:=0) h1;dsimp only at this;omega
   have:=bV hz;rw[this];rfl;rw[h4,Ir (by show _ < ((List.map IP (LexS.Lt s.data.toList).fst).length:Int);unfold D3 at h2;omega)];dsimp only[cond]
   have hgt:HU (List.map IP (LexS.Lt s.data.toList).fst) (k':Int)=some t:=by
     unfold HU;rw[if_pos (by omega),Int.toNat_natCast];exact h3
   rw[hgt];rfl
end Mo
end Go.Proofs.YtpbkhogolfegfaaGreatDoor
namespace Go.Proofs.YtpbkhogolfegfaaGreatDoor
open AI Go LexS
namespace Mo
set_option maxRecDepth 100000
structure Gy(t:Tk):Prop where
 name:t.kind=1->(1<=t.text.data.toList.length/\t.text.data.toList.length<=16)/\(∃b,t.text.data.toList[0]?=some b/\97<=b.toNat/\b.toNat<=122)/\∀c∈t.text.data.toList,vJ c
 oL:t.kind=2->wG t.text
def XG:∀n < 128,((L9 n &&& 26)≠0->(97<=n/\n<=122)\/(48<=n/\n<=57)\/n=95)/\((L9 n &&& 4)≠0->65<=n/\n<=90)/\((L9 n &&& 2)≠0->97<=n/\n<=122):=by decide
def XE{m:Nat}{c:UInt8}(h:cin m c=true):c.toNat < 128/\(L9 c.toNat &&& m)≠0:=by
 unfold cin at h;refine⟨?_,by simpa using h⟩
 by_cases hc:c.toNat < 128;exact hc;rw[eH _ (by omega)] at h;simp at h
def mH(m:Nat)(t:List UInt8):∀c∈t.take (Be m t),cin m c=true:=by
 unfold Be
 induction t with
 | nil=>intro c hc;cases hc
 | cons x t ih =>
   intro c hc;rw[List.takeWhile_cons] at hc;split at hc;rename_i hx;rw[List.length_cons,List.take_succ_cons] at hc;rcases List.mem_cons.1 hc with rfl | hc
   exact hx;exact ih c hc;cases hc
def aln{t:List UInt8}{o:Nat}:Gy (IP ((A2 t).1,t.take (A2 t).2,o)):=by
 by_cases c2:GQ 2 t=true;by_cases hc:Be 30 t<=16/\Be 26 t=Be 30 t;have hr:A2 t=(1,Be 30 t):=by unfold A2;rw[if_pos c2,if_pos hc]
 rw[hr];refine⟨λ_=>?_,λh=>?_⟩;obtain⟨c,u,rfl,amf⟩:=Vh c2
 have hp:1<=Be 26 (c::u):=by
   rw[Dt,if_pos (by
     obtain⟨a,b⟩:=XE amf;have:=(XG _ a).2.2 b;unfold cin;have:∀n < 128,(L9 n &&& 2)≠0->((L9 n &&& 26) != 0)=true:=by decide
     exact this _ a b)]
   omega
 have hsp:=ZA 30 (c::u);dsimp only[IP];refine⟨⟨by rw[List.length_take];omega,by rw[List.length_take];omega⟩,⟨c,?_,?_⟩,λx hx=>?_⟩;rw[List.getElem?_take_of_lt (by omega)];rfl;obtain⟨a,b⟩:=XE amf;exact(XG _ a).2.2 b;rw[<- hc.2] at hx;obtain⟨a,b⟩:=XE (mH 26 _ x hx);exact(XG _ a).1 b;have:(((1:Nat)):Int)=2:=h;omega;have hr:A2 t=(0,0):=by unfold A2;rw[if_pos c2,if_neg hc]
 rw[hr];exact⟨λh=>by have:(((0:Nat)):Int)=1:=h;omega,λh=>by have:(((0:Nat)):Int)=2:=h;omega⟩;by_cases c4:GQ 4 t=true;by_cases hc:Be 30 t=3/\Be 4 t=Be 30 t;have hr:A2 t=(2,Be 30 t):=by unfold A2;rw[if_neg c2,if_pos c4,if_pos hc]
 rw[hr];refine⟨λh=>by have:(((2:Nat)):Int)=1:=h;omega,λ_=>?_⟩;have hsp:=ZA 30 t;unfold wG;dsimp only[IP];refine⟨by rw[List.length_take];omega,λx hx=>?_⟩;rw[<- hc.2] at hx;obtain⟨a,b⟩:=XE (mH 4 _ x hx);exact(XG _ a).2.1 b;have hr:A2 t=(0,0):=by unfold A2;rw[if_neg c2,if_pos c4,if_neg hc]
 rw[hr];exact⟨λh=>by have:(((0:Nat)):Int)=1:=h;omega,λh=>by have:(((0:Nat)):Int)=2:=h;omega⟩
 have:(A2 t).1≠1/\(A2 t).1≠2:=by
   unfold A2;rw[if_neg c2,if_neg c4];split
   . unfold GI
     dsimp only
     repeat' split
     all_goals simp
   rcases Th t Gj with h | h<;>omega
 exact⟨λh=>absurd (show(((A2 t).1:Nat):Int)=1 from h) (by omega),λh=>absurd (show(((A2 t).1:Nat):Int)=2 from h) (by omega)⟩
def Gx(l:List Tk):Prop:=∀t∈l,Gd t/\Gy t
def hZ(s:ByteArray):Gx (D3 s):=by
 intro t ht;refine⟨(Mt s).1 t ht,?_⟩;unfold D3 Lt at ht;split at ht;cases ht;obtain⟨a,b⟩:=Y8 (Dl s.data.toList) [] (Nat.zero_le _);obtain⟨x,hx,rfl⟩:=List.mem_map.1 ht;rcases b x hx with hx | ⟨hx,h0⟩
 cases hx;obtain⟨u,o',h1,h2,rfl⟩:=dN _ _ _ x hx h0;exact aln
section
variable {α β:Type} {P:α->Prop} {P2:β->Prop}
def Va(P:α->Prop)(m:Rd α):Prop:=∀⦃l:List Tk⦄ ⦃a:α⦄ ⦃s:List Tk⦄,Gx l->m l=some (.inl a,s)->P a/\Gx s
def BK{m:Rd α}{K:α->Rd β}(h1:Va P m)(h2:∀a,P a->Va P2 (K a)):Va P2 (Cw m K):=by
 intro l b s hg h;rcases Jn h with ⟨a,s',e1,e2⟩ | ⟨d,_,h⟩
 obtain⟨pa,hg⟩:=h1 hg e1;exact h2 a pa hg e2;cases h
def D5{a:α}(h:P a):Va P (FX a):=by
 intro l b s hg e;obtain⟨e1,rfl⟩:=LS e;cases e1;exact⟨h,hg⟩
def Jj{e p:Int}:Va P (M8 e p):=by
 intro l b s _ h;obtain⟨h,_⟩:=Nt h;cases h
def OQ{X:Option β}{K:β->Rd α}(h:∀b,X=some b->Va P (K b)):Va P (L5 X K):=by
 intro l a s hg e;obtain⟨b,hb,e⟩:=Jq e;exact h b hb hg e
def mX{en:Int}{K:Tk->Rd α}(h:∀t,Gd t/\Gy t->Va P (K t)):Va P (Vz en K):=by
 intro l a s hg e;cases l with
 | nil=>cases e
 | cons t l=>exact h t (hg t (List.mem_cons_self ..)) hg e
def QQ{K:Rd α}(h:Va P K):Va P (VV K):=by
 intro l a s hg e;cases l with
 | nil=>cases e
 | cons t l=>exact h (λt ht=>hg t (List.mem_cons_of_mem _ ht)) e
def DS{b:Bool}{A B:Rd α}(h1:b=true->Va P A)(h2:b=false->Va P B):Va P (cond b A B):=by cases b;exact h2 rfl;exact h1 rfl
def Wz{x:ByteArray}{A B:Rd α}(h1:Va P A)(h2:Va P B):Va P (OI x A B):=by
 intro l a s hg e;unfold OI at e;cases hx:JC x l with
 | true=>rw[hx] at e;exact QQ h1 hg e
 | false=>rw[hx] at e;exact h2 hg e
def Wy{n:Nat}{m:Rd α}(h:Va P m):Va P (O4 n m):=λ_ _ _ hg e=>h hg (Om e).2
def Va.imp{P':α->Prop}{m:Rd α}(h:Va P m)(f:∀a,P a->P' a):Va P' m:=λ_ a _ hg e=>⟨f a (h hg e).1,(h hg e).2⟩
end
section
variable {en:Int}
def MK{f:Tk->Option Bool}:Va (λt=>(Gd t/\Gy t)/\f t=some true) (LX en f) :=
 mX λt ht=>OQ λb hb=>DS (λh=>QQ (D5 ⟨ht,by rw[hb,h]⟩)) λ_=>Jj
def G4{x:ByteArray}:Va TT (JT en x):=MK.imp λ_ _=>trivial
def XN{t:Tk}(hg:Gd t/\Gy t)(h:Cz t=some true):RV t.text:=by
 unfold Cz at h;rw[abY] at h;cases hk:CZ t.kind 1 with
 | false=>rw[hk] at h;cases h
 | true =>
   rw[hk] at h;obtain⟨h1,h2,h3⟩:=hg.2.name (Fe hk);refine⟨h1,h2,λhm=>?_,h3⟩;rw[C8.2 hm] at h;cases h
def uY{t:Tk}(hg:Gd t/\Gy t)(h:Fh t=some true):VI t.text:=by
 unfold Fh at h;cases h1:BY t.text.data.toList Hi.data.toList with
 | true=>exact .inl (O8 h1)
 | false =>
   rw[h1] at h;cases h2:BY t.text.data.toList EK.data.toList with
   | true=>exact .inr (.inl (O8 h2))
   | false =>
     rw[h2] at h;cases h3:BY t.text.data.toList JY.data.toList with
     | true=>exact .inr (.inr (.inl (O8 h3)))
     | false =>
       rw[h3] at h;exact .inr (.inr (.inr (hg.2.oL (Fe (Rb h).symm))))
def dF:Va (λp:Int×Int=>0<=p.1/\p.1<=999999999999) (NL en):=by
 refine BK MK λt ht=>OQ λn hn=>D5 ?_;obtain⟨z,h1,h2⟩:=ht.1.1.num (Fe (Rb ht.2).symm);rw[h1] at hn;cases hn;exact h2
def QR(least:Int):Va (λp:Int×Int=>least<=p.1/\p.1<=1000000) (Mr en least) :=
 BK dF λp _=>DS (λ_=>Jj) λh1=>DS (λ_=>Jj) λh2=>D5 ⟨Lc h1,Lc h2⟩
def X4(least:Int):Va (λd:Int=>least<=d/\0<=d/\d<=36524) (Sy en least):=by
 refine BK MK λt ht=>OQ λd hd=>DS (λh=>DS (λ_=>Jj) λh3=>D5 ⟨Lc h3,?_⟩) λ_=>Jj;obtain⟨d',e,h1,h2⟩:=ht.1.1.date (Fe (Rb ht.2).symm);rw[h1] at hd;cases hd;exact h2 (Fe h)
def ahn:Va RM (WU en):=by
 have mk:∀{n f u k p:Int},(0<=n/\n<=1000000)->(0<=f/\f<=36524)->(f < u/\u<=36525)->(0<=k/\k<=36524)->RM ⟨5,bE,bE,n,f,u,k,⟨0,[]⟩,[],p⟩ :=
   λh1 h2 h3 h4=>⟨rfl,h1,rfl,h2,h3,h4,rfl,rfl,rfl,rfl,rfl,rfl,rfl,rfl⟩
 exact BK G4 λt _=>BK (QR _) λn hn=>BK G4 λ_ _=>BK (X4 _) λf hf =>
   Wz (BK (X4 _) λu hu=>BK G4 λ_ _=>BK (X4 _) λk hk=>D5 (mk hn hf.2 ⟨by have:=hu.1;rw[CM (by have:=hf.2;omega)] at this;omega,by have:=hu.2;omega⟩ hk.2))
     (BK G4 λ_ _=>BK (X4 _) λk hk=>D5 (mk hn hf.2 ⟨by have:=hf.2;omega,by omega⟩ hk.2))
def agp{x:ByteArray}{n:Int}(h:EB x=some n):0<=n/\n<=4:=by
 unfold EB at h;revert h;cases BY TH.data.toList x.data.toList;cases BY Mx.data.toList x.data.toList;cases BY PG.data.toList x.data.toList;cases BY TN.data.toList x.data.toList<;>(intro h;cases h;decide)
 intro h;cases h;decide;intro h;cases h;decide;intro h;cases h;decide
def vA:Va IJ (Sz en):=by
 refine mX λt _=>QQ (BK MK λm hm=>BK G4 λ_ _=>BK MK λu hu=>DS (λ_=>BK MK λr hr=>OQ λn hn=>BK G4 λ_ _=>D5 (.inr (.inl ?_))) λ_=>BK G4 λ_ _=>D5 (.inl ?_));have h1:=agp hn
 have h2:0 < n:=by
   have h:=hr.2;unfold BT at h;rw[hn] at h;exact Zc (by cases hq:Ez 0 n with | true=>rfl | false=>(simp only[Option.bind_some,hq,cond_false] at h;cases h))
 exact⟨rfl,XN hm.1 hm.2,uY hu.1 hu.2,(by omega:1<=n),h1.2,rfl,rfl,rfl,rfl,rfl,rfl,rfl,rfl,rfl⟩;exact⟨rfl,XN hm.1 hm.2,uY hu.1 hu.2,rfl,rfl,rfl,rfl,rfl,rfl,rfl,rfl,rfl⟩
end
end Mo
end Go.Proofs.YtpbkhogolfegfaaGreatDoor
namespace Go.Proofs.YtpbkhogolfegfaaGreatDoor
open AI Go LexS
namespace Mo
set_option maxRecDepth 100000
section
variable {en:Int}
def ZS:Va (λp:Int×Int=>0<=p.1/\p.1<=999999999999) (OR en):=by
 refine BK MK λt ht=>OQ λc hc=>?_
 have hk:t.kind=3\/t.kind=4:=by
   have h:=ht.2;unfold Dk at h;cases h4:CZ t.kind 4 with
   | true=>exact .inr (Fe h4)
   | false =>
     rw[h4] at h;exact .inl (Fe (Rb h).symm)
 obtain⟨z,h1,h2⟩:=ht.1.1.r6 hk;rw[h1] at hc;cases hc;exact DS (λ_=>DS (λ_=>D5 h2) λ_=>Jj) λ_=>D5 h2
def ahq:Va (λs:Int=>s=1\/s=-1) (Xd en):=BK MK λt _=>DS (λ_=>D5 (.inr rfl)) λ_=>D5 (.inl rfl)
def aks{Az d g z:Int}(hc:1<=Az/\Az<=1000000)(hd:1<=d/\d<=1000000)(h1:aa8 Az d=some g)(h2:Tu Az g=some z):1<=BQ z d:=by
 obtain⟨g',e1,nX,⟨c1,h3⟩,_⟩:=aba hc.1 (show(0:Int)<=d by omega);rw[h1] at e1;cases e1;rw[YA (by omega) (by omega) (by omega)] at h2;cases h2;have hq:Az / g=c1:=by rw[h3,Int.mul_ediv_cancel_left _ (by omega)]
 have R6:1<=c1:=by
   by_cases h:1<=c1;exact h;have:=Int.mul_nonpos_of_nonneg_of_nonpos (show 0<=g by omega) (show c1<=0 by omega);omega
 have iQ:c1<=1000000:=by
   have:=Int.mul_le_mul_of_nonneg_right nX (show 0<=c1 by omega);omega
 rw[hq];have a1:=Int.mul_le_mul iQ hd.2 (by omega) (by omega);have a2:=Int.mul_nonneg (show 0<=c1 by omega) (show 0<=d by omega);rw[IX (by omega)];have:=Int.mul_le_mul_of_nonneg_right R6 (show 0<=d by omega);omega
def PtP(before:List Pt)(x:Pt×Int):Prop:=(0<=x.1.fr/\x.1.fr<=999999999999)/\(before=[]->x.1.fr=0)/\(∀q,before[before.length - 1]?=some q->q.fr < x.1.fr)/\before.length<=63/\(-999999999999<=x.1.AH/\x.1.AH<=999999999999)/\1<=x.2/\x.2<=1000000
def dH{Az:Int}(hc:1<=Az/\Az<=1000000)(from_ a:Int):Va (λx:Pt×Int=>x.1.fr=from_/\x.1.AH=a/\1<=x.2/\x.2<=1000000) (Ph en Az from_ a) :=
 BK ahq λs hs=>BK (QR _) λm hm=>BK G4 λ_ _=>BK (QR _) λd hd=>OQ λg hg=>OQ λz hz=>DS (λ_=>Jj) λh5=>D5 ⟨rfl,rfl,aks hc hd hg hz,Lc h5⟩
def dG{Az:Int}(hc:1<=Az/\Az<=1000000)(from_:Int):Va (λx:Pt×Int=>x.1.fr=from_/\(-999999999999<=x.1.AH/\x.1.AH<=999999999999)/\1<=x.2/\x.2<=1000000) (NS en Az from_) :=
 BK G4 λ_ _=>Wz (BK ZS λa ha=>(dH hc _ _).imp λx hx=>⟨hx.1,by rw[hx.2.1,IX (by omega)];omega,hx.2.2⟩) (BK ZS λa ha=>(dH hc _ _).imp λx hx=>⟨hx.1,by rw[hx.2.1,IX (by omega)];omega,hx.2.2⟩)
def adX(before:List Pt){Az:Int}(hc:1<=Az/\Az<=1000000):Va (PtP before) (SK en before Az):=by
 refine BK ZS λv hv=>DS (λh=>DS (λh0=>(dG hc _).imp λx hx=>?_) λ_=>Jj) λh=>OQ λq hq=>DS (λ_=>Jj) λh1=>DS (λ_=>Jj) λh2=>(dG hc _).imp λx hx=>?_;have hn:before=[]:=List.eq_nil_of_length_eq_zero (by have:=Fe h;omega);have h0:=Fe h0;exact⟨by rw[hx.1];omega,λ_=>by rw[hx.1];exact h0,λq hq=>(by rw[hn] at hq;cases hq),by rw[hn];exact Nat.zero_le _,hx.2⟩;have h1:=ab1 h1;have h2:=ab1 h2;have KE:before≠[]:=λe=>U9 h (by rw[e];rfl);exact⟨by rw[hx.1];omega,λe=>absurd e KE,λq' n4=>(by rw[hq] at n4;cases n4;rw[hx.1];exact h1),by omega,hx.2⟩
def PLP(ps:List Pt):Prop:=(∀x,ps[0]?=some x->x.fr=0)/\∀(i:Nat) p,ps[i]?=some p->(0<=p.fr/\p.fr<=999999999999)/\(∀q,0 < i->ps[i - 1]?=some q->q.fr < p.fr)/\-999999999999<=p.AH/\p.AH<=999999999999
def tY{ps:List Pt}{x:Pt×Int}(h:PLP ps)(hx:PtP ps x):PLP (ps++[x.1]):=by
 obtain⟨a1,a2,a3,a4,a5,a6⟩:=hx
 have get:∀{i:Nat} {p:Pt},(ps++[x.1])[i]?=some p->(i < ps.length/\ps[i]?=some p)\/(i=ps.length/\p=x.1):=by
   intro i p hp;by_cases hi:i < ps.length;rw[List.getElem?_append_left hi] at hp;exact .inl ⟨hi,hp⟩;rw[List.getElem?_append_right (by omega)] at hp;cases hj:i - ps.length with
   | zero=>rw[hj] at hp;cases hp;exact .inr ⟨by omega,rfl⟩
   | succ j=>rw[hj] at hp;cases hp
 refine⟨λy hy=>?_,λi p hp=>?_⟩;rcases get hy with ⟨h1,h2⟩ | ⟨h1,rfl⟩
 exact h.1 y h2;exact a2 (List.eq_nil_of_length_eq_zero h1.symm);rcases get hp with ⟨h1,h2⟩ | ⟨rfl,rfl⟩
 obtain⟨b1,b2,b3⟩:=h.2 i p h2;refine⟨b1,λq hq Z5=>?_,b3⟩;rcases get Z5 with ⟨_,h4⟩ | ⟨h3,_⟩
 exact b2 q hq h4;omega;refine⟨a1,λq hq Z5=>?_,a5⟩;rcases get Z5 with ⟨_,h4⟩ | ⟨h3,_⟩
 exact a3 q h4;omega
def zE:∀(q:Nat) (ps:List Pt) (c:Int),1<=c/\c<=1000000->PLP ps->Va (λr:List Pt×Int=>PLP r.1/\(1<=r.1.length/\r.1.length<=64)/\1<=r.2/\r.2<=1000000) (MA en q ps c):=by
 intro q
 induction q with
 | zero=>intro ps c _ _ _ _ _ _ h;cases h
 | succ q ih =>
   intro ps c hc hp;refine BK (adX ps hc) λx hx=>Wy (Wz (ih _ _ hx.2.2.2.2.2 (tY hp hx)) (D5 ⟨tY hp hx,?_,hx.2.2.2.2.2⟩));have:=hx.2.2.2.1;simp only[List.length_append,List.length_singleton];omega
def zF{c p:Int}:∀(ps:List Pt) (acc:List Pc),Va (λr:List Pc=>∃out,r=acc++out/\out.length=ps.length/\∀(i:Nat) x,ps[i]?=some x->∃sl,out[i]?=some ⟨x.fr,BQ x.AH c,sl⟩/\-1000000<=sl/\sl<=1000000) (MG c p ps acc):=by
 intro ps
 induction ps with
 | nil=>intro acc;exact D5 ⟨[],by simp,rfl,λi x h=>by cases h⟩
 | cons y ps ih =>
   intro acc;refine OQ λz _=>DS (λ_=>Jj) λh1=>DS (λ_=>Jj) λh2=>Wy ((ih _).imp λr hr=>?_);obtain⟨out,rfl,h3,h4⟩:=hr;refine⟨⟨y.fr,BQ y.AH c,BQ y.num z⟩::out,by simp,by simp[h3],λi x hx=>?_⟩;cases i with
   | zero=>cases hx;exact⟨_,rfl,Lc h2,Lc h1⟩
   | succ i=>exact h4 i x hx
def alk{ps:List Pt}{c:Int}{r:List Pc}(h:PLP ps)(hl:1<=ps.length/\ps.length<=64)(hc:1<=c/\c<=1000000)(h2:r.length=ps.length)(h3:∀(i:Nat) x,ps[i]?=some x->∃sl,r[i]?=some ⟨x.fr,BQ x.AH c,sl⟩/\-1000000<=sl/\sl<=1000000):mO ⟨c,r⟩:=by
 have back:∀{i:Nat} {y:Pc},r[i]?=some y->∃x sl,ps[i]?=some x/\y=⟨x.fr,BQ x.AH c,sl⟩/\-1000000<=sl/\sl<=1000000:=by
   intro i y hy;have hi:i < ps.length:=by have:=(List.getElem?_eq_some_iff.1 hy).1;omega
   obtain⟨sl,e,b⟩:=h3 i ps[i] (List.getElem?_eq_getElem hi);rw[hy] at e;exact⟨ps[i],sl,List.getElem?_eq_getElem hi,Option.some.inj e,b⟩
 refine⟨hc,by rw[h2];exact hl,λy hy=>?_,λi y hy=>?_⟩;obtain⟨x,sl,h4,rfl,_⟩:=back hy;exact h.1 x h4;obtain⟨x,sl,h4,rfl,h5,h6⟩:=back hy;obtain⟨a1,a2,a3,a4⟩:=h.2 i x h4;have m1:=Int.mul_le_mul_of_nonneg_right a4 (show 0<=c by omega);have m2:=Int.mul_le_mul_of_nonneg_right a3 (show 0<=c by omega);have e:BQ x.AH c=x.AH*c:=IX (by omega);refine⟨a1.2,λq hq Z5=>?_,?_,?_,?_,h6,h5⟩;obtain⟨x',sl',h7,rfl,_⟩:=back Z5;exact a2 x' hq h7;dsimp only;unfold YB nB;rw[if_neg (by omega),e,Int.mul_tmod_left];dsimp only;rw[e,IX (by omega)];exact m1;dsimp only;rw[e,IX (by omega)];exact m2
def ahp{P:Nd->Prop}{read:Rd Nd}(hr:Va P read):∀(q:Nat) (ns:List Nd),ns≠[]->(∀n∈ns,P n)->Va (λr:List Nd=>r≠[]/\∀n∈r,P n) (RU read q ns):=by
 intro q
 induction q with
 | zero=>intro ns _ _ _ _ _ _ h;cases h
 | succ q ih =>
   intro ns h0 h;refine Wz (BK hr λn hn=>Wy (ih _ (by simp) λy hy=>?_)) (D5 ⟨h0,h⟩);rcases List.mem_append.1 hy with hy | hy
   exact h y hy;rw[List.mem_singleton.1 hy];exact hn
def vB{P:Nd->Prop}{read:Rd Nd}(hr:Va P read):Va (λr:List Nd=>r≠[]/\∀n∈r,P n) (SG read) :=
 BK hr λn hn _ _ _ hg h=>ahp hr _ [n] (by simp) (λy hy=>by rw[List.mem_singleton.1 hy];exact hn) hg h
def akH{n p:Int}(h:1<=n/\n<=1000000):Kd (Ff 11 bE EK n [] p)/\Rh (Ff 11 bE EK n [] p) :=
 ⟨(Jo _).2 ⟨.inl ⟨rfl,.inr (.inl rfl),by show 0<=n;omega,by show n<=_;omega,λe=>absurd e (show EK≠Hi by decide),rfl,rfl,rfl,rfl,rfl,rfl,rfl,rfl,rfl⟩,λk hk=>by cases hk⟩,rfl,rfl,h⟩
def TS:Va (λn=>Kd n/\Rh n) (GA en):=BK (QR _) λp hp=>D5 (akH hp)
end
end Mo
end Go.Proofs.YtpbkhogolfegfaaGreatDoor
namespace Go.Proofs.YtpbkhogolfegfaaGreatDoor
open AI Go LexS
namespace Mo
set_option maxRecDepth 100000
def opQ{nm:ByteArray}{a b:Nd}{p:Int}(ho:Zi nm)(ha:Kd a)(hb:Kd b)(hn:nm=EH->Rh b):Kd ⟨16,nm,ByteArray.empty,0,0,0,0,⟨0,[]⟩,[a,b],p⟩:=by
 refine(Jo _).2 ⟨.inr (.inr (.inr (.inr (.inr (.inl ⟨rfl,⟨rfl,rfl,rfl,rfl,rfl,rfl,rfl,rfl⟩,rfl,ho,λe k hk=>?_⟩))))),λk hk=>?_⟩;cases hk;exact hn e;simp only[List.mem_cons,List.not_mem_nil,or_false] at hk;rcases hk with rfl | rfl
 exact ha;exact hb
def VY:List ByteArray:=[kZ,P8,GX,H7,JL,Hh,IS,FG,OG,Lu,PW,EH,jI]
def tV(i:Nat):∀x∈opsOf i,x∈VY:=by
 unfold opsOf;split<;>(intro x hx;simp only[List.mem_cons,List.not_mem_nil,or_false] at hx)<;>(try (unfold VY;simp only[List.mem_cons]))
 exact .inl hx;exact .inr (.inl hx);rcases hx with h | h | h | h | h | h<;>simp[h]
 rcases hx with h | h<;>simp[h]
 rcases hx with h | h | h<;>simp[h]
def v7{op:ByteArray}{l r x:Nd}(ho:op∈VY)(hl:Kd l)(hr:Kd r)(hn:op=EH->Rh r)(h:Bb op l r=some x):Kd x:=by
 unfold Bb at h;revert h;cases h1:BY op.data.toList IS.data.toList with
 | true =>
   rw[O8 h1,show J5 IS IS JL 1=some JL from rfl];intro h;cases h;exact opQ (by unfold Zi;simp) hr hl λe=>absurd e (by decide)
 | false =>
   cases h2:BY op.data.toList FG.data.toList with
   | true =>
     rw[O8 h2,show J5 FG IS JL 1=some Hh from rfl];intro h;cases h;exact opQ (by unfold Zi;simp) hr hl λe=>absurd e (by decide)
   | false =>
     intro h;cases h;refine opQ ?_ hl hr hn;unfold VY at ho;simp only[List.mem_cons,List.not_mem_nil,or_false] at ho;have n1:=aaU h1;have n2:=aaU h2;unfold Zi;rcases ho with h | h | h | h | h | h | h | h | h | h | h | h | h
     all_goals first | exact absurd h n1 | exact absurd h n2 | simp[h]
section
variable {en:Int}
def aiR{α:Type}{P:α->Prop}{yes:ByteArray->Rd α}{no:Rd α}(h2:Va P no):∀ops:List ByteArray,(∀x∈ops,Va P (yes x))->Va P (n5 yes no ops):=by
 intro ops
 induction ops with
 | nil=>intro _;exact h2
 | cons x ops ih=>intro h;exact Wz (h x (List.mem_cons_self ..)) (ih λy hy=>h y (List.mem_cons_of_mem _ hy))
def mY{sub:Rd Nd}(h:Va Kd sub){op:ByteArray}(ho:op∈VY){l:Nd}(hl:Kd l):Va Kd (Rr en sub op l):=by
 refine BK (P:=λr=>Kd r/\(op=EH->Rh r)) (DS (λ_=>TS.imp λn hn=>⟨hn.1,λ_=>hn.2⟩) λh1=>h.imp λn hn=>⟨hn,λe=>absurd e (aaU h1)⟩) λr hr=>OQ λx hx=>D5 (v7 ho hl hr.1 hr.2 hx)
def adV{ops:List ByteArray}(apZ:∀x∈ops,x∈VY){sub:Rd Nd}(h:Va Kd sub):∀(q:Nat) (l:Nd),Kd l->Va Kd (LA en ops sub q l):=by
 intro q
 induction q with
 | zero=>intro l _ _ _ _ _ h;cases h
 | succ q ih=>intro l hl;exact aiR (D5 hl) ops λx hx=>BK (mY h (apZ x hx) hl) λb hb=>ih b hb
def ak1{nm:ByteArray}{p:Int}(h:RV nm):Kd (Ff 12 nm bE 0 [] p):=(Jo _).2 ⟨.inr (.inl ⟨rfl,h,rfl,rfl,rfl,rfl,rfl,rfl,rfl,rfl,rfl⟩),λk hk=>by cases hk⟩
def Y9{u:ByteArray}{n p:Int}(h:VI u)(h0:0<=n/\n<=999999999999)(h1:u=Hi->n<=1):Kd (Ff 11 bE u n [] p):=(Jo _).2 ⟨.inl ⟨rfl,h,h0.1,h0.2,h1,rfl,rfl,rfl,rfl,rfl,rfl,rfl,rfl,rfl⟩,λk hk=>by cases hk⟩
def fZ{a:Nd}(h:Kd a):∀k∈[a],Kd k:=λk hk=>by rw[List.mem_singleton.1 hk];exact h
def akC{k:Nd}{p:Int}(hk:Kd k):Kd (Ff 15 bE bE 0 [k] p):=(Jo _).2 ⟨.inr (.inr (.inr (.inr (.inl ⟨rfl,rfl,rfl,rfl,rfl,rfl,rfl,rfl,rfl,rfl⟩)))),fZ hk⟩
def aja{n p:Int}(h:1<=n/\n<=1000000):Kd (Ff 13 bE bE n [] p):=(Jo _).2 ⟨.inr (.inr (.inl ⟨rfl,h,rfl,rfl,rfl,rfl,rfl,rfl,rfl,rfl,rfl⟩)),λk hk=>(by cases hk)⟩
def agb:PLP []:=⟨λx h=>(by cases h),λi p h=>(by cases h)⟩
def aeX{nm:ByteArray}{a:Nd}{l:List Nd}{p:Int}(hn:nm=K3\/nm=FY)(ha:Kd a)(hl:l≠[]/\∀n∈l,Kd n):Kd (Ff 17 nm bE 0 (a::l) p):=by
 refine(Jo _).2 ⟨.inr (.inr (.inr (.inr (.inr (.inr (.inl ⟨rfl,hn,⟨rfl,rfl,rfl,rfl,rfl,rfl,rfl,rfl⟩,?_⟩)))))),λk hk=>?_⟩;have:=List.length_pos_iff.2 hl.1;show 2<=(a::l).length;rw[List.length_cons];omega;rcases List.mem_cons.1 hk with rfl | hk
 exact ha;exact hl.2 k hk
structure VaE(g:Ek->Rd Nd)(li:Rd (List Nd)):Prop where
 vg:∀e,e≠.ca->(∀t,e≠.wd t)->Va Kd (g e)
 vw:∀⦃t:Tk⦄ ⦃l s:List Tk⦄ ⦃a:Nd⦄,Gx (t::l)->g (.wd t) (t::l)=some (.inl a,s)->Kd a/\Gx s
 vc:∀⦃t:Tk⦄ ⦃l s:List Tk⦄ ⦃a:Nd⦄,Gx (t::l)->(t.text=K3\/t.text=FY)->g .ca (t::l)=some (.inl a,s)->Kd a/\Gx s
 vli:Va (λr:List Nd=>r≠[]/\∀n∈r,Kd n) li
def ae3{u:ByteArray}(h:wG u):u≠Hi:=by
 rintro rfl;have:=h.1;revert this;decide
def alv:∀q:Nat,VaE (gP en q).1 (gP en q).2:=by
 intro q
 induction q with
 | zero =>
   constructor;intro e _ _ _ _ _ _ h;cases h;intro _ _ _ _ _ h;cases h;intro _ _ _ _ _ _ h;cases h;intro _ _ _ _ h;cases h
 | succ q A =>
   have lv:∀i,Va Kd (Ol en (gP en q).1 i):=λi=>BK (A.vg _ (by simp) (by simp)) λN hN _ _ _ hg h=>adV (tV i) (A.vg _ (by simp) (by simp)) _ N hN hg h;refine⟨λe hc hw=>?_,λt l s a hg h=>?_,λt l s a hg ht h=>?_,vB (A.vg .ex (by simp) (by simp))⟩
   . show Va Kd (Pm en (gP en q).1 (gP en q).2 e)
     unfold Pm;split;exact A.vg _ (by simp) (by simp)
     . intro l a s hg h
       unfold Zg at h;cases hx:JC Vq l with
       | true =>
         rw[hx] at h;exact BK (P2:=Kd) G4 (λt _=>BK (A.vg _ (by simp) (by simp)) λk hk=>D5 (akC hk)) hg h
       | false=>rw[hx] at h;exact A.vg _ (by simp) (by simp) hg h
     exact BK (A.vg _ (by simp) (by simp)) λN hN=>aiR (D5 hN) _ λx hx=>mY (A.vg _ (by simp) (by simp)) (tV 3 x hx) hN;exact A.vg _ (by simp) (by simp);exact lv _
     . intro l a s hg h
       cases l with
       | nil=>cases h
       | cons t l =>
         have ht:=hg t (List.mem_cons_self ..);unfold Yn Vz at h;dsimp only at h;cases hk3:CZ t.kind 3 with
         | true =>
           rw[hk3] at h;exact BK (P2:=Kd) dF (λn hn=>Wz (D5 (Y9 (.inr (.inr (.inl rfl))) hn λe=>absurd e (by decide))) (D5 (Y9 (.inr (.inl rfl)) hn λe=>absurd e (by decide)))) hg h
         | false =>
           rw[hk3] at h;dsimp only[cond] at h;cases hk:CZ t.kind 2 with
           | true =>
             rw[hk] at h;refine QQ (P:=Kd) (BK MK λa ha=>OQ λz hz=>D5 ?_) hg h;obtain⟨z',h1,h2⟩:=ha.1.1.r6 (.inr (Fe (Rb ha.2).symm));rw[h1] at hz;cases hz;have hc:=ht.2.oL (Fe hk);exact Y9 (.inr (.inr (.inr hc))) h2 λe=>absurd e (ae3 hc)
           | false =>
             rw[hk] at h;obtain⟨b,hb,h⟩:=Jq h;cases b with
             | true=>exact QQ (P:=Kd) (D5 (ak1 (XN ht hb))) hg h
             | false=>exact A.vw hg h
     rename_i t;exact absurd rfl (hw t);exact absurd rfl hc;refine BK G4 λt _=>BK G4 λ_ _=>BK (A.vg _ (by simp) (by simp)) λa ha=>BK G4 λ_ _=>BK (λ_ _ _ hg h=>zE _ [] 1 (by decide) agb hg h) λl hl=>BK G4 λe _=>Wy (BK (zF _ _) λr hr=>D5 ?_);obtain⟨out,e,h3,h4⟩:=hr;rw[List.nil_append] at e;subst e;exact(Jo _).2 ⟨.inr (.inr (.inr (.inr (.inr (.inr (.inr ⟨rfl,⟨rfl,rfl,rfl,rfl,rfl,rfl,rfl,rfl⟩,alk hl.1 hl.2.1 hl.2.2 h3 h4,rfl⟩)))))),fZ ha⟩
   . have h:R0 en (gP en q).1 t (t::l)=some (.inl a,s):=h
     have dt:eR t.text->Va Kd (U7 t):=λh=>QQ (D5 ((Jo _).2 ⟨.inr (.inr (.inr (.inl ⟨rfl,h,rfl,rfl,rfl,rfl,rfl,rfl,rfl,rfl,rfl⟩))),λk hk=>by cases hk⟩))
     have key:(t.text=K3\/t.text=FY)/\(gP en q).1 .ca (t::l)=some (.inl a,s)\/(Kd a/\Gx s):=by
       unfold R0 at h;revert h;cases BY t.text.data.toList ZK.data.toList;rotate_left;exact λh=>.inr (QQ (P:=Kd) (D5 (Y9 (.inl rfl) (by decide) λ_=>by decide)) hg h);cases BY t.text.data.toList T6.data.toList;rotate_left;exact λh=>.inr (QQ (P:=Kd) (D5 (Y9 (.inl rfl) (by decide) λ_=>by decide)) hg h);cases BY t.text.data.toList eA.data.toList;rotate_left;exact λh=>.inr (QQ (P:=Kd) (BK (QR _) λp hp=>D5 (aja hp)) hg h);cases h1:BY t.text.data.toList LY.data.toList;rotate_left;exact λh=>.inr (dt (.inl (O8 h1)) hg h);cases h1:BY t.text.data.toList eO.data.toList;rotate_left;exact λh=>.inr (dt (.inr (.inl (O8 h1))) hg h);cases h1:BY t.text.data.toList Rf.data.toList;rotate_left;exact λh=>.inr (dt (.inr (.inr (.inl (O8 h1)))) hg h);cases h1:BY t.text.data.toList VT.data.toList;rotate_left;exact λh=>.inr (dt (.inr (.inr (.inr (O8 h1)))) hg h);cases h1:BY t.text.data.toList K3.data.toList;rotate_left;exact λh=>.inl ⟨.inl (O8 h1),h⟩;cases h1:BY t.text.data.toList FY.data.toList;rotate_left;exact λh=>.inl ⟨.inr (O8 h1),h⟩;cases BY t.text.data.toList Rz.data.toList;rotate_left;exact λh=>.inr (A.vg _ (by simp) (by simp) hg h);cases BY t.text.data.toList Uo.data.toList;rotate_left;exact λh=>.inr (QQ (P:=Kd) (BK (A.vg _ (by simp) (by simp)) λa ha=>BK G4 λ_ _=>D5 ha) hg h);exact λh=>.inr (Jj (P:=Kd) hg h)
     rcases key with ⟨h1,h2⟩ | h1
     exact A.vc hg h1 h2;exact h1
   have h:Ys en (gP en q).1 (gP en q).2 (t::l)=some (.inl a,s):=h;unfold Ys Vz at h;dsimp only at h;exact QQ (P:=Kd) (BK G4 λ_ _=>BK (A.vg _ (by simp) (by simp)) λa ha=>BK G4 λ_ _=>BK A.vli λl hl=>Wy (BK G4 λ_ _=>D5 (aeX ht ha hl))) hg h
def aiQ:Va Kd (Nf en):=λ_ _ _ hg h=>(alv _).vg .ex (by simp) (by simp) hg h
def zD{kind:Int}:Va (λn=>KT n/\n.kind=kind) (IM en (Nf en) kind):=by
 refine mX λt _=>QQ (DS (λhk=>BK (vB TS) λl hl=>BK G4 λ_ _=>D5 ⟨⟨⟨rfl,rfl,rfl,rfl,rfl,rfl,rfl,rfl⟩,λ_=>⟨?_,hl.2⟩,λh=>absurd (Fe hk) h⟩,rfl⟩) λhk=>BK aiQ λe he=>BK G4 λ_ _=>D5 ⟨⟨⟨rfl,rfl,rfl,rfl,rfl,rfl,rfl,rfl⟩,λh=>absurd h (U9 hk),λ_=>⟨rfl,fZ he⟩⟩,rfl⟩);exact List.length_pos_iff.2 hl.1
def jO(k:Int)(l m:List Nd):Hm k (l++m)=Hm k l+Hm k m:=by
 induction l with
 | nil=>simp[Hm]
 | cons a l ih=>simp only[List.cons_append,Hm,ih];omega
def adW{t1 t4:Tk}{n2:Int}(h4:RV t4.text)(hn:1<=n2/\n2<=1000000){h:Nd}(hh:RM h):∀(q:Nat) (cs:List Nd) (un am:Bool),kinds cs->(∀k∈cs,KT k)->Hm 8 cs=(if am then 1 else 0)->Hm 7 cs=(if un then 1 else 0) ->
   Va IJ (Iy en (Nf en) (λl=>Ff 4 t4.text bE n2 l t1.AH) q (h::cs) un am):=by
 intro q
 induction q with
 | zero=>intro cs un am _ _ _ _ _ _ _ _ h;cases h
 | succ q ih =>
   intro cs un am k1 k2 k3 k4
   have go:∀(kind:Int) (iV iM:Bool),(6<=kind/\kind<=8)->(if am then 1 else 0)+(if kind=8 then 1 else 0)=(if iM then 1 else 0)->(if un then 1 else 0)+(if kind=7 then 1 else 0)=(if iV then 1 else 0) ->
       Va IJ (Cw (IM en (Nf en) kind) λc=>O4 ((h::cs).length+1) (Iy en (Nf en) (λl=>Ff 4 t4.text bE n2 l t1.AH) q (h::cs++[c]) iV iM)):=by
     intro kind iV iM hk h8 h7;refine BK zD λc hc=>Wy (ih (cs++[c]) iV iM ?_ ?_ ?_ ?_);intro y hy;rcases List.mem_append.1 hy with hy | hy
     exact k1 y hy;rw[List.mem_singleton.1 hy,hc.2];exact hk;intro y hy;rcases List.mem_append.1 hy with hy | hy
     exact k2 y hy;rw[List.mem_singleton.1 hy];exact hc.1;rw[jO,k3];simp only[Hm,hc.2];omega;rw[jO,k4];simp only[Hm,hc.2];omega
   refine mX λt _=>DS (λ_=>go 6 un am (by decide) (by simp) (by simp)) λ_=>DS (λ_=>DS (λ_=>Jj) λhu=>go 7 true am (by decide) (by simp) (by simp[hu])) λ_ =>
     DS (λ_=>DS (λ_=>Jj) λha=>go 8 un true (by decide) (by simp[ha]) (by simp)) λ_=>DS (λ_=>DS (λha=>QQ (D5 (.inr (.inr ⟨rfl,hn,h4,⟨rfl,rfl,rfl,rfl,rfl,rfl,rfl,rfl⟩,h,cs,rfl,k1,by rw[k3,ha];rfl,?_,hh,k2⟩)))) λ_=>Jj) λ_=>Jj
   rw[k4];split<;>omega
def aho:Va IJ (Qk en (Nf en)):=by
 refine mX λt _=>DS (λ_=>vA) λ_=>DS (λ_=>vA) λ_=>DS (λ_=>?_) λ_=>Jj
 exact BK G4 λt _=>BK (QR _) λn hn=>BK G4 λ_ _=>BK MK λm hm=>BK ahn λh hh=>BK G4 λ_ _ _ _ _ hg e =>
   adW (XN hm.1 hm.2) hn hh _ [] false false (λk hk=>by cases hk) (λk hk=>by cases hk) rfl rfl hg e
end
end Mo
end Go.Proofs.YtpbkhogolfegfaaGreatDoor
namespace Go.Proofs.YtpbkhogolfegfaaGreatDoor
open AI Go
namespace Mo
set_option maxRecDepth 100000
set_option maxHeartbeats 4000000
section
variable (n:Nd)
def Pl:(KY n).kind=n.kind:=by rw[Ms]
def XX:(KY n).name=n.name:=by rw[Ms]
def XY:(KY n).unit=n.unit:=by rw[Ms]
def yK:(KY n).n=n.n:=by rw[Ms]
def aiH:(KY n).fr=n.fr:=by rw[Ms]
def aiI:(KY n).to=n.to:=by rw[Ms]
def mK:(KY n).known=n.known:=by rw[Ms]
def rD:(KY n).CF=n.CF:=by rw[Ms]
def MH:(KY n).kids=n.kids.map KY:=by rw[Ms]
end
def adB:∀{l:List Nd},(∀k∈l,DG (KY k)=DG k/\Nh (KY k)=Nh k)->Gk (l.map KY)=Gk l/\UK (l.map KY)=UK l
 | [],_=>⟨rfl,rfl⟩
 | a::l,h=>by
   obtain⟨h1,h2⟩:=h a (by simp);obtain⟨h3,h4⟩:=adB (l:=l) λk hk=>h k (by simp[hk]);simp only[List.map_cons,Gk,UK,h1,h2,h3,h4,and_self]
def akB{p:Nd->Prop}(h:∀n,(∀k∈n.kids,p k)->p n):∀(m:Nat) (n:Nd),DG n<=m->p n:=by
 intro m
 induction m with
 | zero=>intro n h;have:=E6 n;omega
 | succ m ih =>
   intro n hn;have Qi:=E6 n;exact h n λk hk=>ih k (by have:=LW hk;omega)
def Wd{p:Nd->Prop}(h:∀n,(∀k∈n.kids,p k)->p n)(n:Nd):p n:=akB h (DG n) n (Nat.le_refl _)
def adC(n:Nd):DG (KY n)=DG n/\Nh (KY n)=Nh n:=by
 refine Wd (p:=λn=>DG (KY n)=DG n/\Nh (KY n)=Nh n) (λn ih=>?_) n;obtain⟨h1,h2⟩:=adB (l:=n.kids) ih;rw[E6 (KY n),Ob (KY n),Ob n,E6 n,MH,h1,h2];exact⟨rfl,rfl⟩
def am2{n:Nd}:K4 n->K4 (KY n):=by
 refine Wd (p:=λn=>K4 n->K4 (KY n)) (λn ih XK=>?_) n;obtain⟨p1,p2,p3⟩:=(Qs n).1 XK;rw[Ms];refine(Qs _).2 ⟨p1,by simpa using p2,λy hy=>?_⟩
 obtain⟨k,hk,rfl⟩:=List.mem_map.1 hy;exact ih k hk (p3 k hk)
def alK{n:Nd}{i:Nat}{q:Nd->Prop}(hq:∀k,q (KY k)↔q k):(∀k,(KY n).kids[i]?=some k->q k)↔∀k,n.kids[i]?=some k->q k:=by
 rw[MH];constructor;intro h k hk;exact(hq k).1 (h _ (by rw[List.getElem?_map,hk];rfl));intro h k hk;rw[List.getElem?_map] at hk;obtain⟨y,hy,rfl⟩:=Option.map_eq_some_iff.1 hk;exact(hq y).2 (h y hy)
def TY{l:List Nd}{q:Nd->Prop}(hq:∀k∈l,q (KY k)↔q k):(∀k∈l.map KY,q k)↔∀k∈l,q k:=by
 constructor;intro h k hk;exact(hq k hk).1 (h _ (List.mem_map_of_mem hk));intro h k hk;obtain⟨y,hy,rfl⟩:=List.mem_map.1 hk;exact(hq y hy).2 (h y hy)
def aco(k:Nd):Rh (KY k)↔Rh k:=by unfold Rh;rw[Pl,XY,yK]
def S5(n f:Nd):Gw (KY n) f↔Gw n f:=by unfold Gw;rw[XX,XY,yK,aiH,aiI,mK,rD]
def aju(n:Nd):Tv (KY n)↔Tv n:=by
 unfold Tv;rw[alK aco];simp only[S5,Pl,XY,yK,XX,rD,MH,List.length_map]
def oU(n:Nd):Kd (KY n)↔Kd n:=by
 refine Wd (p:=λn=>Kd (KY n)↔Kd n) (λn ih=>?_) n;rw[Jo,Jo,aju,MH,TY ih]
def U6(k:Int):∀l:List Nd,Hm k (l.map KY)=Hm k l
 | []=>rfl
 | a::l=>by rw[List.map_cons,Hm,Hm,Pl,U6 k l]
def bD(x:Nd):KT (KY x)↔KT x:=by
 unfold KT;rw[S5,Pl,MH,List.length_map,TY (λk _=>and_congr (oU k) (aco k)),TY (λk _=>oU k)]
def sW(x:Nd):RM (KY x)↔RM x:=by
 unfold RM;simp only[S5,Pl,yK,aiH,aiI,mK,MH,List.length_map]
def ajb(n:Nd):vT (KY n)↔vT n:=by
 unfold vT;rw[S5,XX,yK,MH];refine and_congr_right λ_=>and_congr_right λ_=>and_congr_right λ_=>?_;cases n.kids with
 | nil=>exact⟨λ⟨h,cs,e,_⟩=>(nomatch e),λ⟨h,cs,e,_⟩=>(nomatch e)⟩
 | cons a l =>
   have hk:kinds (l.map KY)↔kinds l:=by unfold kinds;exact TY λk _=>by rw[Pl]
   constructor;rintro⟨h,cs,e,h1,h2,h3,h4,h5⟩;rw[List.map_cons] at e;cases e;exact⟨a,l,rfl,hk.1 h1,by rwa[U6] at h2,by rwa[U6] at h3,(sW a).1 h4,(TY λk _=>bD k).1 h5⟩;rintro⟨h,cs,e,h1,h2,h3,h4,h5⟩;cases e;exact⟨KY a,l.map KY,rfl,hk.2 h1,by rwa[U6],by rwa[U6],(sW a).2 h4,(TY λk _=>bD k).2 h5⟩
def afI(n:Nd):IJ (KY n)↔IJ n:=by
 unfold IJ;rw[ajb];simp only[S5,Pl,yK,XX,XY,MH,List.length_map]
def akM(n:Nd):okV (KY n)↔okV n:=by
 unfold okV;rw[S5,Pl,oU,(adC n).1,(adC n).2,MH,TY λk _=>afI k]
end Mo
end Go.Proofs.YtpbkhogolfegfaaGreatDoor
namespace Go.Proofs.YtpbkhogolfegfaaGreatDoor
open AI Go
namespace Mo
set_option maxRecDepth 100000
set_option maxHeartbeats 4000000
def tM{α:Type}{l:List α}{body:Nat->α->Unit->Option (Lp Unit Unit Bool)}{x:Option Bool}(hl:l.length<=9223372036854775807)(hb:∀i y,l[i]?=some y->body i y ()=some (.nx ())):(RT l.length (CO body (λ_=>()) (l.drop 0) 0 ())).bind (Ma (λ(_:Unit)=>x) (λv=>some v))=x:=by
 have key:∀(m:List α) (i:Nat),(∀j y,m[j]?=some y->body (i+j) y ()=some (.nx ()))->CO body (λ_=>()) m i ()=some (.inl ()):=by
   intro m
   induction m with
   | nil=>intro i _;rfl
   | cons y m ih =>
     intro i h;rw[CO,show body i y ()=some (.nx ()) from h 0 y rfl,Option.bind_some];exact ih (i+1) λj z hz=>by rw[Nat.add_assoc,Nat.add_comm 1 j];exact h (j+1) z hz
 rw[show RT l.length=λy:Option (Unit⊕Bool)=>y from funext λy=>if_pos hl,List.drop_zero,key l 0 (λj y hy=>by rw[Nat.zero_add];exact hb j y hy)];rfl
def mA(x:Pc):PZ x x=true:=by unfold PZ;simp
def qY(f:Fn)(h:f.ps.length<=9223372036854775807):IA f f=some true:=by
 rw[IA,JS rfl,JS rfl];refine tM h (λi y hy=>?_);rw[JA,hy,Option.bind_some,mA,cond_true]
def jX(x:ByteArray):BY x.data.toList x.data.toList=true:=by rw[T4];simp
def ak6:∀(q:Nat) (e:Nd),DG e<=q->DG e<=1000000->aO e->Hy q e e=some true:=by
 intro q
 induction q with
 | zero=>intro e h;have:=E6 e;omega
 | succ q ih =>
   intro e hq hz ho;have he:=E6 e;have hl:=MJ e.kids;obtain⟨h1,h2⟩:=(Tf e).1 ho;rw[Hy,NU,JS rfl,jX,jX,JS rfl,JS rfl,JS rfl,JS rfl,JS rfl,qY _ (by omega),Option.bind_some,JS rfl];dsimp only[cond];refine tM (by omega) (λi y hy=>?_);have hm:=List.mem_of_getElem? hy;have:=LW hm;rw[MC,hy,Option.bind_some,ih y (by omega) (by omega) (h2 y hm),Option.bind_some,cond_true]
def acX{e:Nd}(hz:DG e<=1000000)(ho:aO e):Gv e e=some true:=T5 (DG e) λq hq=>ak6 q e hq hz ho
def acU:∀(q:Nat) (n:Nd),DG n<=q->DG n<=100000->FQ q n=some (KY n):=by
 intro q
 induction q with
 | zero=>intro n h;have:=E6 n;omega
 | succ q ih =>
   intro n hq hz;have Qi:=E6 n;have hl:=MJ n.kids
   have key:∀(m:List Nd) (i:Nat) (acc:List Nd),(∀k∈m,k∈n.kids)->acc.length+m.length<=100000->CO (ρ:=Nd) (λi y x=>J4 (FQ q) i y x) (λx=>x) m i acc=some (.inl (acc++m.map KY)):=by
     intro m
     induction m with
     | nil=>intro i acc _ _;simp[CO]
     | cons y m ihm =>
       intro i acc hm hc;simp only[List.length_cons] at hc;have hy:=LW (hm y (List.mem_cons_self ..));rw[CO,J4,ih y (by omega) (by omega),Option.bind_some,Fl (by omega),Option.bind_some];have:=ihm (i+1) (acc++[KY y]) (λk hk=>hm k (List.mem_cons_of_mem _ hk)) (by simp only[List.length_append,List.length_singleton];omega);dsimp only[Qd];rw[this,List.append_assoc];rfl
   rw[FQ,MD,show RT n.kids.length=λy:Option (List Nd⊕Nd)=>y from funext λy=>if_pos (by omega),List.drop_zero,key n.kids 0 [] (λ_ h=>h) (by simp only[List.length_nil];omega),Ms];rfl
def acV{n:Nd}(hz:DG n<=100000):ME n=some (KY n):=T5 (DG n) λq hq=>acU q n hq hz
end Mo
end Go.Proofs.YtpbkhogolfegfaaGreatDoor
namespace Go.Proofs.YtpbkhogolfegfaaGreatDoor
open AI Go
namespace Mo
set_option maxRecDepth 100000
set_option maxHeartbeats 4000000
def alj{f:Fn}(h:mO f):∀(i:Nat) p,f.ps[i]?=some p->0<=p.fr:=by
 intro i
 induction i with
 | zero=>intro p hp;rw[h.2.2.1 p hp];omega
 | succ i ih =>
   intro p hp;have hi:i < f.ps.length:=by have:=(List.getElem?_eq_some_iff.1 hp).1;omega
   have h1:=(h.2.2.2 (i+1) p hp).2.1 f.ps[i] (by omega) (List.getElem?_eq_getElem hi);have:=ih _ (List.getElem?_eq_getElem hi);omega
def adD{f:Fn}(h:mO f):qI f/\f.ps.length<=64:=by
 refine⟨⟨by have:=h.2.1;omega,λy hy=>?_⟩,h.2.1.2⟩;obtain⟨i,hi⟩:=List.getElem?_of_mem hy;have h0:=alj h i y hi;obtain⟨a1,_,_,a4,a5,a6,a7⟩:=h.2.2.2 i y hi;have hr:=h.1;unfold PX at hr;rw[IX (by omega)] at a4;rw[IX (by omega)] at a5;exact⟨⟨by omega,by omega⟩,⟨by omega,by omega⟩,by omega,by omega⟩
def LI{f:Fn}(h:f.ps=[]):qI f/\f.ps.length<=64:=by
 unfold qI;rw[h];exact⟨⟨by simp,λy hy=>(by cases hy)⟩,by simp⟩
def ae9{n:Nd}(h:Tv n):qI n.CF/\n.CF.ps.length<=64:=by
 unfold Tv at h;rcases h with h | h | h | h | h | h | h | h
 exact LI h.2.2.2.2.2.2.2.2.2.2.2.2.2;exact LI h.2.2.2.2.2.2.2.2.2.2;exact LI h.2.2.2.2.2.2.2.2.2.2;exact LI h.2.2.2.2.2.2.2.2.2.2;exact LI h.2.2.2.2.2.2.2.2.2;exact LI h.2.1.2.2.2.2.2.2.2;exact LI h.2.2.1.2.2.2.2.2.2.2;exact adD h.2.2.1
def sE(n:Nd):Kd n->DG n<=1000000->K4 n/\aO n:=by
 refine Wd (p:=λn=>Kd n->DG n<=1000000->K4 n/\aO n) (λn ih h hz=>?_) n;obtain⟨h1,h2⟩:=(Jo n).1 h;obtain⟨t1,t2⟩:=ae9 h1;have hs:=E6 n;have hl:=MJ n.kids;exact⟨(Qs n).2 ⟨t1,by omega,λk hk=>(ih k hk (h2 k hk) (by have:=Ti hk;omega)).1⟩,(Tf n).2 ⟨by omega,λk hk=>(ih k hk (h2 k hk) (by have:=Ti hk;omega)).2⟩⟩
def Te{n:Nd}(ht:n.CF.ps=[])(hk:n.kids.length=0):K4 n/\aO n:=by
 have:=List.eq_nil_of_length_eq_zero hk;obtain⟨t1,t2⟩:=LI ht;exact⟨(Qs n).2 ⟨t1,by omega,by rw[this];exact λk hk=>(by cases hk)⟩,(Tf n).2 ⟨by omega,by rw[this];exact λk hk=>(by cases hk)⟩⟩
def We{n:Nd}(ht:n.CF.ps=[])(hz:DG n<=1000000)(hk:∀k∈n.kids,K4 k/\aO k):K4 n/\aO n:=by
 obtain⟨t1,t2⟩:=LI ht;have hs:=E6 n;have hl:=MJ n.kids;exact⟨(Qs n).2 ⟨t1,by omega,λk h=>(hk k h).1⟩,(Tf n).2 ⟨by omega,λk h=>(hk k h).2⟩⟩
def jM{n:Nd}(h:KT n)(hz:DG n<=1000000):K4 n/\aO n:=by
 refine We h.1.2.2.2.2.2.2.2 hz λk hk=>sE k ?_ (by have:=Ti hk;omega);by_cases h7:n.kind=7;exact((h.2.1 h7).2 k hk).1;exact(h.2.2 h7).2 k hk
def xA{n:Nd}(h:IJ n)(hz:DG n<=1000000):K4 n/\aO n:=by
 rcases h with h | h | h
 exact Te h.2.2.2.2.2.2.2.2.2.2.2 h.2.2.2.1;exact Te h.2.2.2.2.2.2.2.2.2.2.2.2.2 h.2.2.2.2.2.1;obtain⟨_,_,hb,hd,cs,hk,_,_,_,hh,hc⟩:=h.2;refine We hb.2.2.2.2.2.2.2 hz λk hm=>?_;have:=Ti hm;rw[hk] at hm;rcases List.mem_cons.1 hm with rfl | hm
 exact Te hh.2.2.2.2.2.2.2.2.2.2.2.2.2 hh.2.2.1;exact jM (hc k hm) (by omega)
def cK{ks:List Nd}(h:∀k∈ks,IJ k)(hz:Gk ks<=10000):K4 (GF ks)/\aO (GF ks):=by
 refine We rfl (by have:=E6 (GF ks);rw[show DG (GF ks)=1+Gk ks from rfl];omega) λk hk=>xA (h k hk) (by have:=LW (show k∈ks from hk);omega)
def qU{ks:List Nd}(h:∀k∈ks,IJ k)(hz:DG (GF ks)<=2000)(hd:Nh (GF ks)<=40):okV (GF ks):=⟨.inl ⟨rfl,⟨rfl,rfl,rfl,rfl,rfl,rfl,rfl,rfl⟩,h⟩,hz,hd⟩
def sP{l:List Tk}(h:Gx l)(k:Nat):Gx (l.drop k):=λt ht=>h t (List.mem_of_mem_drop ht)
def adI{en:Int}:∀(q:Nat) (l:List Tk) (ks:List Nd) (ds:List Dg) (r:List Nd×List Dg),Gx l->l.length<=10000->(∀k∈ks,IJ k)->Jh en q l ks ds=some r->∀k∈r.1,IJ k:=by
 intro q
 induction q with
 | zero=>intro l ks ds r _ _ _ h;cases h
 | succ q ih =>
   intro l ks ds r hg hl hk h;cases l with
   | nil=>cases h;exact hk
   | cons t l =>
     unfold Jh at h;cases hd:Ez ((ds.length:Nat):Int) 20 with
     | false=>rw[hd] at h;cases h;exact hk
     | true =>
       rw[hd] at h;dsimp only[cond] at h;split at h;cases h;rename_i n s hi;obtain⟨hn,hs⟩:=aho hg hi;obtain⟨⟨j,rfl⟩,_⟩:=Mk (λt ht=>(hg t ht).1) hl hi;refine ih _ _ _ _ hs (by rw[List.length_drop];omega) (λk hm=>?_) h;rcases List.mem_append.1 hm with hm | hm
       exact hk k hm;rw[List.mem_singleton.1 hm];exact hn;rename_i d s hi;obtain⟨⟨k,rfl⟩,_⟩:=Mk (λt ht=>(hg t ht).1) hl hi;obtain⟨j,hj⟩:=QJ ((t::l).drop k);rw[hj] at h;exact ih _ _ _ _ (sP (sP hg k) j) (by simp only[List.length_drop];omega) hk h
def Vu{s:ByteArray}{n:Nd}{ds:List Dg}(h:Cg s=some (n,ds)) :
   (ds≠[]/\n=z0/\ds.length<=20)\/(ds=[]/\∃ks,PK s=0/\Jh ((s.data.toList.length:Nat):Int) ((D3 s).length+1) (D3 s) [] []=some (ks,[])/\n=GF ks/\(∀k∈ks,IJ k)/\DG n<=2000/\Nh n<=40):=by
 by_cases he:PK s=0
 . obtain⟨ks,ds',h1,h2,h3,h4⟩:=XR he
   rw[h] at h2;have hv:=adI _ _ _ _ _ (hZ s) (by have:=(Mt s).2;omega) (λk hk=>by cases hk) h1;cases ds' with
   | nil =>
     unfold vS acb at h2;by_cases hc:2000 < DG (GF ks)\/40 < Nh (GF ks);rw[if_pos hc] at h2;simp only[Option.some.injEq,Prod.mk.injEq] at h2;obtain⟨rfl,rfl⟩:=h2;exact .inl ⟨by simp,rfl,by simp⟩;rw[if_neg hc] at h2;simp only[Option.some.injEq,Prod.mk.injEq] at h2;obtain⟨rfl,rfl⟩:=h2;exact .inr ⟨rfl,ks,he,h1,rfl,hv,by omega,by omega⟩
   | cons d ds'=>cases h2;exact .inl ⟨by simp,rfl,h4⟩
 rw[cE he] at h;cases h;exact .inl ⟨by simp,rfl,by simp⟩
def cD(s:ByteArray):∃n ds,Cg s=some (n,ds):=by
 by_cases he:PK s=0;obtain⟨ks,ds',h1,h2,_⟩:=XR he;exact⟨_,_,h2⟩;exact⟨_,_,cE he⟩
end Mo
end Go.Proofs.YtpbkhogolfegfaaGreatDoor
namespace Go.Proofs.YtpbkhogolfegfaaGreatDoor
open AI Go
namespace Mo
set_option maxRecDepth 100000
mutual
def UL(hi:Int):Nd->Prop
 | ⟨_,_,_,_,_,_,_,_,kids,AH⟩=>AH<=hi/\orL hi AH kids
def orL(hi lo:Int):List Nd->Prop
 | []=>True
 | k::ks=>(lo<=k.AH/\UL hi k)/\orL hi lo ks
end
def af3{hi lo:Int}{l:List Nd}:orL hi lo l↔∀k∈l,lo<=k.AH/\UL hi k:=by
 induction l with
 | nil=>simp[orL]
 | cons k l ih=>simp[orL,ih]
def Kh{hi:Int}(n:Nd):UL hi n↔n.AH<=hi/\∀k∈n.kids,n.AH<=k.AH/\UL hi k:=by cases n;rw[UL,af3]
def So(hi:Int):List Tk->Prop
 | []=>True
 | t::s=>t.AH<=hi/\(∀u∈s,t.AH<=u.AH)/\So hi s
def Lo(l:List Tk)(x:Int):Prop:=∀t∈l,x<=t.AH
section
variable {α β:Type} {hi x y:Int} {P:α->List Tk->Prop} {P2:β->List Tk->Prop}
def Vo(hi x:Int)(P:α->List Tk->Prop)(m:Rd α):Prop:=∀⦃l:List Tk⦄ ⦃a:α⦄ ⦃s:List Tk⦄,So hi l->Lo l x->m l=some (.inl a,s)->P a s/\So hi s/\Lo s x
def Cb{m:Rd α}{K:α->Rd β}(h1:Vo hi x P m)(h2:∀a,(∃l,P a l)->Vo hi x P2 (K a)):Vo hi x P2 (Cw m K):=by
 intro l b s hs hl h;rcases Jn h with ⟨a,s',e1,e2⟩ | ⟨d,_,h⟩
 obtain⟨p,a1,a2⟩:=h1 hs hl e1;exact h2 a ⟨_,p⟩ a1 a2 e2;cases h
def SZ(key:α->Int){m:Rd α}{K:α->Rd β}(h1:Vo hi x P m)(hk:∀a l,P a l->x<=key a/\Lo l (key a))(h2:∀a,(∃l,P a l)->Vo hi (key a) P2 (K a)):Vo hi x P2 (Cw m K):=by
 intro l b s hs hl h;rcases Jn h with ⟨a,s',e1,e2⟩ | ⟨d,_,h⟩
 obtain⟨p,a1,_⟩:=h1 hs hl e1;obtain⟨k1,k2⟩:=hk a _ p;obtain⟨q,b1,b2⟩:=h2 a ⟨_,p⟩ a1 k2 e2;exact⟨q,b1,λt ht=>Int.le_trans k1 (b2 t ht)⟩;cases h
def Ee{a:α}(h:∀s,Lo s x->P a s):Vo hi x P (FX a):=by
 intro l b s hs hl e;obtain⟨e1,rfl⟩:=LS e;cases e1;exact⟨h _ hl,hs,hl⟩
def Jk{e p:Int}:Vo hi x P (M8 e p):=by
 intro l b s _ _ h;obtain⟨h,_⟩:=Nt h;cases h
def OS{X:Option β}{K:β->Rd α}(h:∀b,X=some b->Vo hi x P (K b)):Vo hi x P (L5 X K):=by
 intro l a s hs hl e;obtain⟨b,hb,e⟩:=Jq e;exact h b hb hs hl e
def vG{en:Int}{K:Tk->Rd α}(h:∀t,x<=t.AH->t.AH<=hi->Vo hi t.AH P (K t)):Vo hi x P (Vz en K):=by
 intro l a s hs hl e;cases l with
 | nil=>cases e
 | cons t l =>
   have hx:=hl t (List.mem_cons_self ..)
   obtain⟨p,b1,b2⟩:=h t hx hs.1 hs (λu hu=>by
     rcases List.mem_cons.1 hu with rfl | hu
     exact Int.le_refl _;exact hs.2.1 u hu) e
   exact⟨p,b1,λu hu=>Int.le_trans hx (b2 u hu)⟩
def RZ{K:Rd α}(h:Vo hi x P K):Vo hi x P (VV K):=by
 intro l a s hs hl e;cases l with
 | nil=>cases e
 | cons t l=>exact h hs.2.2 (λu hu=>hl u (List.mem_cons_of_mem _ hu)) e
def Cu{b:Bool}{A B:Rd α}(h1:Vo hi x P A)(h2:Vo hi x P B):Vo hi x P (cond b A B):=by cases b;exact h2;exact h1
def WB{t:ByteArray}{A B:Rd α}(h1:Vo hi x P A)(h2:Vo hi x P B):Vo hi x P (OI t A B):=by
 intro l a s hs hl e;unfold OI at e;cases hx:JC t l with
 | true=>rw[hx] at e;exact RZ h1 hs hl e
 | false=>rw[hx] at e;exact h2 hs hl e
def WA{n:Nat}{m:Rd α}(h:Vo hi x P m):Vo hi x P (O4 n m):=λ_ _ _ hs hl e=>h hs hl (Om e).2
end
section
variable {hi x y en:Int}
abbrev PT(hi x:Int):Tk->List Tk->Prop:=λt s=>x<=t.AH/\t.AH<=hi/\Lo s t.AH
abbrev PA(hi x:Int):Int×Int->List Tk->Prop:=λp s=>x<=p.2/\p.2<=hi/\Lo s p.2
abbrev PN(hi x:Int):Nd->List Tk->Prop:=λn s=>UL hi n/\x<=n.AH/\Lo s n.AH
abbrev T2{α:Type}:α->List Tk->Prop:=λ_ _=>True
def ML{f:Tk->Option Bool}:Vo hi x (PT hi x) (LX en f):=vG λt h1 h2=>OS λb _=>Cu (RZ (Ee λs hs=>⟨h1,h2,hs⟩)) Jk
def G5{b:ByteArray}:Vo hi x (PT hi x) (JT en b):=ML
def dJ:Vo hi x (PA hi x) (NL en):=SZ (λt=>t.AH) ML (λt l h=>⟨h.1,h.2.2⟩) λt ⟨_,h1,h2,_⟩=>OS λn _=>Ee λs hs=>⟨h1,h2,hs⟩
def QT{least:Int}:Vo hi x (PA hi x) (Mr en least):=SZ (λp=>p.2) dJ (λp l h=>⟨h.1,h.2.2⟩) λp ⟨_,h1,h2,_⟩=>Cu Jk (Cu Jk (Ee λs hs=>⟨h1,h2,hs⟩))
def X5{least:Int}:Vo hi x T2 (Sy en least):=Cb ML λt _=>OS λd _=>Cu (Cu Jk (Ee λ_ _=>trivial)) Jk
def Jr{k n p:Int}{nm u:ByteArray}{ks:List Nd}(hp:p<=hi)(h:∀a∈ks,p<=a.AH/\UL hi a):UL hi (Ff k nm u n ks p):=(Kh _).2 ⟨hp,h⟩
def KV{p:Int}:∀a∈([]:List Nd),p<=a.AH/\UL hi a:=λa ha=>(by cases ha)
def abZ{p:Int}{k:Nd}(h:p<=k.AH/\UL hi k):∀a∈[k],p<=a.AH/\UL hi a:=λa ha=>by rw[List.mem_singleton.1 ha];exact h
def aht:Vo hi x (PN hi x) (WU en) :=
 SZ (λt=>t.AH) G5 (λt l h=>⟨h.1,h.2.2⟩) λt ⟨_,h1,h2,_⟩=>Cb QT λn _=>Cb G5 λ_ _=>Cb X5 λf _ =>
   WB (Cb X5 λu _=>Cb G5 λ_ _=>Cb X5 λk _=>Ee λs hs=>⟨(Kh _).2 ⟨h2,KV⟩,h1,hs⟩) (Cb G5 λ_ _=>Cb X5 λk _=>Ee λs hs=>⟨(Kh _).2 ⟨h2,KV⟩,h1,hs⟩)
def vE:Vo hi x (PN hi x) (Sz en) :=
 vG λt h1 h2=>RZ (Cb ML λm _=>Cb G5 λ_ _=>Cb ML λu _=>Cu (Cb ML λr _=>OS λn _=>Cb G5 λ_ _=>Ee λs hs=>⟨Jr h2 KV,h1,hs⟩) (Cb G5 λ_ _=>Ee λs hs=>⟨Jr h2 KV,h1,hs⟩))
def TU:Vo hi x (PN hi x) (GA en):=SZ (λp=>p.2) QT (λp l h=>⟨h.1,h.2.2⟩) λp ⟨_,h1,h2,_⟩=>Ee λs hs=>⟨Jr h2 KV,h1,hs⟩
abbrev PL(hi x:Int):List Nd->List Tk->Prop:=λl _=>∀a∈l,x<=a.AH/\UL hi a
def ahv{read:Rd Nd}(hr:Vo hi x (PN hi x) read):∀(q:Nat) (ns:List Nd),(∀a∈ns,x<=a.AH/\UL hi a)->Vo hi x (PL hi x) (RU read q ns):=by
 intro q
 induction q with
 | zero=>intro ns _ _ _ _ _ _ h;cases h
 | succ q ih =>
   intro ns h;refine WB (Cb hr λn ⟨_,h1,h2,_⟩=>WA (ih _ λa ha=>?_)) (Ee λ_ _=>h);rcases List.mem_append.1 ha with ha | ha
   exact h a ha;rw[List.mem_singleton.1 ha];exact⟨h2,h1⟩
def vF{read:Rd Nd}(hr:Vo hi x (PN hi x) read):Vo hi x (PL hi x) (SG read) :=
 Cb hr λn ⟨_,h1,h2,_⟩ _ _ _ hs hl h=>ahv hr _ [n] (abZ ⟨h2,h1⟩) hs hl h
def ZU:Vo hi x T2 (OR en):=Cb ML λt _=>OS λc _=>Cu (Cu (Ee λ_ _=>trivial) Jk) (Ee λ_ _=>trivial)
def ahw:Vo hi x T2 (Xd en):=Cb ML λt _=>Cu (Ee λ_ _=>trivial) (Ee λ_ _=>trivial)
def dL{c a b:Int}:Vo hi x T2 (Ph en c a b):=Cb ahw λs _=>Cb QT λm _=>Cb G5 λ_ _=>Cb QT λd _=>OS λg _=>OS λz _=>Cu Jk (Ee λ_ _=>trivial)
def dK{c a:Int}:Vo hi x T2 (NS en c a):=Cb G5 λ_ _=>WB (Cb ZU λa _=>dL) (Cb ZU λa _=>dL)
def ad0{b:List Pt}{c:Int}:Vo hi x T2 (SK en b c):=Cb ZU λv _=>Cu (Cu dK Jk) (OS λq _=>Cu Jk (Cu Jk dK))
def zK:∀(q:Nat) (l:List Pt) (c:Int),Vo hi x T2 (MA en q l c):=by
 intro q
 induction q with
 | zero=>intro l c _ _ _ _ _ h;cases h
 | succ q ih=>intro l c;exact Cb ad0 λp _=>WA (WB (ih _ _) (Ee λ_ _=>trivial))
def zL{c p:Int}:∀(l:List Pt) (acc:List Pc),Vo hi x T2 (MG c p l acc):=by
 intro l
 induction l with
 | nil=>intro acc;exact Ee λ_ _=>trivial
 | cons a l ih=>intro acc;exact OS λz _=>Cu Jk (Cu Jk (WA (ih _)))
def v8{op:ByteArray}{l r b:Nd}(hl:UL hi l)(hr:UL hi r)(h:l.AH<=r.AH)(e:Bb op l r=some b):UL hi b/\b.AH=l.AH:=by
 have ha:=((Kh l).1 hl).1
 have two:∀a∈[l,r],l.AH<=a.AH/\UL hi a:=λa ha=>by
   simp only[List.mem_cons,List.not_mem_nil,or_false] at ha;rcases ha with rfl | rfl
   exact⟨Int.le_refl _,hl⟩;exact⟨h,hr⟩
 have anw:∀a∈[r,l],l.AH<=a.AH/\UL hi a:=λa ha=>two a (by simp only[List.mem_cons,List.not_mem_nil,or_false] at ha ⊢;exact ha.symm);unfold Bb at e;revert e;cases BY op.data.toList IS.data.toList;cases BY op.data.toList FG.data.toList;intro h;cases h;exact⟨(Kh _).2 ⟨ha,two⟩,rfl⟩;cases J5 op IS JL 1 with
 | none=>intro h;cases h
 | some y=>intro h;cases h;exact⟨(Kh _).2 ⟨ha,anw⟩,rfl⟩
 cases J5 op IS JL 1 with
 | none=>intro h;cases h
 | some y=>intro h;cases h;exact⟨(Kh _).2 ⟨ha,anw⟩,rfl⟩
def aiS{α:Type}{P:α->List Tk->Prop}{yes:ByteArray->Rd α}{no:Rd α}(h1:∀t,Vo hi x P (yes t))(h2:Vo hi x P no):∀ops:List ByteArray,Vo hi x P (n5 yes no ops):=by
 intro ops
 induction ops with
 | nil=>exact h2
 | cons t ops ih=>exact WB (h1 t) ih
def Vx(hi:Int)(m:Rd Nd):Prop:=∀x,Vo hi x (PN hi x) m
def nA{sub:Rd Nd}(h:Vx hi sub)(op:ByteArray){l:Nd}(hl:UL hi l):Vo hi l.AH (λb _=>UL hi b/\b.AH=l.AH) (Rr en sub op l) :=
 Cb (P:=PN hi l.AH) (Cu TU (h _)) λr ⟨_,h1,h2,_⟩=>OS λb hb=>Ee λ_ _=>v8 hl h1 h2 hb
def adY{ops:List ByteArray}{sub:Rd Nd}(h:Vx hi sub):∀(q:Nat) (l:Nd),UL hi l->x<=l.AH->Vo hi l.AH (PN hi x) (LA en ops sub q l):=by
 intro q
 induction q with
 | zero=>intro l _ _ _ _ _ _ _ h;cases h
 | succ q ih =>
   intro l hl hx;refine aiS (λt=>Cb (nA h t hl) λb ⟨_,h1,h2⟩=>?_) (Ee λs hs=>⟨hl,hx,hs⟩) ops;rw[<- h2];exact ih b h1 (by omega)
structure VoE(hi:Int)(g:Ek->Rd Nd)(li:Rd (List Nd)):Prop where
 og:∀e,(∀t,e≠.wd t)->Vx hi (g e)
 ow:∀⦃t:Tk⦄ ⦃l s:List Tk⦄ ⦃a:Nd⦄ (x:Int),So hi (t::l)->x<=t.AH->g (.wd t) (t::l)=some (.inl a,s)->PN hi x a s/\So hi s/\Lo s x
 oli:∀x,Vo hi x (PL hi x) li
def alx:∀q:Nat,VoE hi (gP en q).1 (gP en q).2:=by
 intro q
 induction q with
 | zero =>
   constructor;intro e _ x _ _ _ _ _ h;cases h;intro _ _ _ _ x _ _ h;cases h;intro x _ _ _ _ _ h;cases h
 | succ q A =>
   have lo1:∀{t:Tk} {l:List Tk},So hi (t::l)->Lo (t::l) t.AH:=λ{t l} hs u hu=>by
     rcases List.mem_cons.1 hu with rfl | hu
     exact Int.le_refl _;exact hs.2.1 u hu
   have down:∀{x y:Int} {a:Nd} {s:List Tk},x<=y->PN hi y a s/\So hi s/\Lo s y->PN hi x a s/\So hi s/\Lo s x:=λhxy ⟨⟨a1,a2,a3⟩,a4,a5⟩=>⟨⟨a1,Int.le_trans hxy a2,a3⟩,a4,λu hu=>Int.le_trans hxy (a5 u hu)⟩;refine⟨λe hw x=>?_,λt l s a x hs hx h=>?_,λx=>vF (A.og .ex (by simp) x)⟩;rotate_left;have h:R0 en (gP en q).1 t (t::l)=some (.inl a,s):=h;have ht:=hs.1;have dt:Vo hi t.AH (PN hi t.AH) (U7 t):=RZ (Ee λs hs=>⟨Jr ht KV,Int.le_refl _,hs⟩);have nd:∀(k n:Int) (nm u:ByteArray),Vo hi t.AH (PN hi t.AH) (VV (FX (Ff k nm u n [] t.AH))):=λ_ _ _ _=>RZ (Ee λs hs=>⟨Jr ht KV,Int.le_refl _,hs⟩);refine down hx ((show Vo hi t.AH (PN hi t.AH) (R0 en (gP en q).1 t) from ?_) hs (lo1 hs) h)
   exact Cu (nd _ _ _ _) (Cu (nd _ _ _ _) (Cu (RZ (Cb QT λp _=>Ee λs hs=>⟨Jr ht KV,Int.le_refl _,hs⟩)) (Cu dt (Cu dt (Cu dt (Cu dt (Cu (A.og .ca (by simp) _) (Cu (A.og .ca (by simp) _) (Cu (A.og .ta (by simp) _)
     (Cu (RZ (SZ (λn=>n.AH) (A.og .ex (by simp) _) (λn l h=>h.2) λn ⟨_,h1,h2,_⟩=>Cb G5 λ_ _=>Ee λs hs=>⟨h1,h2,hs⟩)) Jk))))))))))
   show Vo hi x (PN hi x) (Pm en (gP en q).1 (gP en q).2 e);have lv:∀i,Vo hi x (PN hi x) (Ol en (gP en q).1 i):=λi=>SZ (λn=>n.AH) (A.og (.lv _) (by simp) x) (λn l h=>h.2) λN ⟨_,h1,h2,_⟩ _ _ _ hs hl h=>adY (A.og (.lv _) (by simp)) _ N h1 h2 hs hl h;unfold Pm;split;exact A.og (.lv _) (by simp) x
   . intro l a s hs hl h
     unfold Zg at h;cases hx:JC Vq l with
     | true =>
       rw[hx] at h;exact SZ (P2:=PN hi x) (λt=>t.AH) G5 (λt l h=>⟨h.1,h.2.2⟩) (λt ⟨_,h1,h2,_⟩=>Cb (A.og (.lv _) (by simp) _) λk ⟨_,h3,h4,_⟩=>Ee λs hs=>⟨Jr h2 (abZ ⟨h4,h3⟩),h1,hs⟩) hs hl h
     | false=>rw[hx] at h;exact A.og (.lv _) (by simp) x hs hl h
   refine SZ (λn=>n.AH) (A.og (.lv _) (by simp) x) (λn l h=>h.2) λN ⟨_,h1,h2,_⟩=>aiS (λt=>?_) (Ee λs hs=>⟨h1,h2,hs⟩) _;intro l b s hs hl h;obtain⟨⟨a1,a2⟩,a3,a4⟩:=nA (A.og (.lv _) (by simp)) t h1 hs hl h;exact⟨⟨a1,by omega,by rw[a2];exact a4⟩,a3,a4⟩;exact A.og .at_ (by simp) x;exact lv _
   . intro l b s hs hl h
     cases l with
     | nil=>cases h
     | cons t l =>
       have h1:=hl t (List.mem_cons_self ..);have h2:=hs.1;unfold Yn Vz at h;dsimp only at h;cases hk3:CZ t.kind 3 with
       | true =>
         rw[hk3] at h;exact SZ (P2:=PN hi x) (λp=>p.2) dJ (λp l h=>⟨h.1,h.2.2⟩) (λn ⟨_,h3,h4,_⟩=>WB (Ee λs hs=>⟨Jr h4 KV,h3,hs⟩) (Ee λs hs=>⟨Jr h4 KV,h3,hs⟩)) hs hl h
       | false =>
         rw[hk3] at h;dsimp only[cond] at h;cases hk:CZ t.kind 2 with
         | true =>
           rw[hk] at h;dsimp only at h;have hv:Vo hi t.AH (PN hi t.AH) (VV (Cw (LX en D9) λa=>L5 (Ct a) λc=>FX (Ff 11 bE t.text c [] t.AH))):=RZ (Cb ML λa _=>OS λz _=>Ee λs hs=>⟨Jr h2 KV,Int.le_refl _,hs⟩);exact down h1 (hv hs (lo1 hs) h)
         | false =>
           rw[hk] at h;obtain⟨c,hc,h⟩:=Jq h;cases c with
           | true=>exact down h1 (RZ (P:=PN hi t.AH) (Ee λs hs=>⟨Jr h2 KV,Int.le_refl _,hs⟩) hs (lo1 hs) h)
           | false=>exact A.ow x hs h1 h
   rename_i t;exact absurd rfl (hw t)
   exact vG λt h1 h2=>RZ (Cb G5 λ_ _=>Cb (A.og .ex (by simp) _) λa ⟨_,h3,h4,_⟩=>Cb G5 λ_ _=>Cb (A.oli _) λl ⟨_,hl⟩=>WA (Cb G5 λ_ _=>Ee λs hs=>⟨Jr h2 (λk hk=>by
     rcases List.mem_cons.1 hk with rfl | hk
     exact⟨h4,h3⟩;exact hl k hk),h1,hs⟩))
   exact SZ (λt=>t.AH) G5 (λt l h=>⟨h.1,h.2.2⟩) λt ⟨_,h1,h2,_⟩=>Cb G5 λ_ _=>Cb (A.og .ex (by simp) _) λa ⟨_,h3,h4,_⟩=>Cb G5 λ_ _=>Cb (P:=T2) (λ_ _ _ hs hl h=>zK _ _ _ hs hl h) λl _=>Cb G5 λe _=>WA (Cb (zL _ _) λr _=>Ee λs hs=>⟨(Kh _).2 ⟨h2,abZ ⟨h4,h3⟩⟩,h1,hs⟩)
end
end Mo
end Go.Proofs.YtpbkhogolfegfaaGreatDoor
namespace Go.Proofs.YtpbkhogolfegfaaGreatDoor
open AI Go LexS
namespace Mo
set_option maxRecDepth 100000
set_option maxHeartbeats 4000000
section
variable {hi x en:Int}
def anx:Vx hi (Nf en):=λx _ _ _ hs hl h=>(alx _).og .ex (by simp) x hs hl h
def zJ{kind:Int}:Vo hi x (PN hi x) (IM en (Nf en) kind) :=
 vG λt h1 h2=>RZ (Cu (Cb (vF TU) λl ⟨_,hl⟩=>Cb G5 λ_ _=>Ee λs hs=>⟨Jr h2 hl,h1,hs⟩) (Cb (anx _) λe ⟨_,h3,h4,_⟩=>Cb G5 λ_ _=>Ee λs hs=>⟨Jr h2 (abZ ⟨h4,h3⟩),h1,hs⟩))
def adZ{y:Int}{mk:List Nd->Nd}(hy:x<=y)(hm:∀l,(mk l).AH=y/\(mk l).kids=l)(hh:y<=hi):∀(q:Nat) (ns:List Nd) (un am:Bool),(∀a∈ns,y<=a.AH/\UL hi a)->Vo hi y (PN hi x) (Iy en (Nf en) mk q ns un am):=by
 intro q
 induction q with
 | zero=>intro ns un am _ _ _ _ _ _ h;cases h
 | succ q ih =>
   intro ns un am hn
   have go:∀(kind:Int) (iV iM:Bool),Vo hi y (PN hi x) (Cw (IM en (Nf en) kind) λc=>O4 (ns.length+1) (Iy en (Nf en) mk q (ns++[c]) iV iM)):=λkind iV iM =>
     Cb zJ λc ⟨_,h1,h2,_⟩=>WA (ih _ _ _ λa ha=>by
       rcases List.mem_append.1 ha with ha | ha
       exact hn a ha;rw[List.mem_singleton.1 ha];exact⟨h2,h1⟩)
   have fin:Vo hi y (PN hi x) (VV (FX (mk ns))):=RZ (Ee λs hs=>⟨(Kh _).2 ⟨by rw[(hm ns).1];exact hh,by rw[(hm ns).1,(hm ns).2];exact hn⟩,by rw[(hm ns).1];exact hy,by rw[(hm ns).1];exact hs⟩);intro l a s hs hl h;cases l with
   | nil=>cases h
   | cons t l =>
     unfold Iy Vz at h;dsimp only at h;exact Cu (go _ _ _) (Cu (Cu Jk (go _ _ _)) (Cu (Cu Jk (go _ _ _)) (Cu (Cu fin Jk) Jk))) hs hl h
def ahu:Vo hi x (PN hi x) (Qk en (Nf en)):=by
 intro l a s hs hl h;cases l with
 | nil=>cases h
 | cons t l =>
   unfold Qk Vz at h;dsimp only at h
   have art:Vo hi x (PN hi x) (MO en (Nf en)):=SZ (λt=>t.AH) G5 (λt l h=>⟨h.1,h.2.2⟩) λt ⟨_,h1,h2,_⟩=>Cb QT λn _=>Cb G5 λ_ _=>Cb ML λm _=>Cb aht λhd ⟨_,h3,h4,_⟩=>Cb G5 λ_ _ =>
     λ_ _ _ hs hl h=>adZ h1 (λl=>⟨rfl,rfl⟩) h2 _ [hd] false false (abZ ⟨h4,h3⟩) hs hl h
   exact Cu vE (Cu vE (Cu art Jk)) hs hl h
end
def aeJ:∀(n o:Nat) (t:List UInt8) (hi:Int),((o+t.length:Nat):Int)<=hi->So hi ((IG n o t).map IP)/\∀u∈(IG n o t).map IP,(o:Int)<=u.AH:=by
 intro n
 induction n with
 | zero=>intro o t hi _;exact⟨trivial,λu hu=>(by cases hu)⟩
 | succ n ih =>
   intro o t hi h;unfold IG;split;exact⟨trivial,λu hu=>(by cases hu)⟩;split;refine⟨⟨by show((o:Nat):Int)<=hi;omega,λu hu=>(by cases hu),trivial⟩,λu hu=>?_⟩;rw[List.mem_singleton.1 hu];exact Int.le_refl _
   obtain⟨h1,h2⟩:=ih (o+(A2 t).2+D2 (t.drop (A2 t).2)) ((t.drop (A2 t).2).drop (D2 (t.drop (A2 t).2))) hi (by
     have a1:=Pk (t.drop (A2 t).2);have a2:=(OJ t ‹_›).2;simp only[List.length_drop] at a1 ⊢;omega)
   refine⟨⟨by show((o:Nat):Int)<=hi;omega,λu hu=>?_,h1⟩,λu hu=>?_⟩;have:=h2 u hu;show((o:Nat):Int)<=u.AH;omega;rcases List.mem_cons.1 hu with rfl | hu
   exact Int.le_refl _;have:=h2 u hu;omega
def xC:∀(l acc:List Tok),(DW acc l).1=[]\/(DW acc l).1=acc++l:=by
 intro l
 induction l with
 | nil=>intro acc;right;simp[DW]
 | cons y l ih =>
   intro acc;unfold DW;split;exact .inl rfl;split;exact .inl rfl;rcases ih (acc++[y]) with h | h
   exact .inl h;right;rw[h,List.append_assoc];rfl
def aha(s:ByteArray):So ((s.data.toList.length:Nat):Int) (D3 s)/\Lo (D3 s) 0:=by
 unfold D3 Lt;split;exact⟨trivial,λu hu=>(by cases hu)⟩;rcases xC (Dl s.data.toList) [] with h | h
 rw[h];exact⟨trivial,λu hu=>(by cases hu)⟩;rw[h,List.nil_append];obtain⟨h1,h2⟩:=aeJ s.data.toList.length (D2 s.data.toList) (s.data.toList.drop (D2 s.data.toList)) ((s.data.toList.length:Nat):Int) (by have:=Pk s.data.toList;rw[List.length_drop];omega);exact⟨h1,λu hu=>by have:=h2 u hu;omega⟩
def alq{en hi:Int}:∀(q:Nat) (l:List Tk) (ks:List Nd) (r:List Nd×List Dg),So hi l->Lo l 0->(∀k∈ks,0<=k.AH/\UL hi k)->Jh en q l ks []=some r->r.2=[]->Gl l->l.length<=10000->∀k∈r.1,0<=k.AH/\UL hi k:=by
 intro q
 induction q with
 | zero=>intro l ks r _ _ _ h;cases h
 | succ q ih =>
   intro l ks r hs hl hk h hr hg hn;cases l with
   | nil=>cases h;exact hk
   | cons t l =>
     unfold Jh at h;rw[Ir (by simp)] at h;dsimp only[cond] at h;split at h;cases h;rename_i n s hi;obtain⟨⟨a1,a2,a3⟩,a4,a5⟩:=ahu hs hl hi;obtain⟨⟨j,rfl⟩,_⟩:=Mk hg hn hi;refine ih _ _ _ a4 a5 (λk hm=>?_) h hr (hg.drop j) (by rw[List.length_drop];omega);rcases List.mem_append.1 hm with hm | hm
     exact hk k hm;rw[List.mem_singleton.1 hm];exact⟨a2,a1⟩
     . exfalso
       have:∀(q:Nat) (l:List Tk) (ks:List Nd) (ds:List Dg) (r:List Nd×List Dg),Jh en q l ks ds=some r->ds.length<=r.2.length:=by
         intro q
         induction q with
         | zero=>intro l ks ds r h;cases h
         | succ q ih =>
           intro l ks ds r h;cases l with
           | nil=>cases h;exact Nat.le_refl _
           | cons t l =>
             unfold Jh at h;cases hd:Ez ((ds.length:Nat):Int) 20 with
             | false=>rw[hd] at h;cases h;exact Nat.le_refl _
             | true =>
               rw[hd] at h;dsimp only[cond] at h;split at h;cases h;exact ih _ _ _ _ h;have:=ih _ _ _ _ h;simp only[List.length_append,List.length_singleton] at this;omega
       have:=this _ _ _ _ _ h;rw[hr] at this;simp at this
def am7(n:Nd):aO n->aO (KY n):=by
 refine Wd (p:=λn=>aO n->aO (KY n)) (λn ih h=>?_) n;obtain⟨h1,h2⟩:=(Tf n).1 h;refine(Tf _).2 ⟨by rw[rD];exact h1,λk hk=>?_⟩;rw[MH] at hk;obtain⟨y,hy,rfl⟩:=List.mem_map.1 hk;exact ih y hy (h2 y hy)
end Mo
end Go.Proofs.YtpbkhogolfegfaaGreatDoor
namespace Go.Proofs.YtpbkhogolfegfaaGreatDoor
open AI Go
namespace Mo
set_option maxRecDepth 100000
set_option maxHeartbeats 4000000
@[kK] def qN(s:ByteArray):Nd×List Dg:=match Nf ((s.data.toList.length:Nat):Int) (D3 s) with
 | some x=>ai9 x
 | none=>(z0,[])
@[kK] def ppV(s:ByteArray):Nd×List Dg:=match Jh ((s.data.toList.length:Nat):Int) ((D3 s).length+1) (D3 s) [] [] with
 | some x=>vS x.1 x.2
 | none=>(z0,[])
def acA{s:ByteArray}(h:PK s=0):Dr s=some (qN s):=by
 obtain⟨r,l,h1,h2⟩:=tW h;unfold qN;rw[h1];exact h2
def akT{s:ByteArray}(h:PK s=0):Cg s=some (ppV s):=by
 obtain⟨ks,ds,h1,h2,_⟩:=XR h;unfold ppV;rw[h1];exact h2
abbrev t1:=E4
abbrev t6:=Av
def anp:Kd (qN t1).1/\(qN t1).1.kind=16/\DG (qN t1).1<=100/\Nh (qN t1).1<=30:=by
 obtain⟨r,l,h1,h2⟩:=tW (s:=t1) (by kernel_rfl);rw[acA (by kernel_rfl)] at h2;refine⟨?_,by kernel_rfl,Nat.le_of_ble_eq_true (by kernel_rfl),Nat.le_of_ble_eq_true (by kernel_rfl)⟩;have h2:=Option.some.inj h2;have hd:(qN t1).2.length=0:=by kernel_rfl
 rw[h2] at hd ⊢;cases r with
 | inr d=>cases hd
 | inl n =>
   cases l with
   | cons t l=>cases hd
   | nil =>
     have hv:=(aiQ (hZ t1) h1).1;unfold ai9 acb at hd ⊢;dsimp only at hd ⊢;by_cases hc:2000 < DG n\/40 < Nh n;rw[if_pos hc] at hd;cases hd;rw[if_neg hc];exact hv
def wV:Kg=some true:=by
 obtain⟨e1,k1,z1,d1⟩:=anp;obtain⟨ok1,ps1⟩:=sE _ e1 (by omega);have v1:okV (qN t1).1:=⟨.inr ⟨by omega,e1⟩,by omega,by omega⟩
 have v6:K4 (ppV t6).1/\okV (ppV t6).1:=by
   have hp:=akT (s:=t6) (by kernel_rfl);have hd:(ppV t6).2.length=0:=by kernel_rfl
   rcases Vu (n:=(ppV t6).1) (ds:=(ppV t6).2) hp with ⟨h,_⟩ | ⟨_,ks,_,_,h3,h4,h5,h6⟩
   exact absurd (List.eq_nil_of_length_eq_zero hd) h;rw[h3] at h5 h6 ⊢;have hz:DG (GF ks)=1+Gk ks:=rfl;exact⟨(cK h4 (by omega)).1,qU h4 h5 h6⟩
 have Gz:ME (qN t1).1=some (KY (qN t1).1):=acV (by omega);have hsm:Gv (KY (qN t1).1) (KY (qN t1).1)=some true:=acX (by have:=adC (qN t1).1;omega) (am7 _ ps1);have hv6:Es (ppV t6).1=some true:=by rw[iB v6.1,C8.2 v6.2]
 have hv1:Es (KY (qN t1).1)=some true:=by rw[iB (am2 ok1),C8.2 ((akM _).2 v1)]
 have hva:Es ⟨12,eA,ByteArray.empty,0,0,0,0,⟨0,[]⟩,[],0⟩=some false:=by
   rw[iB ((Te rfl rfl).1),Zd];rintro⟨⟨h,_⟩ | ⟨_,h⟩,_⟩;exact absurd h (by decide)
   . have:=((Jo _).1 h).1
     unfold Tv at this;rcases this with h | h | h | h | h | h | h | h
     exact absurd h.1 (by decide);exact h.2.1.2.2.1 (by unfold tE;simp)
     all_goals exact absurd h.1 (by decide)
 have h7:(⟨16,P8,ByteArray.empty,0,0,0,0,⟨0,[]⟩,[⟨16,JL,ByteArray.empty,0,0,0,0,⟨0,[]⟩,[⟨11,ByteArray.empty,EK,3,0,0,0,⟨0,[]⟩,[],0⟩,⟨12,aS,ByteArray.empty,0,0,0,0,⟨0,[]⟩,[],0⟩],0⟩,⟨15,ByteArray.empty,ByteArray.empty,0,0,0,0,⟨0,[]⟩,[⟨16,GX,ByteArray.empty,0,0,0,0,⟨0,[]⟩,[⟨12,bS,ByteArray.empty,0,0,0,0,⟨0,[]⟩,[],0⟩,⟨12,cS,ByteArray.empty,0,0,0,0,⟨0,[]⟩,[],0⟩],0⟩],0⟩],0⟩:Nd)=KY (qN t1).1:=by kernel_rfl
 unfold Kg;rw[acA (s:=t1) (by kernel_rfl)];simp only[acA (s:=EI) (by kernel_rfl),acA (s:=M7) (by kernel_rfl),acA (s:=BE) (by kernel_rfl),akT (s:=Ev) (by kernel_rfl),akT (s:=t6) (by kernel_rfl),JV,La,Option.bind_some];rw[h7];simp only[Gz,hsm,hv6,hv1,hva,Option.bind_some];show(_:Option Bool)=some true
 kernel_rfl
end Mo
end Go.Proofs.YtpbkhogolfegfaaGreatDoor
namespace Go.Proofs.YtpbkhogolfegfaaGreatDoor
open AI Go LexS
namespace Mo
set_option maxRecDepth 100000
set_option maxHeartbeats 4000000
def byt{p:Nat->Bool}(h:(List.range 256).all p=true)(c:UInt8):p c.toNat=true:=List.all_eq_true.1 h _ (List.mem_range.2 c.toNat_lt)
def acw{o:Option Bool}{b:Bool}(h:(match o with | some x=>x == b | none=>false)=true):o=some b:=by
 cases o with
 | none=>cases h
 | some x=>rw[eq_of_beq h]
def agf(c:UInt8):KM ((c.toNat:Nat):Int)=some (cin 1 c):=acw (byt (p:=λn=>match KM ((n:Nat):Int) with | some x=>x == ((L9 n &&& 1) != 0) | none=>false) (by kernel_rfl) c)
def gJ(c:UInt8):GB ((c.toNat:Nat):Int)=some (cin 8 c):=acw (byt (p:=λn=>match GB ((n:Nat):Int) with | some x=>x == ((L9 n &&& 8) != 0) | none=>false) (by kernel_rfl) c)
def agd(c:UInt8):I7 ((c.toNat:Nat):Int)=some (cin 2 c):=acw (byt (p:=λn=>match I7 ((n:Nat):Int) with | some x=>x == ((L9 n &&& 2) != 0) | none=>false) (by kernel_rfl) c)
def gK(c:UInt8):GC ((c.toNat:Nat):Int)=some (cin 4 c):=acw (byt (p:=λn=>match GC ((n:Nat):Int) with | some x=>x == ((L9 n &&& 4) != 0) | none=>false) (by kernel_rfl) c)
def acG(c:UInt8):Km ((c.toNat:Nat):Int)=some (cin 30 c):=acw (byt (p:=λn=>match Km ((n:Nat):Int) with | some x=>x == ((L9 n &&& 30) != 0) | none=>false) (by kernel_rfl) c)
def aaC(c:UInt8):cin 30 c=(cin 2 c||(cin 4 c||(cin 8 c||cin 16 c))):=by
 have:=byt (p:=λn=>((L9 n &&& 30) != 0) == (((L9 n &&& 2) != 0)||(((L9 n &&& 4) != 0)||(((L9 n &&& 8) != 0)||((L9 n &&& 16) != 0))))) (by kernel_rfl) c;exact eq_of_beq this
def aaB(c:UInt8):cin 26 c=(cin 30 c&&!cin 4 c):=by
 have:=byt (p:=λn=>((L9 n &&& 26) != 0) == (((L9 n &&& 30) != 0)&&!((L9 n &&& 4) != 0))) (by kernel_rfl) c;exact eq_of_beq this
def ajh(c:UInt8)(h:cin 8 c=true):cin 2 c=false/\cin 4 c=false:=by
 have:=byt (p:=λn=>!((L9 n &&& 8) != 0)||(!((L9 n &&& 2) != 0)&&!((L9 n &&& 4) != 0))) (by kernel_rfl) c;have h':((L9 c.toNat &&& 8) != 0)=true:=h;rw[h'] at this;simp only[Bool.not_true,Bool.false_or,Bool.and_eq_true,Bool.not_eq_true'] at this;exact this
def Vb(c d:UInt8):CZ ((c.toNat:Nat):Int) ((d.toNat:Nat):Int)=(c == d):=by
 rw[Bool.eq_iff_iff,Od,beq_iff_eq,beq_iff_eq];constructor;intro h;exact UInt8.toNat_inj.1 (by omega);intro h;rw[h]
def ajm(c:UInt8):CZ ((c.toNat:Nat):Int) 10=(c == 10):=Vb c 10
def aaV(c:UInt8):CZ ((c.toNat:Nat):Int) 46=(c == 46):=Vb c 46
def ajn(c:UInt8):CZ ((c.toNat:Nat):Int) 45=(c == 45):=Vb c 45
def ajo(c:UInt8):CZ ((c.toNat:Nat):Int) 48=(c == 48):=Vb c 48
section
variable {s:ByteArray} (hs:s.data.toList.length<=100000)
def SC{α:Type}{l:List α}{i:Nat}:HU l ((i:Nat):Int)=l[i]?:=by
 unfold HU;rw[if_pos (by omega)];rfl
def Ml{α:Type}(l:List α)(k:Nat):(l.length<=k/\l.drop k=[])\/∃x,k < l.length/\l[k]?=some x/\l.drop k=x::l.drop (k+1):=by
 rcases Nat.lt_or_ge k l.length with h | h
 exact .inr ⟨l[k],h,List.getElem?_eq_getElem h,List.drop_eq_getElem_cons h⟩;exact .inl ⟨h,List.drop_eq_nil_of_le h⟩
def QO{a b:Nat}(h1:a<=b)(h2:b<=s.data.toList.length):QN s (a:Int) (b:Int)=some ⟨((s.data.toList.drop a).take (b - a)).toArray⟩:=by
 unfold QN;rw[if_pos ⟨by omega,by omega,by omega⟩];rfl
def mJ{b:Int->Option (Lp Int Int Int)}{m:Nat}(hb:∀(k:Nat) c,s.data.toList[k]?=some c->b (k:Int)=if cin m c then some (.nx ((k+1:Nat):Int)) else some (.ex (k:Int)))(he:∀k:Nat,s.data.toList.length<=k->b (k:Int)=some (.ex (k:Int))) :
   ∀(j k:Nat),s.data.toList.length - k<=j->EQ b (j+1) (k:Int)=some (.inl ((k+Be m (s.data.toList.drop k):Nat):Int)):=by
 intro j
 induction j with
 | zero =>
   intro k hk;show(b (k:Int)).bind _=_;rw[he k (by omega),List.drop_eq_nil_of_le (by omega)];rfl
 | succ j ih =>
   intro k hk;show(b (k:Int)).bind _=_;rcases Ml s.data.toList k with ⟨h1,h2⟩ | ⟨c,h1,h2,h3⟩
   rw[he k h1,h2];rfl;rw[hb k c h2,h3,Dt];by_cases hc:cin m c=true;rw[if_pos hc,if_pos hc];show EQ b (j+1) ((k+1:Nat):Int)=_;rw[ih (k+1) (by omega)];congr 2;omega;rw[if_neg hc,if_neg hc];rfl
include hs
def aiD{k:Nat}(hk:k<=100000):Ll s (k:Int)=some ((k+Be 30 (s.data.toList.drop k):Nat):Int):=by
 unfold Ll;rw[Fj (mJ (s:=s) (m:=30) (b:=λx=>Ko s x) (λk c hc=>?_) (λk hk=>?_) _ k (Nat.le_refl _)),Option.bind_some];rfl;have GM:=(List.getElem?_eq_some_iff.1 hc).1;unfold Ko;rw[Ir (by omega),SC,hc];dsimp only[cond,Option.bind];rw[acG,CM (by omega)];cases cin 30 c<;>rfl
 unfold Ko;rw[Ic (by omega)];rfl
def lP{k:Nat}(hk:k<=100000):E5 s (k:Int)=some ((k+Be 8 (s.data.toList.drop k):Nat):Int):=by
 unfold E5;rw[Fj (mJ (s:=s) (m:=8) (b:=λx=>Hl s x) (λk c hc=>?_) (λk hk=>?_) _ k (Nat.le_refl _)),Option.bind_some];rfl;have GM:=(List.getElem?_eq_some_iff.1 hc).1;unfold Hl;rw[Ir (by omega),SC,hc];dsimp only[cond,Option.bind];rw[gJ,CM (by omega)];cases cin 8 c<;>rfl
 unfold Hl;rw[Ic (by omega)];rfl
def lO{k:Nat}{t:ByteArray}(hk:k<=s.data.toList.length)(ht:t.data.toList.length<=100000):Iz s (k:Int) t=some (t.data.toList.isPrefixOf (s.data.toList.drop k)):=by
 unfold Iz;rw[Ni,KZ (by omega)];by_cases h:k+t.data.toList.length<=s.data.toList.length;rw[Y7 (by omega),CM (by omega)];dsimp only[cond];rw[show(k:Int)+((t.data.toList.length:Nat):Int)=((k+t.data.toList.length:Nat):Int) by omega,QO (by omega) h,Option.bind_some,show k+t.data.toList.length - k=t.data.toList.length by omega,T4];dsimp only;rw[List.toList_toArray];cases List.take t.data.toList.length (List.drop k s.data.toList) == t.data.toList<;>rfl
 rw[Vm (by omega)];dsimp only[cond];congr 1;symm;apply beq_false_of_ne;intro e;have:=congrArg List.length e;rw[List.length_take,List.length_drop] at this;omega
omit hs in
def qQ{k:Nat}(hk:k<=s.data.toList.length):Ec s (k:Int)=some (free (s.data.toList.drop k)):=by
 unfold Ec free;rcases Ml s.data.toList k with ⟨h1,h2⟩ | ⟨c,h1,h2,h3⟩
 rw[Y7 (by omega),h2];rfl;rw[Vm (by omega),SC,h2,h3];dsimp only[cond,Option.bind,GQ,List.head?_cons];rw[acG,aaV];dsimp only;have:(some c == some (46:UInt8))=(c == 46):=rfl;rw[this];cases cin 30 c<;>cases c == 46<;>rfl
def Qp(t:List UInt8):Nat:=(t.takeWhile (λc=>c != 10)).length
omit hs in
def Wb(c:UInt8)(t:List UInt8):Qp (c::t)=if c == 10 then 0 else 1+Qp t:=by
 unfold Qp;rw[List.takeWhile_cons,bne];cases c == 10;simp only[Bool.not_false,if_true,List.length_cons,Bool.false_eq_true,if_false];omega;rfl
omit hs in
def wM(t:List UInt8):Gb true t=Qp t+Gb false (t.drop (Qp t)):=by
 induction t with
 | nil=>rfl
 | cons c t ih =>
   rw[Wb];by_cases hc:c=10;subst hc;exact(j5 t).trans (by simp);have:(c == 10)=false:=beq_false_of_ne hc;rw[this,aa7 c t hc,ih,if_neg (by simp),Nat.add_comm 1 (Qp t),List.drop_succ_cons];omega
def akY:∀(j k:Nat),s.data.toList.length - k<=j->k<=s.data.toList.length->EQ (λx=>Ew s x) (j+1) (k:Int)=some (.inl ((k+Qp (s.data.toList.drop k):Nat):Int)):=by
 have stop:∀k:Nat,s.data.toList.length<=k->Ew s (k:Int)=some (.ex (k:Int)):=λk h=>by
   unfold Ew;rw[Ic (by omega)];rfl
 intro j
 induction j with
 | zero =>
   intro k hk hl;show(Ew s (k:Int)).bind _=_;rw[stop k (by omega),List.drop_eq_nil_of_le (by omega)];rfl
 | succ j ih =>
   intro k hk hl;show(Ew s (k:Int)).bind _=_;rcases Ml s.data.toList k with ⟨h1,h2⟩ | ⟨c,h1,h2,h3⟩
   . rw[stop k h1,h2];rfl
   have:Ew s (k:Int)=if (c == 10)=true then some (.ex (k:Int)) else some (.nx ((k+1:Nat):Int)):=by
     unfold Ew;rw[Ir (by omega),SC,h2];dsimp only[cond,Option.bind];rw[ajm,CM (by omega)];cases c == 10<;>rfl
   rw[this,h3,Wb];cases c == 10;show EQ (λx=>Ew s x) (j+1) ((k+1:Nat):Int)=_;rw[ih (k+1) (by omega) (by omega)];congr 2;simp only[Bool.false_eq_true,if_false];omega;rfl
omit hs in
def acd(t:List UInt8):Qp t<=t.length:=(List.takeWhile_sublist _).length_le
def xT:∀(j k:Nat),s.data.toList.length - k<=j->k<=s.data.toList.length->∃r,EQ (λx=>Dx s x) (j+1) (k:Int)=some r/\(r=.inl ((k+Gb false (s.data.toList.drop k):Nat):Int)\/r=.inr ((k+Gb false (s.data.toList.drop k):Nat):Int)):=by
 have stop:∀k:Nat,s.data.toList.length<=k->Dx s (k:Int)=some (.ex (k:Int)):=λk h=>by
   unfold Dx;rw[Ic (by omega)];rfl
 intro j
 induction j with
 | zero =>
   intro k hk hl;refine⟨.inl (k:Int),?_,.inl ?_⟩
   . show(Dx s (k:Int)).bind _=_
     rw[stop k (by omega)];rfl
   rw[List.drop_eq_nil_of_le (by omega)];rfl
 | succ j ih =>
   intro k hk hl;rcases Ml s.data.toList k with ⟨h1,h2⟩ | ⟨c,h1,h2,h3⟩
   . refine⟨.inl (k:Int),?_,.inl ?_⟩
     . show(Dx s (k:Int)).bind _=_
       rw[stop k h1];rfl
     rw[h2];rfl
   . have e:Dx s (k:Int)=cond (cin 1 c) (some (.nx ((k+1:Nat):Int))) (cond (([47,47]:List UInt8).isPrefixOf (s.data.toList.drop k)) (some (.nx ((k+Qp (s.data.toList.drop k):Nat):Int))) (some (.rt (k:Int)))):=by
       unfold Dx;rw[Ir (by omega),SC,h2];dsimp only[cond,Option.bind];rw[agf,CM (by omega)];dsimp only;rw[lO hs hl (show(qP).data.toList.length<=100000 by decide)];rw[show(qP).data.toList=[47,47] from rfl];dsimp only;rw[Fj (akY hs _ k (Nat.le_refl _) hl)];rfl
     cases hw:cin 1 c with
     | true =>
       obtain⟨r,h4,h5⟩:=ih (k+1) (by omega) (by omega);refine⟨r,?_,?_⟩;show(Dx s (k:Int)).bind _=_;rw[e,hw];exact h4
       have:k+Gb false (s.data.toList.drop k)=k+1+Gb false (s.data.toList.drop (k+1)):=by
         rw[h3];show k+(if false=true then _ else if cin 1 c=true then 1+Gb false (s.data.toList.drop (k+1)) else _)=_
         rw[if_neg (by simp),if_pos hw];omega
       rw[this];exact h5
     | false =>
       cases hp:([47,47]:List UInt8).isPrefixOf (s.data.toList.drop k) with
       | false =>
         refine⟨.inr (k:Int),?_,.inr ?_⟩;show(Dx s (k:Int)).bind _=_;rw[e,hw,hp];rfl;rw[j6 _ (by rw[h3];exact hw) hp];rfl
       | true =>
         have fG:1<=Qp (s.data.toList.drop k):=by
           rw[h3] at hp ⊢;rw[Wb]
           have:c=47:=by
             have:=hp;simp only[List.isPrefixOf,Bool.and_eq_true] at this;exact(eq_of_beq this.1).symm
           rw[this,if_neg (by decide)];omega
         have hl3:=acd (s.data.toList.drop k);rw[List.length_drop] at hl3;obtain⟨r,h4,h5⟩:=ih (k+Qp (s.data.toList.drop k)) (by omega) (by omega);refine⟨r,?_,?_⟩;show(Dx s (k:Int)).bind _=_;rw[e,hw,hp];exact h4
         have:k+Gb false (s.data.toList.drop k)=k+Qp (s.data.toList.drop k)+Gb false (s.data.toList.drop (k+Qp (s.data.toList.drop k))):=by
           rw[WT _ hp,wM,List.drop_drop];omega
         rw[this];exact h5
def acF{k:Nat}(hk:k<=s.data.toList.length):Kl s (k:Int)=some ((k+D2 (s.data.toList.drop k):Nat):Int):=by
 obtain⟨r,h1,h2⟩:=xT hs _ k (Nat.le_refl _) hk;unfold Kl;rw[Fj h1,Option.bind_some];rcases h2 with rfl | rfl<;>rfl
omit hs in
def ajj(t:List UInt8):EP t=(decide (10<=t.length)&&(List.range' 0 10).all (FR t)):=by
 unfold EP;rw[List.range_eq_range']
def akX{k:Nat}(hk:k<=s.data.toList.length):LN s (k:Int)=some (EP (s.data.toList.drop k)):=by
 rw[ajj];unfold LN;rw[KZ (by omega),List.length_drop];by_cases hl:10<=s.data.toList.length - k
 . rw[Ic (by omega),decide_eq_true hl]
   dsimp only[cond];rw[Bool.true_and]
   have Gi:∀i:Nat,i < 10->FN s (k:Int) (i:Int)=if FR (s.data.toList.drop k) i=true then some (.nx ((i+1:Nat):Int)) else some (.rt false):=by
     intro i hi;obtain⟨c,hc⟩:∃c,s.data.toList[k+i]?=some c:=⟨_,List.getElem?_eq_getElem (by omega)⟩;have iQ:(s.data.toList.drop k)[i]?=some c:=by rw[List.getElem?_drop];exact hc
     unfold FN;rw[Ir (by omega),CM (by omega),show(k:Int)+(i:Int)=((k+i:Nat):Int) by omega,SC,hc];dsimp only[cond,Option.bind];rw[ajn,gJ,CM (by omega)];have e:(some c == some (45:UInt8))=(c == 45):=rfl
     have alU:i=4\/i=7->FR (s.data.toList.drop k) i=(c == 45):=λh=>by
       unfold FR;rw[if_pos h,iQ,e]
     by_cases h4:i=4;rw[JS (by omega),alU (Or.inl h4)];cases c == 45<;>rfl
     rw[K9 (by omega)];by_cases h7:i=7;rw[JS (by omega),alU (Or.inr h7)];cases c == 45<;>rfl
     rw[K9 (by omega)]
     have dg:FR (s.data.toList.drop k) i=cin 8 c:=by
       unfold FR;rw[if_neg (by omega)];rw[<- List.head?_drop] at iQ;cases hd:(s.data.toList.drop k).drop i with
       | nil=>rw[hd] at iQ;cases iQ
       | cons a l=>rw[hd] at iQ;cases iQ;rfl
     rw[dg];cases cin 8 c<;>rfl
   have key:∀d i:Nat,i+d=10->EQ (λx=>FN s (k:Int) x) (d+1) (i:Int)=some (if (List.range' i d).all (FR (s.data.toList.drop k))=true then .inl () else .inr false):=by
     intro d
     induction d with
     | zero =>
       intro i hi;show(FN s (k:Int) (i:Int)).bind _=_;unfold FN;rw[Ic (by omega)];rfl
     | succ d ih =>
       intro i hi;show(FN s (k:Int) (i:Int)).bind _=_;rw[Gi i (by omega),List.range'_succ,List.all_cons];by_cases hd:FR (s.data.toList.drop k) i=true;rw[if_pos hd,hd,Bool.true_and];exact ih (i+1) (by omega);rw[if_neg hd,Bool.eq_false_iff.2 hd];rfl
   have:=key 10 0 rfl;rw[show((0:Nat):Int)=0 from rfl] at this;rw[Fj this,Option.bind_some];cases (List.range' 0 10).all (FR (s.data.toList.drop k))<;>rfl
 rw[Ir (by omega),decide_eq_false hl];rfl
end
end Mo
end Go.Proofs.YtpbkhogolfegfaaGreatDoor
namespace Go.Proofs.YtpbkhogolfegfaaGreatDoor
open AI Go LexS
namespace Mo
set_option maxRecDepth 100000
set_option maxHeartbeats 4000000
def x6(t:List UInt8)(h:GQ 8 t=false):Be 8 t=0:=by
 cases t with
 | nil=>rfl
 | cons c t=>rw[Dt,if_neg (by have:cin 8 c=false:=h;simp[this])]
def adi(u:List UInt8)(hf:free (u.drop 2)=true)(h1:GQ 8 u=true)(h2:GQ 8 (u.drop 1)=true):Be 8 u=2:=by
 match u,h1,h2 with
 | [c],_,h2=>simp[GQ] at h2
 | c::d::v,h1,h2 =>
   have e1:cin 8 c=true:=h1;have e2:cin 8 d=true:=h2;rw[Dt,if_pos e1,Dt,if_pos e2]
   have e3:Be 8 v=0:=by
     apply x6;cases v with
     | nil=>rfl
     | cons x v =>
       have YS:free (x::v)=true:=hf;unfold free GQ at YS;dsimp only at YS;rw[aaC] at YS;show cin 8 x=false;cases hx:cin 8 x with
       | false=>rfl
       | true=>rw[hx] at YS;simp at YS
   omega
def adP(u:List UInt8)(h:Be 8 u=2):GQ 8 u=true/\GQ 8 (u.drop 1)=true:=by
 match u,h with
 | [],h=>simp[Tg] at h
 | [c],h =>
   rw[Dt] at h;split at h;rw[Tg] at h;omega;omega
 | c::d::v,h =>
   rw[Dt] at h;by_cases hc:cin 8 c=true;rw[if_pos hc,Dt] at h;by_cases hd:cin 8 d=true;exact⟨hc,hd⟩;rw[if_neg hd] at h;omega;rw[if_neg hc] at h;omega
def oV(t:List UInt8)(d e:Nat)(hd:d=Be 8 t)(he:e=Be 8 (t.drop (d+1)))(hn:EP t=false)(aG:(t.drop d).head?=some 46) :
   GI t=if ¬(t.head?=some 48/\1 < d)/\d<=10/\e=2/\free (t.drop (d+3))=true then (4,d+3) else (0,0):=by
 unfold GI;simp only[hn,Bool.false_eq_true,if_false,<- hd];by_cases h1:t.head?=some 48/\1 < d;rw[if_pos h1,if_neg (λh=>h.1 h1)];rw[if_neg h1,if_pos aG];by_cases h2:10 < d\/GQ 8 (t.drop (d+1))=false\/GQ 8 (t.drop (d+2))=false;rw[if_pos h2,if_neg];rintro⟨_,h3,h4,_⟩;rw[he] at h4;have:=adP _ h4;rw[List.drop_drop] at this;rcases h2 with h | h | h
 omega;rw[h] at this;simp at this;rw[show d+1+1=d+2 from rfl,h] at this;simp at this;rw[if_neg h2]
 have i1:GQ 8 (t.drop (d+1))=true:=by
   cases hh:GQ 8 (t.drop (d+1)) with
   | true=>rfl
   | false=>exact absurd (.inr (.inl hh)) h2
 have i2:GQ 8 (t.drop (d+2))=true:=by
   cases hh:GQ 8 (t.drop (d+2)) with
   | true=>rfl
   | false=>exact absurd (.inr (.inr hh)) h2
 by_cases h3:free (t.drop (d+3))=true
 have h5:e=2:=by
   rw[he];refine adi _ ?_ i1 ?_;rw[List.drop_drop];exact h3;rw[List.drop_drop];exact i2
 rw[if_pos h3,if_pos ⟨h1,by omega,h5,h3⟩];rw[if_neg h3,if_neg (λh=>h3 h.2.2.2)]
def oW(t:List UInt8)(d:Nat)(hd:d=Be 8 t)(hn:EP t=false)(aG:¬(t.drop d).head?=some 46) :
   GI t=if ¬(t.head?=some 48/\1 < d)/\d<=12/\free (t.drop d)=true then (3,d) else (0,0):=by
 unfold GI;simp only[hn,Bool.false_eq_true,if_false,<- hd];by_cases h1:t.head?=some 48/\1 < d;rw[if_pos h1,if_neg (λh=>h.1 h1)];rw[if_neg h1,if_neg aG];by_cases h2:12 < d;rw[if_pos h2,if_neg (λh=>by omega)];rw[if_neg h2];by_cases h3:free (t.drop d)=true;rw[if_pos h3,if_pos ⟨h1,by omega,h3⟩];rw[if_neg h3,if_neg (λh=>h3 h.2.2)]
def L1(r:Nat×Nat)(t:List UInt8)(k:Nat)(x:Tk×Bool):Prop:=(x.2=true->r.1≠0/\x.1=IP (r.1,t.take r.2,k))/\(x.2=false->r.1=0)
def L1.no{t:List UInt8}{k:Nat}{x:Tk}:L1 (0,0) t k (x,false):=⟨λh=>(by cases h),λ_=>rfl⟩
def L1.yes{q n:Nat}(hq:q≠0){t:List UInt8}{k:Nat}:L1 (q,n) t k (IP (q,t.take n,k),true):=⟨λ_=>⟨hq,rfl⟩,λh=>(by cases h)⟩
def L1.if{p:Prop}[Decidable p]{b:Bool}(hp:p↔b=true){q n:Nat}(hq:q≠0){t:List UInt8}{k:Nat}:L1 (if p then (q,n) else (0,0)) t k (IP (q,t.take n,k),b):=by
 cases b;rw[if_neg (λh=>by cases hp.1 h)];exact L1.no;rw[if_pos (hp.2 rfl)];exact L1.yes hq
section
variable {s:ByteArray} (hs:s.data.toList.length<=100000)
include hs
def acp{k d e:Nat}(hk:k+d<=s.data.toList.length)(he:e=Be 8 ((s.data.toList.drop k).drop (d+1)))(A:Int->ByteArray->Option (Tk×Bool))(B:ByteArray->Option (Tk×Bool)) :
   cond (Ez ((k+d:Nat):Int) ((s.data.toList.length:Nat):Int)) ((HU s.data.toList ((k+d:Nat):Int)).bind λc=>cond (CZ ((c.toNat:Nat):Int) 46) ((E5 s (Bt ((k+d:Nat):Int) 1)).bind λy6=>(QN s (k:Int) y6).bind λs7=>A y6 s7) ((QN s (k:Int) ((k+d:Nat):Int)).bind λs9=>B s9)) ((QN s (k:Int) ((k+d:Nat):Int)).bind λs11=>B s11)
     = if ((s.data.toList.drop k).drop d).head?=some 46 then A ((k+(d+1+e):Nat):Int) ⟨((s.data.toList.drop k).take (d+1+e)).toArray⟩ else B ⟨((s.data.toList.drop k).take d).toArray⟩:=by
 rw[QO (by omega) hk,show k+d - k=d by omega];rcases Ml s.data.toList (k+d) with ⟨h1,h2⟩ | ⟨c,h1,h2,h3⟩
 rw[Ic (by omega),List.drop_drop,h2,if_neg (by simp)];rfl;rw[Ir (by omega),SC,h2,List.drop_drop,h3,List.head?_cons];dsimp only[cond,Option.bind];rw[aaV];by_cases hc:c=46;subst hc;rw[if_pos rfl,CM (by omega),show((k+d:Nat):Int)+1=((k+d+1:Nat):Int) by omega,lP hs (by omega)];have e1:k+d+1+Be 8 (s.data.toList.drop (k+d+1))=k+(d+1+e):=by rw[he,List.drop_drop,Nat.add_assoc k d 1];omega
 rw[e1];have e2:=LV 8 ((s.data.toList.drop k).drop (d+1));rw[<- he,List.drop_drop,List.length_drop] at e2;dsimp only;rw[QO (by omega) (by omega),show k+(d+1+e) - k=d+1+e by omega];rfl;rw[if_neg (by simpa using hc)]
 have:(c == 46)=false:=beq_false_of_ne hc;rw[this]
def xS{k:Nat}(hk:k < s.data.toList.length)(h8:GQ 8 (s.data.toList.drop k)=true):∃x,I2 s (k:Int)=some x/\L1 (GI (s.data.toList.drop k)) (s.data.toList.drop k) k x:=by
 unfold I2;rw[akX hs (by omega),Option.bind_some];generalize ht:s.data.toList.drop k=t at *;have GM:t.length=s.data.toList.length - k:=by rw[<- ht,List.length_drop]
 cases hd:EP t with
 | true =>
   have pK:10<=t.length:=by
     unfold EP at hd;rw[Bool.and_eq_true] at hd;exact of_decide_eq_true hd.1
   dsimp only[cond];rw[CM (by omega),show(k:Int)+10=((k+10:Nat):Int) by omega,QO (by omega) (by omega),Option.bind_some,qQ (by omega),Option.bind_some,show k+10 - k=10 by omega,ht];refine⟨_,rfl,?_⟩;unfold GI;rw[if_pos hd,<- List.drop_drop,ht];exact L1.if Iff.rfl (by decide)
 | false =>
   rw[cond_false,lP hs (by omega),Option.bind_some,ht];generalize hde:Be 8 t=d at *;have aF:1<=d:=by rw[<- hde];exact SF 8 t h8
   have hdl:d<=t.length:=by rw[<- hde];exact LV 8 t
   obtain⟨e,he⟩:∃e,e=Be 8 ((s.data.toList.drop k).drop (d+1)):=⟨_,rfl⟩;have tail:=acp hs (k:=k) (d:=d) (e:=e) (by omega) he;rw[ht] at tail he;have hel:=LV 8 (t.drop (d+1));rw[<- he,List.length_drop] at hel;rw[CM (a:=(k:Int)) (by omega)];obtain⟨c,hc⟩:∃c,s.data.toList[k]?=some c:=⟨_,List.getElem?_eq_getElem hk⟩;have hh:t.head?=some c:=by rw[<- ht,List.head?_drop];exact hc
   have al2:¬(t.head?=some 48/\1 < d)->∃x,(if (t.drop d).head?=some 46 then
       (cond (NI (L6 ((k+d:Nat):Int) (k:Int)) 10) (cond (CZ ((k+(d+1+e):Nat):Int) (Bt ((k+d:Nat):Int) 3)) ((Ec s ((k+(d+1+e):Nat):Int)).bind λy8=>some ((⟨4,⟨(t.take (d+1+e)).toArray⟩,(k:Int)⟩:Tk),y8)) (some ((⟨4,⟨(t.take (d+1+e)).toArray⟩,(k:Int)⟩:Tk),false))) (some ((⟨4,⟨(t.take (d+1+e)).toArray⟩,(k:Int)⟩:Tk),false)))
       else (cond (NI (L6 ((k+d:Nat):Int) (k:Int)) 12) ((Ec s ((k+d:Nat):Int)).bind λzQ=>some ((⟨3,⟨(t.take d).toArray⟩,(k:Int)⟩:Tk),zQ)) (some ((⟨3,⟨(t.take d).toArray⟩,(k:Int)⟩:Tk),false))))=some x/\L1 (GI t) t k x:=by
     intro h0;rw[KZ (by omega),show((k+d:Nat):Int) - (k:Int)=(d:Int) by omega];by_cases aG:(t.drop d).head?=some 46;rw[if_pos aG,oV t d e hde.symm he hd aG]
     have arm:d < t.length:=by
       rcases Nat.lt_or_ge d t.length with h | h
       exact h;rw[List.drop_eq_nil_of_le h] at aG;cases aG
     by_cases h1:d<=10;rw[Y7 (by omega),CM (by omega)];dsimp only[cond];by_cases h2:e=2;subst h2;rw[JS (by omega)];dsimp only;rw[qQ (by omega),Option.bind_some,<- List.drop_drop,ht];refine⟨_,rfl,?_⟩;exact L1.if (n:=d+3) ⟨λh=>h.2.2.2,λh=>⟨h0,h1,rfl,h⟩⟩ (by decide)
     rw[K9 (by omega),if_neg (λh=>h2 h.2.2.1)];exact⟨_,rfl,L1.no⟩;rw[Vm (by omega),if_neg (λh=>h1 h.2.1)];exact⟨_,rfl,L1.no⟩;rw[if_neg aG,oW t d hde.symm hd aG];by_cases h1:d<=12;rw[Y7 (by omega)];dsimp only[cond];rw[qQ (by omega),Option.bind_some,<- List.drop_drop,ht];refine⟨_,rfl,?_⟩;exact L1.if ⟨λh=>h.2.2,λh=>⟨h0,h1,h⟩⟩ (by decide)
     rw[Vm (by omega),if_neg (λh=>h1 h.2.1)];exact⟨_,rfl,L1.no⟩
   by_cases h1:d=1;rw[JS (by omega),cond_true,tail];exact al2 (λh=>by omega);rw[K9 (by omega),cond_false,SC,hc,Option.bind_some,ajo];by_cases h2:c=48;have e2:(c == 48)=true:=by rw[h2];rfl
   rw[e2,cond_true,tail (λ_ s16=>some ((⟨4,s16,(k:Int)⟩:Tk),false)) (λs17=>some ((⟨3,s17,(k:Int)⟩:Tk),false))];have h3:t.head?=some 48/\1 < d:=⟨by rw[hh,h2],by omega⟩
   have hf:GI t=(0,0):=by
     unfold GI;simp only[hd,Bool.false_eq_true,if_false];rw[hde,if_pos h3]
   rw[hf];split<;>exact⟨_,rfl,L1.no⟩
   have e2:(c == 48)=false:=beq_false_of_ne h2;rw[e2,cond_false,tail];exact al2 (λh=>by rw[hh] at h;exact h2 (Option.some.inj h.1))
omit hs in
def lB{p:UInt8->Bool}{v:Tk×Bool}{B:Nat}{b:Int->Option (Lp Int Unit (Tk×Bool))}(hB:B<=s.data.toList.length)(hb:∀(i:Nat) c,i < B->s.data.toList[i]?=some c->b (i:Int)=if p c then some (.nx ((i+1:Nat):Int)) else some (.rt v))(he:b (B:Int)=some (.ex ())) :
   ∀(n i:Nat),i+n=B->EQ b (n+1) (i:Int)=some (if ((s.data.toList.drop i).take n).all p then .inl () else .inr v):=by
 intro n
 induction n with
 | zero =>
   intro i hi;rw[show i=B by omega];show(b (B:Int)).bind _=_;rw[he];rfl
 | succ n ih =>
   intro i hi;obtain⟨c,hc⟩:∃c,s.data.toList[i]?=some c:=⟨_,List.getElem?_eq_getElem (by omega)⟩;show(b (i:Int)).bind _=_;rw[hb i c (by omega) hc];rcases Ml s.data.toList i with ⟨h1,h2⟩ | ⟨c',h1,h2,h3⟩
   omega;rw[hc] at h2;cases h2;rw[h3,List.take_succ_cons,List.all_cons];cases hp:p c;rfl;rw[Bool.true_and];exact ih (i+1) (by omega)
omit hs in
def mG{m:Nat}(hm:∀c,cin m c=true->cin 30 c=true)(t:List UInt8):(Be m t=Be 30 t)↔(t.take (Be 30 t)).all (cin m)=true:=by
 induction t with
 | nil=>simp[Tg]
 | cons c t ih =>
   rw[Dt,Dt];by_cases hc:cin 30 c=true;rw[if_pos hc,Nat.add_comm 1 (Be 30 t),List.take_succ_cons,List.all_cons];by_cases hcm:cin m c=true;rw[if_pos hcm,hcm,Bool.true_and,<- ih];omega;rw[if_neg hcm,Bool.eq_false_iff.2 hcm,Bool.false_and];simp;rw[if_neg hc,if_neg (λh=>hc (hm c h))];simp
omit hs in
def ai7(t:List UInt8)(h:∀c∈t,cin 30 c=true):t.all (cin 26)=t.all (λc=>!cin 4 c):=by
 induction t with
 | nil=>rfl
 | cons c t ih=>rw[List.all_cons,List.all_cons,aaB,h c (by simp),ih (λx hx=>h x (by simp[hx]))];rfl
omit hs in
def yT(m:Nat)(t:List UInt8):∀c∈t.take (Be m t),cin m c=true:=by
 induction t with
 | nil=>intro c hc;simp at hc
 | cons x t ih =>
   intro c hc;rw[Dt] at hc;by_cases hx:cin m x=true;rw[if_pos hx,Nat.add_comm,List.take_succ_cons] at hc;rcases List.mem_cons.1 hc with rfl | hc
   exact hx;exact ih c hc;rw[if_neg hx] at hc;simp at hc
def akZ{k:Nat}(hk:k < s.data.toList.length)(h2:GQ 2 (s.data.toList.drop k)=true):∃x,LO s (k:Int)=some x/\L1 (A2 (s.data.toList.drop k)) (s.data.toList.drop k) k x:=by
 unfold LO A2;rw[if_pos h2,aiD hs (by omega),Option.bind_some];generalize hw:Be 30 (s.data.toList.drop k)=w at *;have hwl:w<=s.data.toList.length - k:=by rw[<- hw,<- List.length_drop];exact LV 30 _
 rw[Fj (lB (s:=s) (p:=λc=>!cin 4 c) (v:=((⟨0,ByteArray.empty,0⟩:Tk),false)) (B:=k+w) (b:=λx=>I8 s ((k+w:Nat):Int) x) (by omega) (λi c hi hc=>?_) ?_ w k rfl),Option.bind_some]
 . have HV:(Be 26 (s.data.toList.drop k)=w)↔((s.data.toList.drop k).take w).all (λc=>!cin 4 c)=true:=by
     rw[<- ai7 _ (λc hc=>by rw[<- hw] at hc;exact yT 30 _ c hc),<- hw];exact mG (m:=26) (λc hc=>by rw[aaB,Bool.and_eq_true] at hc;exact hc.1) _
   cases ha:((s.data.toList.drop k).take w).all (λc=>!cin 4 c) with
   | false =>
     rw[ha] at HV;rw[if_neg (show ¬(false=true) by simp),if_neg (show ¬(w<=16/\Be 26 (s.data.toList.drop k)=w) from λh=>by cases HV.1 h.2)];exact⟨_,rfl,L1.no⟩
   | true =>
     rw[ha] at HV;rw[if_pos rfl];dsimp only[Ma];rw[QO (by omega) (by omega),Option.bind_some,KZ (by omega),show((k+w:Nat):Int) - (k:Int)=(w:Int) by omega,show k+w - k=w by omega];by_cases h16:w<=16;rw[Y7 (by omega),if_pos ⟨h16,HV.2 rfl⟩];exact⟨_,rfl,L1.yes (by decide)⟩;rw[Vm (by omega),if_neg (λh=>h16 h.1)];exact⟨_,rfl,L1.no⟩
 unfold I8;rw[Ic (by omega)];rfl;unfold I8;rw[Ir (by omega),SC,hc];dsimp only[cond,Option.bind];rw[gK,CM (by omega)];cases cin 4 c<;>rfl
def am8{k:Nat}(hk:k < s.data.toList.length)(h2:GQ 2 (s.data.toList.drop k)=false)(h4:GQ 4 (s.data.toList.drop k)=true):∃x,M9 s (k:Int)=some x/\L1 (A2 (s.data.toList.drop k)) (s.data.toList.drop k) k x:=by
 unfold M9 A2;rw[if_neg (by rw[h2];simp),if_pos h4,aiD hs (by omega),Option.bind_some];generalize hw:Be 30 (s.data.toList.drop k)=w at *;have hwl:w<=s.data.toList.length - k:=by rw[<- hw,<- List.length_drop];exact LV 30 _
 rw[Fj (lB (s:=s) (p:=λc=>cin 4 c) (v:=((⟨0,ByteArray.empty,0⟩:Tk),false)) (B:=k+w) (b:=λx=>Kn s ((k+w:Nat):Int) x) (by omega) (λi c hi hc=>?_) ?_ w k rfl),Option.bind_some]
 . have HV:(Be 4 (s.data.toList.drop k)=w)↔((s.data.toList.drop k).take w).all (λc=>cin 4 c)=true:=by
     rw[<- hw];exact mG (m:=4) (λc hc=>by rw[aaC,hc];simp) _
   cases ha:((s.data.toList.drop k).take w).all (λc=>cin 4 c) with
   | false =>
     rw[ha] at HV;rw[if_neg (show ¬(false=true) by simp),if_neg (show ¬(w=3/\Be 4 (s.data.toList.drop k)=w) from λh=>by cases HV.1 h.2)];exact⟨_,rfl,L1.no⟩
   | true =>
     rw[ha] at HV;rw[if_pos rfl];dsimp only[Ma];rw[QO (by omega) (by omega),Option.bind_some,KZ (by omega),show((k+w:Nat):Int) - (k:Int)=(w:Int) by omega,show k+w - k=w by omega];by_cases h3:w=3;rw[JS (by omega),if_pos ⟨h3,HV.2 rfl⟩];exact⟨_,rfl,L1.yes (by decide)⟩;rw[K9 (by omega),if_neg (λh=>h3 h.1)];exact⟨_,rfl,L1.no⟩
 unfold Kn;rw[Ic (by omega)];rfl;unfold Kn;rw[Ir (by omega),SC,hc];dsimp only[cond,Option.bind];rw[gK,CM (by omega)];cases cin 4 c<;>rfl
omit hs in
def acC{y t:List UInt8}(h:y.isPrefixOf t=true):t.take y.length=y:=by
 rw[Ni] at h;exact eq_of_beq h
def ak0{k:Nat}(hk:k<=s.data.toList.length):∀(ys:List ByteArray) (i:Nat),(∀y∈ys,y.data.toList.length<=100000)->∃r,CO (λi y x=>J3 s (k:Int) i y) (λx=>()) ys i ()=some r /\
   ((r=.inl ()/\(Lv (s.data.toList.drop k) (ys.map λy=>y.data.toList)).1=0)\/∃x,r=.inr x/\L1 (Lv (s.data.toList.drop k) (ys.map λy=>y.data.toList)) (s.data.toList.drop k) k x):=by
 intro ys
 induction ys with
 | nil=>intro i _;exact⟨.inl (),rfl,.inl ⟨rfl,rfl⟩⟩
 | cons y ys ih =>
   intro i hy;rw[CO,List.map_cons];unfold J3 Lv;rw[lO hs hk (hy y (by simp)),Option.bind_some];cases hp:y.data.toList.isPrefixOf (s.data.toList.drop k) with
   | true =>
     refine⟨_,rfl,.inr ⟨_,rfl,?_⟩⟩;rw[if_pos rfl];have:=L1.yes (q:=6) (n:=y.data.toList.length) (by decide) (t:=s.data.toList.drop k) (k:=k);rw[acC hp] at this;exact this
   | false =>
     rw[if_neg (by simp)];exact ih (i+1) (λz hz=>hy z (by simp[hz]))
def age{k:Nat}(hk:k < s.data.toList.length):∃x,KN s (k:Int)=some x/\L1 (A2 (s.data.toList.drop k)) (s.data.toList.drop k) k x:=by
 obtain⟨c,hc⟩:∃c,s.data.toList[k]?=some c:=⟨_,List.getElem?_eq_getElem hk⟩
 have hB:∀m,GQ m (s.data.toList.drop k)=cin m c:=by
   intro m;rcases Ml s.data.toList k with ⟨h1,h2⟩ | ⟨c',h1,h2,h3⟩
   omega;rw[hc] at h2;cases h2;rw[h3];rfl
 unfold KN;rw[SC,hc,Option.bind_some,gJ,Option.bind_some];cases h8:cin 8 c with
 | true =>
   obtain⟨x,h1,h2⟩:=xS hs hk (by rw[hB];exact h8);obtain⟨e2,e4⟩:=ajh c h8
   have:A2 (s.data.toList.drop k)=GI (s.data.toList.drop k):=by
     unfold A2;rw[hB,hB,hB,e2,e4,h8];rfl
   dsimp only[cond];rw[h1,this];exact⟨x,rfl,h2⟩
 | false =>
   dsimp only[cond];rw[agd,Option.bind_some];cases h2:cin 2 c with
   | true =>
     obtain⟨x,e1,e2⟩:=akZ hs hk (by rw[hB];exact h2);dsimp only;rw[e1];exact⟨x,rfl,e2⟩
   | false =>
     dsimp only;rw[gK,Option.bind_some];cases h4:cin 4 c with
     | true =>
       obtain⟨x,e1,e2⟩:=am8 hs hk (by rw[hB];exact h2) (by rw[hB];exact h4);dsimp only;rw[e1];exact⟨x,rfl,e2⟩
     | false =>
       have:A2 (s.data.toList.drop k)=Lv (s.data.toList.drop k) Gj:=by
         unfold A2;rw[hB,hB,hB,h2,h4,h8];rfl
       obtain⟨r,e1,e2⟩:=ak0 hs (k:=k) (by omega) [GX,H7,Hh,FG,JL,IS,OG,Lu,PW,EH,Uo,Wi,gI,aQ,Vy,R9,Uq] 0 (by decide);have e3:(([GX,H7,Hh,FG,JL,IS,OG,Lu,PW,EH,Uo,Wi,gI,aQ,Vy,R9,Uq]:List ByteArray).map λy=>y.data.toList)=Gj:=rfl;rw[e3] at e2;rw[this];dsimp only;unfold KX;rw[Option.bind_some,List.drop_zero,PM (by decide),e1,Option.bind_some];rcases e2 with ⟨rfl,e2⟩ | ⟨x,rfl,e2⟩
       exact⟨_,rfl,⟨λh=>(by cases h),λ_=>e2⟩⟩;exact⟨x,rfl,e2⟩
end
def acy(s:List UInt8)(k:Nat)(pre:List Tok)(h:k < s.length)(hp:pre.length=2000):DW pre (DT s k)=([],2,k):=by
 by_cases hz:(A2 (s.drop k)).1=0;rw[Py s k h hz,DW,if_pos hp];rw[Ln s k h hz,DW,if_pos hp]
def af4(s:List UInt8)(k:Nat)(pre:List Tok)(h:k < s.length)(hp:¬pre.length=2000)(hz:(A2 (s.drop k)).1=0):DW pre (DT s k)=([],61,k):=by
 rw[Py s k h hz,DW,if_neg hp,if_pos rfl]
def af6(s:List UInt8)(k:Nat)(pre:List Tok)(h:k < s.length)(hp:¬pre.length=2000)(hz:(A2 (s.drop k)).1≠0):DW pre (DT s k)=DW (pre++[((A2 (s.drop k)).1,(s.drop k).take (A2 (s.drop k)).2,k)]) (DT s (k+(A2 (s.drop k)).2+D2 (s.drop (k+(A2 (s.drop k)).2)))):=by
 rw[Ln s k h hz,DW,if_neg hp,if_neg hz]
def af5(s:List UInt8)(k:Nat)(pre:List Tok)(h:s.length<=k):DW pre (DT s k)=(pre,0,0):=by
 rw[Px s k h,DW]
def amT(x:List Tok×Nat×Nat):List Tk×Int×Int:=(x.1.map IP,(x.2.1:Int),(x.2.2:Int))
def acE{s:ByteArray}(hs:s.data.toList.length<=6000):∀(j k:Nat) (pre:List Tok),s.data.toList.length - k<=j->k<=s.data.toList.length->pre.length<=2000->∃r:List Tk⊕(List Tk×Int×Int),EQ (λx:List Tk×Int=>CV s x.1 x.2) (j+1) (pre.map IP,(k:Int))=some r /\
   Ma (λ(o:List Tk)=>some (o,(0:Int),(0:Int))) (λv=>some v) r=some (amT (DW pre (DT s.data.toList k))):=by
 have fin:∀(j k:Nat) (pre:List Tok),s.data.toList.length<=k->∃r:List Tk⊕(List Tk×Int×Int),EQ (λx:List Tk×Int=>CV s x.1 x.2) (j+1) (pre.map IP,(k:Int))=some r /\
   Ma (λ(o:List Tk)=>some (o,(0:Int),(0:Int))) (λv=>some v) r=some (amT (DW pre (DT s.data.toList k))):=by
   intro j k pre h;refine⟨.inl (pre.map IP),?_,?_⟩;show(CV s (pre.map IP) (k:Int)).bind _=_;unfold CV;rw[Ic (by omega)];rfl;rw[af5 _ _ _ h];rfl
 intro j
 induction j with
 | zero=>intro k pre hk hl hp;exact fin 0 k pre (by omega)
 | succ j ih =>
   intro k pre hk hl hp;rcases Nat.lt_or_ge k s.data.toList.length with h | h
   rotate_left;exact fin _ k pre h
   have go:∀{y:Lp (List Tk×Int) (List Tk) (List Tk×Int×Int)},CV s (pre.map IP) (k:Int)=some y->EQ (λx:List Tk×Int=>CV s x.1 x.2) (j+1+1) (pre.map IP,(k:Int))=Qd (EQ (λx:List Tk×Int=>CV s x.1 x.2) (j+1)) y:=by
     intro y hy;show(CV s (pre.map IP) (k:Int)).bind _=_;rw[hy];rfl
   by_cases hf:pre.length=2000
   have:CV s (pre.map IP) (k:Int)=some (.rt ([],2,(k:Int))):=by
     unfold CV;rw[Ir (by omega),List.length_map,JS (by omega)];rfl
   refine⟨.inr ([],2,(k:Int)),(go this).trans rfl,?_⟩;rw[acy _ _ _ h hf];rfl;obtain⟨x,h1,h2,h3⟩:=age (s:=s) (by omega) h;cases hx:x.2 with
   | false =>
     have:CV s (pre.map IP) (k:Int)=some (.rt ([],61,(k:Int))):=by
       unfold CV;rw[Ir (by omega),List.length_map,K9 (by omega),h1];dsimp only[cond,Option.bind];rw[hx]
     refine⟨.inr ([],61,(k:Int)),(go this).trans rfl,?_⟩;rw[af4 _ _ _ h hf (h3 hx)];rfl
   | true =>
     obtain⟨h4,h5⟩:=h2 hx;have hrp:=OJ _ h4;have hle:(s.data.toList.drop k).length=s.data.toList.length - k:=List.length_drop ..;generalize hn:(A2 (s.data.toList.drop k)).2=n at *;have hsk:=Pk (s.data.toList.drop (k+n));rw[List.length_drop] at hsk
     have htl:x.1.text.data.toList.length=n:=by
       rw[h5];show((s.data.toList.drop k).take n).length=n;rw[List.length_take];omega
     have:CV s (pre.map IP) (k:Int)=some (.nx ((pre++[((A2 (s.data.toList.drop k)).1,(s.data.toList.drop k).take n,k)]).map IP,((k+n+D2 (s.data.toList.drop (k+n)):Nat):Int))):=by
       unfold CV;rw[Ir (by omega),List.length_map,K9 (by omega),h1];dsimp only[cond,Option.bind];rw[hx];dsimp only;rw[htl,CM (by omega),show(k:Int)+(n:Int)=((k+n:Nat):Int) by omega,Fl (by omega),acF (by omega) (by omega)];dsimp only;rw[h5,List.map_append];rfl
     obtain⟨r,e1,e2⟩:=ih (k+n+D2 (s.data.toList.drop (k+n))) (pre++[((A2 (s.data.toList.drop k)).1,(s.data.toList.drop k).take n,k)]) (by omega) (by omega) (by simp only[List.length_append,List.length_singleton];omega);refine⟨r,(go this).trans e1,?_⟩;rw[e2,af6 _ _ _ h hf h4,hn]
def ak3(s:ByteArray):Lk s=IK s:=by
 unfold Lk IK Lt;by_cases h:6000 < s.data.toList.length;rw[Ir (by omega),if_pos h];rfl;rw[Ic (by omega),if_neg h];dsimp only[cond];have h0:=acF (s:=s) (k:=0) (by omega) (Nat.zero_le _);rw[show((0:Nat):Int)=0 from rfl,List.drop_zero,Nat.zero_add] at h0;have:=Pk s.data.toList;obtain⟨r,e1,e2⟩:=acE (s:=s) (by omega) s.data.toList.length (D2 s.data.toList) [] (by omega) (by omega) (by simp);rw[List.map_nil] at e1;rw[h0,Option.bind_some,Mu,Fj e1,Option.bind_some];exact e2
def ago(s:ByteArray):Lk s=some (D3 s,(PK s:Int),(amS s:Int)):=ak3 s
def adR(s:ByteArray):JW s=some (mb (PK s=0)):=by
 unfold JW;rw[ago,Option.bind_some];dsimp only;rw[aph];by_cases h:PK s=0;rw[Cy (by omega),C8.2 h];rw[CE (by omega),Zd h]
end Mo
end Go.Proofs.YtpbkhogolfegfaaGreatDoor
namespace Go.Proofs.YtpbkhogolfegfaaGreatDoor
open AI Go LexS
namespace Mo
set_option maxRecDepth 100000
set_option maxHeartbeats 4000000
section
variable {S:Int->Int->Prop} {en en':Int}
def afd{l l':List Tk}(h:F2 S l l'):F2 S (OM l) (OM l'):=by
 induction h with
 | nil=>exact .nil
 | cons ht f ih =>
   rename_i t t' l l';unfold OM;have:Oh t=Oh t':=by unfold Oh;rw[ht.2.1]
   rw[<- this];cases Oh t;exact ih;exact .cons ht f
def am0{n n':Nd}(h:NR S n n'):DG n=DG n'/\Nh n=Nh n'/\KY n=KY n':=by
 refine NR.rec (S:=S) (motive_1:=λa b _=>DG a=DG b/\Nh a=Nh b/\KY a=KY b) (motive_2:=λa b _=>Gk a=Gk b/\UK a=UK b/\a.map KY=b.map KY) ?_ ⟨rfl,rfl,rfl⟩ ?_ h;intro k nm u n f t kn tb ks ks' a a' _ _ ih;refine⟨by simp only[DG,ih.1],by simp only[Nh,ih.2.1],?_⟩;rw[Ms,Ms,ih.2.2];intro n n' l l' _ _ h1 h2;exact⟨by simp only[Gk,h1.1,h2.1],by simp only[UK,h1.2.1,h2.2.1],by rw[List.map_cons,List.map_cons,h1.2.2,h2.2.2]⟩
def akE{l l':List Nd}(h:dP S l l'):Gk l=Gk l'/\UK l=UK l'/\l.map KY=l'.map KY:=by
 induction l generalizing l' with
 | nil=>cases h;exact⟨rfl,rfl,rfl⟩
 | cons n l ih =>
   cases h with
   | cons h1 h2 =>
     have a:=am0 h1;have b:=ih h2;exact⟨by simp only[Gk,a.1,b.1],by simp only[UK,a.2.1,b.2.1],by rw[List.map_cons,List.map_cons,a.2.2,b.2.2]⟩
def uV:∀(q q':Nat) {l l':List Tk} {ks ks':List Nd} {ds ds':List Dg} {r r':List Nd×List Dg},F2 S l l'->dP S ks ks'->ds.map Dg.err=ds'.map Dg.err->Jh en q l ks ds=some r->Jh en' q' l' ks' ds'=some r'->dP S r.1 r'.1/\r.2.map Dg.err=r'.2.map Dg.err:=by
 intro q
 induction q with
 | zero=>intro q' l l' ks ks' ds ds' r r' _ _ _ h;cases h
 | succ q ih =>
   intro q' l l' ks ks' ds ds' r r' f hk hd h h';cases q' with
   | zero=>cases h'
   | succ q' =>
     cases f with
     | nil=>cases h;cases h';exact⟨hk,hd⟩
     | cons ht f =>
       rename_i t t' l l';unfold Jh at h h';have hl:ds.length=ds'.length:=by have:=congrArg List.length hd;simpa using this
       rw[<- hl] at h';cases hc:Ez ((ds.length:Nat):Int) 20 with
       | false=>rw[hc] at h h';cases h;cases h';exact⟨hk,hd⟩
       | true =>
         rw[hc] at h h';dsimp only[cond] at h h';split at h;cases h;rename_i n s hi;split at h';cases h';rename_i n' s' NF;rcases VA (S:=S) (en:=en) (en':=en') (w:=[]) (b:=true) (.cons ht f) hi (by rw[List.append_nil];exact NF) with ⟨s1,rfl,f1,q⟩ | ⟨hw,_⟩
         cases q with
         | l q=>exact ih q' (by rw[List.append_nil];exact f1) (Vr hk (.cons q .nil)) hd h h'
         exact absurd rfl hw;rename_i d' s' NF;rcases VA (S:=S) (en:=en) (en':=en') (w:=[]) (b:=true) (.cons ht f) hi (by rw[List.append_nil];exact NF) with ⟨s1,rfl,f1,q⟩ | ⟨hw,_⟩
         cases q;exact absurd rfl hw
         . rename_i d s hi
           split at h';cases h';rename_i n' s' NF;rcases VA (S:=S) (en:=en) (en':=en') (w:=[]) (b:=true) (.cons ht f) hi (by rw[List.append_nil];exact NF) with ⟨s1,rfl,f1,q⟩ | ⟨hw,_⟩
           cases q;exact absurd rfl hw
           . rename_i d' s' NF
             rcases VA (S:=S) (en:=en) (en':=en') (w:=[]) (b:=true) (.cons ht f) hi (by rw[List.append_nil];exact NF) with ⟨s1,rfl,f1,q⟩ | ⟨hw,_⟩
             . cases q with
               | r q =>
                 refine ih q' (by rw[List.append_nil];exact afd f1) hk ?_ h h';rw[List.map_append,List.map_append,hd];simp only[List.map_cons,List.map_nil,q.1]
             exact absurd rfl hw
end
def qM{s:ByteArray}(h:PK s=0):∃ks ds,Jh ((s.data.toList.length:Nat):Int) ((D3 s).length+1) (D3 s) [] []=some (ks,ds)/\Cg s=some (vS ks ds)/\Gk ks<=2000/\ds.length<=20/\K4 (GF ks)/\aO (GF ks):=by
 obtain⟨ks,ds,h1,h2,h3,h4⟩:=XR h;have hv:=adI _ _ _ _ _ (hZ s) (by have:=(Mt s).2;omega) (λk hk=>by cases hk) h1;dsimp only at hv;have:=cK hv (by omega);exact⟨ks,ds,h1,h2,h3,h4,this.1,this.2⟩
end Mo
end Go.Proofs.YtpbkhogolfegfaaGreatDoor
