/- Part of a proof: see the last text. -/
import Derived.Test.YtpbkhogolfegfaaGreatDoorPps
set_option linter.unusedVariables false
set_option linter.unusedSimpArgs false
set_option linter.defProp false
noncomputable section
namespace Go.Proofs.YtpbkhogolfegfaaGreatDoor
open AI Go LexS
namespace Mo
set_option maxRecDepth 100000
def U2{m:Nat}{t:List UInt8}(h:GO m t=true):∃c u,t=c::u/\cin m c=true:=by
 cases t with
 | nil=>cases h
 | cons c u=>exact⟨c,u,rfl,h⟩
def S1:∀(t:List UInt8) (ys:List (List UInt8)),(Lw t ys).1=0\/(Lw t ys).1=6
 | _,[]=>.inl rfl
 | t,y::ys=>by
   unfold Lw;split;exact .inr rfl;exact S1 t ys
def adg{t:List UInt8}(h:GO 8 t=true):1<=Be 8 t:=by
 obtain⟨c,u,rfl,hc⟩:=U2 h;rw[Dw,if_pos hc];omega
def vT{t:List UInt8}(h:EQ t=true):∃c0 c1 c2 c3 c5 c6 c8 c9,t.take 10=[c0,c1,c2,c3,45,c5,c6,45,c8,c9]/\Ta c0/\Ta c1/\Ta c2/\Ta c3/\Ta c5/\Ta c6/\Ta c8/\Ta c9:=by
 unfold EQ at h;rw[Bool.and_eq_true] at h;obtain⟨hl,h⟩:=h;have hl:=of_decide_eq_true hl;have hd:=λi hi=>List.all_eq_true.1 h i (List.mem_range.2 hi)
 match t,hl with
 | c0::c1::c2::c3::c4::c5::c6::c7::c8::c9::u,_ =>
   have e4:c4=45:=by have:=hd 4 (by decide);simpa[FQ] using this
   have e7:c7=45:=by have:=hd 7 (by decide);simpa[FQ] using this
   have g:∀(i:Nat) (c:UInt8) (v:List UInt8),i < 10->i≠4->i≠7->(c0::c1::c2::c3::c4::c5::c6::c7::c8::c9::u).drop i=c::v->Ta c:=by
     intro i c v h1 h4 h7 h;have:=hd i h1;unfold FQ at this;rw[if_neg (by omega),h] at this;exact aeT this
   subst e4 e7
   exact⟨c0,c1,c2,c3,c5,c6,c8,c9,rfl,g 0 _ _ (by decide) (by decide) (by decide) rfl,g 1 _ _ (by decide) (by decide) (by decide) rfl,g 2 _ _ (by decide) (by decide) (by decide) rfl,g 3 _ _ (by decide) (by decide) (by decide) rfl,
     g 5 _ _ (by decide) (by decide) (by decide) rfl,g 6 _ _ (by decide) (by decide) (by decide) rfl,g 8 _ _ (by decide) (by decide) (by decide) rfl,g 9 _ _ (by decide) (by decide) (by decide) rfl⟩
def nV{t:List UInt8}(h1:(t.drop (Be 8 t)).head?=some 46)(h2:GO 8 (t.drop (Be 8 t+1))=true)(h3:GO 8 (t.drop (Be 8 t+2))=true) :
   ∃x y,t.take (Be 8 t+3)=t.take (Be 8 t)++46::[x,y]/\Ta x/\Ta y:=by
 obtain⟨x,u,hx,zJ⟩:=U2 h2;obtain⟨y,v,hy,D8⟩:=U2 h3;generalize hd:Be 8 t=d at *
 have e1:t.drop d=46::t.drop (d+1):=by
   cases hq:t.drop d with
   | nil=>rw[hq] at h1;cases h1
   | cons a b =>
     rw[hq] at h1;have:t.drop (d+1)=b:=by rw[<- List.drop_drop,hq];rfl
     rw[this];simp only[List.head?_cons,Option.some.injEq] at h1;rw[h1]
 have e2:t.drop (d+1)=x::t.drop (d+2):=by
   rw[hx,show d+2=(d+1)+1 from rfl,<- List.drop_drop,hx];rfl
 refine⟨x,y,?_,aeT zJ,aeT D8⟩;rw[List.take_add,e1,e2,hy];rfl
def adD{t:List UInt8}{o:Nat}(ht:t.length<=6000)(h:(A2 t).1≠0):Gd (Hq ((A2 t).1,t.take (A2 t).2,o)):=by
 have hlen:(t.take (A2 t).2).length<=6000:=by rw[List.length_take];omega
 have hlen:(Hq ((A2 t).1,t.take (A2 t).2,o)).text.data.toList.length<=6000:=hlen
 have other:(A2 t).1≠3->(A2 t).1≠4->(A2 t).1≠5->Gd (Hq ((A2 t).1,t.take (A2 t).2,o)):=by
   intro h3 h4 h5;refine⟨λh=>?_,λh=>?_,λh=>?_,hlen⟩;have:(((A2 t).1:Nat):Int)=3:=h;omega;have:(((A2 t).1:Nat):Int)=3\/(((A2 t).1:Nat):Int)=4:=h;omega;have:(((A2 t).1:Nat):Int)=5:=h;omega
 by_cases c2:GO 2 t=true;refine other ?_ ?_ ?_<;>(unfold A2;rw[if_pos c2];split<;>simp)
 by_cases c4:GO 4 t=true;refine other ?_ ?_ ?_<;>(unfold A2;rw[if_neg c2,if_pos c4];split<;>simp)
 by_cases c8:GO 8 t=true;rotate_left;have:A2 t=Lw t Gj:=by unfold A2;rw[if_neg c2,if_neg c4,if_neg c8]
 rcases S1 t Gj with h1 | h1
 rw[this] at h;exact absurd h1 h;rw[<- this] at h1;exact other (by omega) (by omega) (by omega);have hr:A2 t=GG t:=by unfold A2;rw[if_neg c2,if_neg c4,if_pos c8]
 have hp:=adg c8;have hsp:=Zl 8 t;rw[hr] at h hlen ⊢;unfold GG at h hlen ⊢;dsimp only at h hlen ⊢;by_cases hd:EQ t=true;rw[if_pos hd] at h hlen ⊢;split at h;rename_i hf;rw[if_pos hf] at hlen ⊢;refine⟨λh=>?_,λh=>?_,λh=>?_,hlen⟩;have:(((5:Nat)):Int)=3:=h;omega;have:(((5:Nat)):Int)=3\/((5:Nat):Int)=4:=h;omega;obtain⟨c0,c1,c2,c3,c5,c6,c8,c9,h0,a0,a1,a2,a3,a5,a6,a8,a9⟩:=vT hd;dsimp only[Hq];rw[h0];exact vU a0 a1 a2 a3 a5 a6 a8 a9;exact absurd rfl h;rw[if_neg hd] at h hlen ⊢;by_cases h0:t.head?=some 48/\1 < Be 8 t;rw[if_pos h0] at h;exact absurd rfl h;rw[if_neg h0] at h hlen ⊢;by_cases h1:(t.drop (Be 8 t)).head?=some 46;rw[if_pos h1] at h hlen ⊢;by_cases h2:10 < Be 8 t\/GO 8 (t.drop (Be 8 t+1))=false\/GO 8 (t.drop (Be 8 t+2))=false;rw[if_pos h2] at h;exact absurd rfl h;rw[if_neg h2] at h hlen ⊢;split at h;rename_i hf;rw[if_pos hf] at hlen ⊢;refine⟨λh=>?_,λ_=>?_,λh=>?_,hlen⟩;have:(((4:Nat)):Int)=3:=h;omega;simp only[not_or,Bool.not_eq_false] at h2;obtain⟨x,y,e,hx,hy⟩:=nV h1 h2.2.1 h2.2.2;dsimp only[Hq];rw[e];have hs:=lO t;refine aF (m:=t.take (Be 8 t)++[x,y]) (acJ hs) ?_ (by simp) ?_ ?_;simp only[List.length_append,List.length_take,List.length_cons,List.length_nil];omega;simp only[List.length_append,List.length_take,List.length_cons,List.length_nil];omega;intro c hc;rcases List.mem_append.1 hc with hc | hc
 exact hs c hc;simp only[List.mem_cons,List.not_mem_nil,or_false] at hc;rcases hc with rfl | rfl
 exact hx;exact hy;have:(((4:Nat)):Int)=5:=h;omega;exact absurd rfl h;rw[if_neg h1] at h hlen ⊢;by_cases h2:12 < Be 8 t;rw[if_pos h2] at h;exact absurd rfl h;rw[if_neg h2] at h hlen ⊢;split at h;rename_i hf;rw[if_pos hf] at hlen ⊢;have hs:=lO t
 have Kw:t.take (Be 8 t)≠[]:=λe=>by
   have:=congrArg List.length e;rw[List.length_take,List.length_nil] at this;omega
 refine⟨λh=>?_,λ_=>?_,λh=>?_,hlen⟩;exact X6 Kw (by rw[List.length_take];omega) hs;exact aF (agk hs) (by rw[List.length_take];omega) Kw (by rw[List.length_take];omega) hs;have:(((3:Nat)):Int)=5:=h;omega;exact absurd rfl h
def cT:∀(n o:Nat) (t:List UInt8) (x:Tok),x∈Ka n o t->x.1≠0->∃u o',u.length<=t.length/\(A2 u).1≠0/\x=((A2 u).1,u.take (A2 u).2,o'):=by
 intro n
 induction n with
 | zero=>intro o t x h;cases h
 | succ n ih =>
   intro o t x h h0;unfold Ka at h;split at h;cases h;split at h;rw[List.mem_singleton.1 h] at h0;exact absurd rfl h0;rename_i hr;rcases List.mem_cons.1 h with rfl | h
   exact⟨t,o,Nat.le_refl _,hr,rfl⟩;obtain⟨u,o',h1,h2⟩:=ih _ _ _ h h0;refine⟨u,o',Nat.le_trans h1 ?_,h2⟩;simp only[List.length_drop];omega
def YR:∀(l acc:List Tok),acc.length<=2000->(Er acc l).1.length<=2000/\∀x∈(Er acc l).1,x∈acc\/x∈l/\x.1≠0:=by
 intro l
 induction l with
 | nil=>intro acc h;exact⟨h,λx hx=>.inl hx⟩
 | cons y l ih =>
   intro acc h;unfold Er;split;exact⟨Nat.zero_le _,λx hx=>by cases hx⟩;split;exact⟨Nat.zero_le _,λx hx=>by cases hx⟩;rename_i h1 h2;obtain⟨a,b⟩:=ih (acc++[y]) (by simp only[List.length_append,List.length_singleton];omega);refine⟨a,λx hx=>?_⟩;rcases b x hx with hx | ⟨hx,h0⟩
   rcases List.mem_append.1 hx with hx | hx
   exact .inl hx;rw[List.mem_singleton.1 hx];exact .inr ⟨List.mem_cons_self ..,h2⟩;exact .inr ⟨List.mem_cons_of_mem _ hx,h0⟩
def Ln(s:ByteArray):Gl (Bu s)/\(Bu s).length<=2000:=by
 unfold Bu Jh;split;refine⟨?_,Nat.zero_le _⟩;intro t ht;cases ht;rename_i hs;obtain⟨a,b⟩:=YR (C7 s.data.toList) [] (Nat.zero_le _);refine⟨?_,by rw[List.length_map];exact a⟩;intro t ht;obtain⟨x,hx,rfl⟩:=List.mem_map.1 ht;rcases b x hx with hx | ⟨hx,h0⟩
 cases hx;obtain⟨u,o',h1,h2,rfl⟩:=cT _ _ _ x hx h0;rw[List.length_drop] at h1;exact adD (by omega) h2
end Mo
end Go.Proofs.YtpbkhogolfegfaaGreatDoor
namespace Go.Proofs.YtpbkhogolfegfaaGreatDoor
open AI Go
namespace Mo
set_option maxRecDepth 100000
section
variable {α β:Type} {c:Nat} {f:α->Nat} {g:β->Nat}
def SU(c:Nat)(f:α->Nat)(m:Rd α):Prop:=∀⦃l:List Tk⦄ ⦃a:α⦄ ⦃s:List Tk⦄,m l=some (.inl a,s)->f a+s.length<=l.length+c
def BP{m:Rd α}{K:α->Rd β}(h1:SU c f m)(h2:∀a,SU (f a) g (K a)):SU c g (Cv m K):=by
 intro l b s h;rcases II h with ⟨a,s',e1,e2⟩ | ⟨d,_,h⟩
 have a1:=h1 e1;have a2:=h2 a e2;omega;cases h
def Eg{a:α}(h:f a<=c):SU c f (FZ a):=by
 intro l b s e;obtain⟨e1,rfl⟩:=KN e;cases e1;omega
def Jl{e p:Int}:SU c f (L8 e p):=by
 intro l b s h;obtain⟨h,_⟩:=MJ h;cases h
def Nj{X:Option β}{K:β->Rd α}(h:∀b,X=some b->SU c f (K b)):SU c f (Lv X K):=by
 intro l a s e;obtain⟨b,hb,e⟩:=I0 e;exact h b hb e
def Zn{en:Int}{K:Tk->Rd α}(h:∀t,SU c f (K t)):SU c f (Ue en K):=by
 intro l a s e;cases l with
 | nil=>cases e
 | cons t l=>exact h t e
def SE{K:Rd α}(h:SU (c+1) f K):SU c f (Uz K):=by
 intro l a s e;cases l with
 | nil=>cases e
 | cons t l=>have:=h (l:=l) e;simp only[List.length_cons];omega
def Cr{b:Bool}{A B:Rd α}(h1:SU c f A)(h2:SU c f B):SU c f (cond b A B):=by cases b;exact h2;exact h1
def V6{x:ByteArray}{A B:Rd α}(h1:SU (c+1) f A)(h2:SU c f B):SU c f (OD x A B):=by
 intro l a s e;unfold OD at e;cases hx:Ii x l with
 | true=>rw[hx] at e;exact SE h1 e
 | false=>rw[hx] at e;exact h2 e
def V5{n:Nat}{m:Rd α}(h:SU c f m):SU c f (OC n m):=λ_ _ _ e=>h (MM e).2
def SU.le{c':Nat}{m:Rd α}(h:SU c f m)(hc:c<=c'):SU c' f m:=λ_ _ _ e=>by have:=h e;omega
end
section
variable {c:Nat} {en:Int}
def MC{f:Tk->Option Bool}:SU c (λ_=>c+1) (Lm en f):=Zn λt=>Nj λb _=>Cr (SE (Eg (Nat.le_refl _))) Jl
def GZ{x:ByteArray}:SU c (λ_=>c+1) (Jc en x):=MC
def cA:SU c (λ_=>c+1) (Mu en):=BP MC λt=>Nj λn _=>Eg (Nat.le_refl _)
def QD{least:Int}:SU c (λ_=>c+1) (LU en least):=BP cA λp=>Cr Jl (Cr Jl (Eg (Nat.le_refl _)))
def XJ{least:Int}:SU c (λ_=>c+1) (Rz en least):=BP MC λt=>Nj λd _=>Cr (Cr Jl (Eg (Nat.le_refl _))) Jl
def IC(k:Int)(nm u:ByteArray)(n:Int)(ks:List Nd)(p:Int):Ez (Fw k nm u n ks p)=1+Hb ks:=rfl
def Pl(n:Nd):Hb [n]=Ez n:=by simp[Hb]
def Vi(l m:List Nd):Hb (l++m)=Hb l+Hb m:=by
 induction l with
 | nil=>simp[Hb]
 | cons a l ih=>simp only[List.cons_append,Hb,ih];omega
def agP:SU c (λn=>Ez n+c) (UX en) :=
 BP GZ λt=>BP QD λn=>BP GZ λ_=>BP XJ λf =>
   V6 (BP XJ λu=>BP GZ λ_=>BP XJ λk=>Eg (by show 1+Hb []+c<=_;simp only[Hb];omega)) (BP GZ λ_=>BP XJ λk=>Eg (by show 1+Hb []+c<=_;simp only[Hb];omega))
def uI:SU c (λn=>Ez n+c) (Pa en) :=
 Zn λt=>SE (BP MC λm=>BP GZ λ_=>BP MC λu=>Cr (BP MC λr=>Nj λn _=>BP GZ λ_=>Eg (by rw[IC];simp only[Hb];omega)) (BP GZ λ_=>Eg (by rw[IC];simp only[Hb];omega)))
def TE:SU c (λn=>Ez n+c) (FT en):=BP QD λp=>Eg (by rw[IC];simp only[Hb];omega)
def agR{read:Rd Nd}(hr:∀c,SU c (λn=>Ez n+c) read):∀(q:Nat) (ns:List Nd) (c:Nat),SU (Hb ns+c) (λr=>Hb r+c) (Nq read q ns):=by
 intro q
 induction q with
 | zero=>intro ns c l a s h;cases h
 | succ q ih =>
   intro ns c;refine V6 (BP (hr _) λn=>V5 ((ih (ns++[n]) c).le ?_)) (Eg (Nat.le_refl _));rw[Vi,Pl];omega
def uJ{read:Rd Nd}(hr:∀c,SU c (λn=>Ez n+c) read):SU c (λr=>Hb r+c) (RF read) :=
 BP (hr c) λn l a s h=>by
   have:=agR hr _ [n] c h;rw[Pl] at this;exact this
def Zo:SU c (λ_=>c+1) (Nk en):=BP MC λt=>Nj λd _=>Cr (Cr (Eg (Nat.le_refl _)) Jl) (Eg (Nat.le_refl _))
def agS:SU c (λ_=>c+1) (Vh en):=BP MC λt=>Cr (Eg (Nat.le_refl _)) (Eg (Nat.le_refl _))
def cC{Ax a b:Int}:SU c (λ_=>c) (NL en Ax a b):=BP agS λs=>BP QD λm=>BP GZ λ_=>BP QD λd=>Nj λg _=>Nj λz _=>Cr Jl (Eg (by omega))
def SU.imp{α:Type}{f f':α->Nat}{m:Rd α}(h:SU c f m)(hf:∀a,f' a<=f a):SU c f' m:=λ_ a _ e=>by have:=h e;have:=hf a;omega
def cB{Ax a:Int}:SU c (λ_=>c) (Mw en Ax a):=BP GZ λ_=>V6 (BP Zo λa=>cC.imp λ_=>by omega) (BP Zo λa=>cC.imp λ_=>by omega)
def ado{before:List Pt}{Ax:Int}:SU c (λ_=>c) (Rc en before Ax):=BP Zo λv=>Cr (Cr (cB.imp λ_=>by omega) Jl) (Nj λq _=>Cr Jl (Cr Jl (cB.imp λ_=>by omega)))
def x8:∀(q:Nat) (l:List Pt) (k:Int) (c:Nat),SU c (λ_=>c) (Jy en q l k):=by
 intro q
 induction q with
 | zero=>intro l k c _ _ _ h;cases h
 | succ q ih=>intro l k c;exact BP ado λp=>V5 (V6 ((ih _ _ _).imp λ_=>by omega) (Eg (Nat.le_refl _)))
def yA{k p:Int}:∀(l:List Pt) (acc:List Pc),SU c (λ_=>c) (L0 k p l acc):=by
 intro l
 induction l with
 | nil=>intro acc;exact Eg (Nat.le_refl _)
 | cons x l ih=>intro acc;exact Nj λz _=>Cr Jl (Cr Jl (V5 (ih _)))
def vM{op:ByteArray}{l r x:Nd}(h:Bl op l r=some x):Ez x=1+Ez l+Ez r:=by
 unfold Bl at h;revert h;have e1:∀(nm:ByteArray) (a b:Nd) (p:Int),Ez (⟨16,nm,ByteArray.empty,0,0,0,0,⟨0,[]⟩,[a,b],p⟩:Nd)=1+Ez a+Ez b:=by intro nm a b p;simp only[Ez,Hb];omega
 cases B2 op.data.toList JK.data.toList;cases B2 op.data.toList FX.data.toList;intro h1;cases h1;exact e1 _ _ _ _;cases K5 op JK Kh 1 with
 | none=>intro h1;cases h1
 | some y=>intro h1;cases h1;rw[e1];omega
 cases K5 op JK Kh 1 with
 | none=>intro h1;cases h1
 | some y=>intro h1;cases h1;rw[e1];omega
def aiG{α:Type}{f:α->Nat}{yes:ByteArray->Rd α}{no:Rd α}(h1:∀x,SU (c+1) f (yes x))(h2:SU c f no):∀ops:List ByteArray,SU c f (kH yes no ops):=by
 intro ops
 induction ops with
 | nil=>exact h2
 | cons x ops ih=>exact V6 (h1 x) ih
def lS{sub:Rd Nd}(h:∀c,SU c (λn=>Ez n+c) sub)(op:ByteArray)(l:Nd):SU (Ez l+c+1) (λn=>Ez n+c) (PS en sub op l) :=
 BP (Cr TE (h _)) λr=>Nj λx hx=>Eg (by rw[vM hx];omega)
def adm{ops:List ByteArray}{sub:Rd Nd}(h:∀c,SU c (λn=>Ez n+c) sub):∀(q:Nat) (l:Nd) (c:Nat),SU (Ez l+c) (λn=>Ez n+c) (Jb en ops sub q l):=by
 intro q
 induction q with
 | zero=>intro l c _ _ _ h;cases h
 | succ q ih=>intro l c;exact aiG (λx=>BP (lS h x l) λb=>ih b c) (Eg (Nat.le_refl _)) ops
structure Siz(g:Ek->Rd Nd)(li:Rd (List Nd)):Prop where
 sg:∀e c,SU c (λn=>Ez n+c) (g e)
 sli:∀c,SU c (λr=>Hb r+c) li
def agK:∀q:Nat,Siz (gP en q).1 (gP en q).2:=by
 intro q
 induction q with
 | zero =>
   constructor;intro e c _ _ _ h;cases h;intro c _ _ _ h;cases h
 | succ q A =>
   refine⟨λe c=>?_,λc=>uJ (A.sg .ex)⟩;show SU c (λn=>Ez n+c) (OI en (gP en q).1 (gP en q).2 e);have lv:∀i,SU c (λn=>Ez n+c) (Nb en (gP en q).1 i):=λi=>BP (A.sg _ _) λN l a s h=>adm (A.sg _) _ N c h;unfold OI;split;exact A.sg _ _;intro l a s h;unfold W1 at h;cases hx:Ii VT l with
   | true =>
     rw[hx] at h;exact BP (g:=λn=>Ez n+c) GZ (λt=>BP (A.sg _ _) λk=>Eg (by rw[IC,Pl];omega)) h
   | false=>rw[hx] at h;exact A.sg _ _ h
   exact BP (A.sg _ _) λN=>aiG (λx=>lS (A.sg _) x N) (Eg (Nat.le_refl _)) _;exact A.sg _ _;exact lv _;refine Zn λt=>Cr (BP cA λn=>V6 (Eg (by rw[IC];simp only[Hb];omega)) (Eg (by rw[IC];simp only[Hb];omega))) (Cr (SE (BP MC λa=>Nj λz _=>Eg (by rw[IC];simp only[Hb];omega))) (Nj λb _=>Cr (SE (Eg (by rw[IC];simp only[Hb];omega))) (A.sg _ _)));have one:∀(k:Int) (nm u:ByteArray) (n p:Int),SU c (λn=>Ez n+c) (Uz (FZ (Fw k nm u n [] p))):=λ_ _ _ _ _=>SE (Eg (by rw[IC];simp only[Hb];omega))
   exact Cr (one _ _ _ _ _) (Cr (one _ _ _ _ _) (Cr (SE (BP QD λp=>Eg (by rw[IC];simp only[Hb];omega))) (Cr (one _ _ _ _ _) (Cr (one _ _ _ _ _) (Cr (one _ _ _ _ _) (Cr (one _ _ _ _ _) (Cr (A.sg _ _) (Cr (A.sg _ _) (Cr (A.sg _ _)
     (Cr (SE (BP (A.sg _ _) λa=>BP GZ λ_=>Eg (by omega))) Jl))))))))))
   exact Zn λt=>SE (BP GZ λ_=>BP (A.sg _ _) λa=>BP GZ λ_=>BP (A.sli _) λl=>V5 (BP GZ λ_=>Eg (by rw[IC];simp only[Hb];omega)));exact BP GZ λt=>BP GZ λ_=>BP (A.sg _ _) λa=>BP GZ λ_=>BP (λl a s h=>x8 _ _ _ _ h) λl=>BP GZ λe=>V5 (BP (yA _ _) λr=>Eg (by show 1+Hb [a]+c<=Ez a+(c+1+1)+1+1;rw[Pl];omega))
def aiF:SU c (λn=>Ez n+c) (K9 en):=λ_ _ _ h=>(agK _).sg .ex c h
def x6(kind:Int):SU c (λn=>Ez n+c) (IN en (K9 en) kind) :=
 Zn λt=>SE (Cr (BP (uJ λc=>TE) λl=>BP GZ λ_=>Eg (by rw[IC];omega)) (BP aiF λe=>BP GZ λ_=>Eg (by rw[IC,Pl];omega)))
def adn{mk:List Nd->Nd}(hm:∀l,Ez (mk l)=1+Hb l):∀(q:Nat) (ns:List Nd) (un am:Bool) (c:Nat),SU (Hb ns+c+1) (λn=>Ez n+c) (Gz en (K9 en) mk q ns un am):=by
 intro q
 induction q with
 | zero=>intro ns un am c _ _ _ h;cases h
 | succ q ih =>
   intro ns un am c
   have go:∀(kind:Int) (qV nP:Bool),SU (Hb ns+c+1) (λn=>Ez n+c) (Cv (IN en (K9 en) kind) λx=>OC (ns.length+1) (Gz en (K9 en) mk q (ns++[x]) qV nP)):=λkind qV nP =>
     BP (x6 kind) λx=>V5 ((ih (ns++[x]) qV nP c).le (by rw[Vi,Pl];omega))
   exact Zn λt=>Cr (go _ _ _) (Cr (Cr Jl (go _ _ _)) (Cr (Cr Jl (go _ _ _)) (Cr (Cr (SE (Eg (by rw[hm];omega))) Jl) Jl)))
def agQ:SU c (λn=>Ez n+c) (Oc en (K9 en)) :=
 Zn λt=>Cr uI (Cr uI (Cr (BP GZ λt=>BP QD λn=>BP GZ λ_=>BP MC λm=>BP agP λh=>BP GZ λ_=>λl a s e=>by
   have:=adn (λl=>rfl) _ [h] false false c e;rw[Pl] at this;dsimp only at this ⊢;omega) Jl))
end
def ad2(a b:Nat):alq (a:Int) (b:Int)=((max a b:Nat):Int):=by
 unfold alq;split<;>omega
def ajf:∀n:Nd,OS n<=Ez n:=by
 intro n
 have key:∀(q:Nat) (n:Nd),Ez n<=q->OS n<=Ez n:=by
   intro q
   induction q with
   | zero=>intro n h;rw[Gk] at h;omega
   | succ q ih =>
     intro n h;rw[N5,Gk];have:Wp n.kids<=Hb n.kids:=Yi.2 λk hk=>Nat.le_trans (ih k (by have:=S2 hk;omega)) (NQ hk);omega
 exact key _ n (Nat.le_refl _)
def wV:∀(q:Nat) (n:Nd),Ez n<=q->Ez n<=1000000->Dy q n=some (((Ez n:Nat):Int),((OS n:Nat):Int)):=by
 intro q
 induction q with
 | zero=>intro n h;have:=Gk n;omega
 | succ q ih =>
   intro n hq hz;have Qc:=Gk n;rw[Dy,Kf];rw[show TA n.kids.length=λy:Option ((Int×Int)⊕(Int×Int))=>y from funext λy=>if_pos (by have:=Rk n.kids;omega),List.drop_zero]
   have key:∀(m:List Nd),(∀k∈m,k∈n.kids)->∀(i c d:Nat),c+Hb m<=1000000->C8 (ρ:=Int×Int) (λi y x=>F4 (Dy q) i y x.1 x.2) (λx=>(x.1,x.2)) m i ((c:Int),(d:Int))=some (.inl (((c+Hb m:Nat):Int),((max d (Wp m):Nat):Int))):=by
     intro m
     induction m with
     | nil=>intro _ i c d _;simp[C8,Hb,Wp]
     | cons a m ihm =>
       intro hm i c d hc;simp only[Hb] at hc;have ha:=hm a (List.mem_cons_self ..);rw[C8,F4,ih a (by have:=NQ ha;omega) (by have:=NQ ha;omega),Option.bind_some];dsimp only;rw[C5 (by omega),ad2];have:=ihm (λk hk=>hm k (List.mem_cons_of_mem _ hk)) (i+1) (c+Ez a) (max d (OS a)) (by omega);rw[Option.bind_some];dsimp only[RA];rw[show(c:Int)+(Ez a:Int)=((c+Ez a:Nat):Int) by omega,this];simp only[Hb,Wp,Nat.add_assoc,Nat.max_assoc]
   have h1:=key n.kids (λ_ h=>h) 0 1 0 (by omega);have h1:C8 (ρ:=Int×Int) (λi y x=>F4 (Dy q) i y x.1 x.2) (λx=>(x.1,x.2)) n.kids 0 (1,0)=some (.inl (((1+Hb n.kids:Nat):Int),((max 0 (Wp n.kids):Nat):Int))):=h1;rw[h1,Option.bind_some];dsimp only[MN];have hd:=N5 n;have oO:=ajf n;rw[C5 (by omega),Qc,hd];congr 2;omega
def aZ{n:Nd}(hz:Ez n<=1000000):Dx n=some (if 2000 < Ez n\/40 < OS n then (z0,[⟨2,0⟩]) else (n,[])):=by
 have:Mn n=some (((Ez n:Nat):Int),((OS n:Nat):Int)):=Yp (Ez n) λq hq=>wV q n hq hz;unfold Dx;rw[this,Option.bind_some];dsimp only;by_cases h1:2000 < Ez n;rw[GQ (by omega),if_pos (.inl h1)];rfl;rw[Hp (by omega)];by_cases h2:40 < OS n;rw[GQ (by omega),if_pos (.inr h2)];rfl;rw[Hp (by omega),if_neg (by omega)];rfl
end Mo
end Go.Proofs.YtpbkhogolfegfaaGreatDoor
namespace Go.Proofs.YtpbkhogolfegfaaGreatDoor
open AI Go
namespace Mo
set_option maxRecDepth 100000
def acd(n:Nd):Nd×List Dg:=if 2000 < Ez n\/40 < OS n then (z0,[⟨2,0⟩]) else (n,[])
def alh{en:Int}:∀(q:Nat) (l:List Tk) (ks:List Nd) (ds:List Dg) (r:List Nd×List Dg),Gl l->l.length<=10000->JL en q l ks ds=some r->Hb r.1<=Hb ks+l.length/\r.2.length<=max 20 ds.length:=by
 intro q
 induction q with
 | zero=>intro l ks ds r _ _ h;cases h
 | succ q ih =>
   intro l ks ds r hg hl h;cases l with
   | nil=>cases h;exact⟨by dsimp only;omega,by dsimp only;omega⟩
   | cons t l =>
     unfold JL at h;cases hd:DS ((ds.length:Nat):Int) 20 with
     | false=>rw[hd] at h;cases h;exact⟨by dsimp only;omega,by dsimp only;omega⟩
     | true =>
       rw[hd] at h;dsimp only[cond] at h;have hd:=YV hd;split at h;cases h;rename_i n s hi;have a:=agQ (c:=0) hi;obtain⟨⟨k,rfl⟩,_,_⟩:=La hg hl hi;have b:=ih _ _ _ _ (hg.drop k) (by rw[List.length_drop];omega) h;rw[Vi,Pl] at b;exact⟨by dsimp only at a;omega,b.2⟩;rename_i d s hi;obtain⟨⟨k,rfl⟩,h2,_⟩:=La hg hl hi;obtain⟨j,hj⟩:=QB ((t::l).drop k);have oS:l.length<=10000:=by simp only[List.length_cons] at hl;omega
       have b:=ih _ _ _ _ (by rw[hj];exact(hg.drop k).drop j) (by omega) h;simp only[List.length_append,List.length_singleton] at b;simp only[List.length_cons];exact⟨by omega,by omega⟩
def nQ(ks:List Nd):List Dg->Nd×List Dg
 | []=>acd (Ha ks)
 | ds=>(z0,ds)
def Xy{s:ByteArray}(h:Qg s=0):∃ks ds,JL ((s.data.toList.length:Nat):Int) ((Bu s).length+1) (Bu s) [] []=some (ks,ds)/\CE s=some (nQ ks ds)/\Hb ks<=2000/\ds.length<=20:=by
 obtain⟨hg,hl⟩:=Ln s;obtain⟨ks,ds,h1,h2⟩:=xD h hg (by omega);have h3:=alh _ _ _ _ _ hg (by omega) h1;simp only[Hb,List.length_nil] at h3;refine⟨ks,ds,h1,?_,by omega,by omega⟩;rw[h2];cases ds with
 | nil =>
   rw[Hp (by simp)];exact aZ (by have:=Gk (Ha ks);simp only[Ha] at this;rw[show Ez (Ha ks)=1+Hb ks from rfl];omega)
 | cons d ds =>
   rw[GQ (by simp only[List.length_cons];omega)];rfl
def ai4:(Nd⊕Dg)×List Tk->Nd×List Dg
 | (.inl n,[])=>acd n
 | (.inl _,t::_)=>(z0,[⟨71,t.AH⟩])
 | (.inr d,_)=>(z0,[d])
def tM{s:ByteArray}(h:Qg s=0):∃r l,K9 ((s.data.toList.length:Nat):Int) (Bu s)=some (r,l)/\Du s=some (ai4 (r,l)):=by
 obtain⟨hg,hl⟩:=Ln s;obtain⟨r,l,h1,_⟩:=aiJ (en:=((s.data.toList.length:Nat):Int)) (n:=(Bu s).length) (by omega) hg (Nat.le_refl _);refine⟨r,l,h1,?_⟩;obtain⟨k',a1,a2,rfl,a4⟩:=rU (by omega) hg (Nat.zero_le _) (by rw[List.drop_zero];exact h1);unfold Du IL;rw[Option.bind_some];dsimp only;rw[IX (by unfold Qg at h;omega)];dsimp only[cond];have a4:FV ⟨List.map Hq (LexS.Jh s.data.toList).fst,0,((s.data.toList.length:Nat):Int)⟩=some (r,(k':Int)):=a4;unfold KT Hr;rw[a4,Option.bind_some];cases r with
 | inr d=>rfl
 | inl n =>
   dsimp only[Sum.elim];rcases JS (Bu s) a2 with ⟨h2,h3⟩ | ⟨t,h2,h3,h4⟩
   rw[h3,Hp (by show((List.map Hq (LexS.Jh s.data.toList).fst).length:Int)<=_;unfold Bu at h2;omega)];dsimp only[cond,Option.bind,adJ]
   have hz:Ez n<=1000000:=by
     have:=aiF (c:=0) h1;dsimp only at this;omega
   have:=aZ hz;rw[this];rfl;rw[h4,GQ (by show _ < ((List.map Hq (LexS.Jh s.data.toList).fst).length:Int);unfold Bu at h2;omega)];dsimp only[cond]
   have hgt:Hc (List.map Hq (LexS.Jh s.data.toList).fst) (k':Int)=some t:=by
     unfold Hc;rw[if_pos (by omega),Int.toNat_natCast];exact h3
   rw[hgt];rfl
end Mo
end Go.Proofs.YtpbkhogolfegfaaGreatDoor
namespace Go.Proofs.YtpbkhogolfegfaaGreatDoor
open AI Go LexS
namespace Mo
set_option maxRecDepth 100000
structure Gy(t:Tk):Prop where
 name:t.kind=1->(1<=t.text.data.toList.length/\t.text.data.toList.length<=16)/\(∃b,t.text.data.toList[0]?=some b/\97<=b.toNat/\b.toNat<=122)/\∀c∈t.text.data.toList,u4 c
 nX:t.kind=2->vS t.text
def Xj:∀n < 128,((Me n &&& 26)≠0->(97<=n/\n<=122)\/(48<=n/\n<=57)\/n=95)/\((Me n &&& 4)≠0->65<=n/\n<=90)/\((Me n &&& 2)≠0->97<=n/\n<=122):=by decide
def Xi{m:Nat}{c:UInt8}(h:cin m c=true):c.toNat < 128/\(Me c.toNat &&& m)≠0:=by
 unfold cin at h;refine⟨?_,by simpa using h⟩
 by_cases hc:c.toNat < 128;exact hc;rw[dL _ (by omega)] at h;simp at h
def lN(m:Nat)(t:List UInt8):∀c∈t.take (Be m t),cin m c=true:=by
 unfold Be
 induction t with
 | nil=>intro c hc;cases hc
 | cons x t ih =>
   intro c hc;rw[List.takeWhile_cons] at hc;split at hc;rename_i hx;rw[List.length_cons,List.take_succ_cons] at hc;rcases List.mem_cons.1 hc with rfl | hc
   exact hx;exact ih c hc;cases hc
def alg{t:List UInt8}{o:Nat}:Gy (Hq ((A2 t).1,t.take (A2 t).2,o)):=by
 by_cases c2:GO 2 t=true;by_cases hc:Be 30 t<=16/\Be 26 t=Be 30 t;have hr:A2 t=(1,Be 30 t):=by unfold A2;rw[if_pos c2,if_pos hc]
 rw[hr];refine⟨λ_=>?_,λh=>?_⟩;obtain⟨c,u,rfl,al8⟩:=U2 c2
 have hp:1<=Be 26 (c::u):=by
   rw[Dw,if_pos (by
     obtain⟨a,b⟩:=Xi al8;have:=(Xj _ a).2.2 b;unfold cin;have:∀n < 128,(Me n &&& 2)≠0->((Me n &&& 26) != 0)=true:=by decide
     exact this _ a b)]
   omega
 have hsp:=Zl 30 (c::u);dsimp only[Hq];refine⟨⟨by rw[List.length_take];omega,by rw[List.length_take];omega⟩,⟨c,?_,?_⟩,λx hx=>?_⟩;rw[List.getElem?_take_of_lt (by omega)];rfl;obtain⟨a,b⟩:=Xi al8;exact(Xj _ a).2.2 b;rw[<- hc.2] at hx;obtain⟨a,b⟩:=Xi (lN 26 _ x hx);exact(Xj _ a).1 b;have:(((1:Nat)):Int)=2:=h;omega;have hr:A2 t=(0,0):=by unfold A2;rw[if_pos c2,if_neg hc]
 rw[hr];exact⟨λh=>by have:(((0:Nat)):Int)=1:=h;omega,λh=>by have:(((0:Nat)):Int)=2:=h;omega⟩;by_cases c4:GO 4 t=true;by_cases hc:Be 30 t=3/\Be 4 t=Be 30 t;have hr:A2 t=(2,Be 30 t):=by unfold A2;rw[if_neg c2,if_pos c4,if_pos hc]
 rw[hr];refine⟨λh=>by have:(((2:Nat)):Int)=1:=h;omega,λ_=>?_⟩;have hsp:=Zl 30 t;unfold vS;dsimp only[Hq];refine⟨by rw[List.length_take];omega,λx hx=>?_⟩;rw[<- hc.2] at hx;obtain⟨a,b⟩:=Xi (lN 4 _ x hx);exact(Xj _ a).2.1 b;have hr:A2 t=(0,0):=by unfold A2;rw[if_neg c2,if_pos c4,if_neg hc]
 rw[hr];exact⟨λh=>by have:(((0:Nat)):Int)=1:=h;omega,λh=>by have:(((0:Nat)):Int)=2:=h;omega⟩
 have:(A2 t).1≠1/\(A2 t).1≠2:=by
   unfold A2;rw[if_neg c2,if_neg c4];split
   . unfold GG
     dsimp only
     repeat' split
     all_goals simp
   rcases S1 t Gj with h | h<;>omega
 exact⟨λh=>absurd (show(((A2 t).1:Nat):Int)=1 from h) (by omega),λh=>absurd (show(((A2 t).1:Nat):Int)=2 from h) (by omega)⟩
def Gx(l:List Tk):Prop:=∀t∈l,Gd t/\Gy t
def gA(s:ByteArray):Gx (Bu s):=by
 intro t ht;refine⟨(Ln s).1 t ht,?_⟩;unfold Bu Jh at ht;split at ht;cases ht;obtain⟨a,b⟩:=YR (C7 s.data.toList) [] (Nat.zero_le _);obtain⟨x,hx,rfl⟩:=List.mem_map.1 ht;rcases b x hx with hx | ⟨hx,h0⟩
 cases hx;obtain⟨u,o',h1,h2,rfl⟩:=cT _ _ _ x hx h0;exact alg
section
variable {α β:Type} {P:α->Prop} {P2:β->Prop}
def Va(P:α->Prop)(m:Rd α):Prop:=∀⦃l:List Tk⦄ ⦃a:α⦄ ⦃s:List Tk⦄,Gx l->m l=some (.inl a,s)->P a/\Gx s
def BQ{m:Rd α}{K:α->Rd β}(h1:Va P m)(h2:∀a,P a->Va P2 (K a)):Va P2 (Cv m K):=by
 intro l b s hg h;rcases II h with ⟨a,s',e1,e2⟩ | ⟨d,_,h⟩
 obtain⟨pa,hg⟩:=h1 hg e1;exact h2 a pa hg e2;cases h
def D7{a:α}(h:P a):Va P (FZ a):=by
 intro l b s hg e;obtain⟨e1,rfl⟩:=KN e;cases e1;exact⟨h,hg⟩
def Jn{e p:Int}:Va P (L8 e p):=by
 intro l b s _ h;obtain⟨h,_⟩:=MJ h;cases h
def OO{X:Option β}{K:β->Rd α}(h:∀b,X=some b->Va P (K b)):Va P (Lv X K):=by
 intro l a s hg e;obtain⟨b,hb,e⟩:=I0 e;exact h b hb hg e
def mC{en:Int}{K:Tk->Rd α}(h:∀t,Gd t/\Gy t->Va P (K t)):Va P (Ue en K):=by
 intro l a s hg e;cases l with
 | nil=>cases e
 | cons t l=>exact h t (hg t (List.mem_cons_self ..)) hg e
def QF{K:Rd α}(h:Va P K):Va P (Uz K):=by
 intro l a s hg e;cases l with
 | nil=>cases e
 | cons t l=>exact h (λt ht=>hg t (List.mem_cons_of_mem _ ht)) e
def DX{b:Bool}{A B:Rd α}(h1:b=true->Va P A)(h2:b=false->Va P B):Va P (cond b A B):=by cases b;exact h2 rfl;exact h1 rfl
def Wc{x:ByteArray}{A B:Rd α}(h1:Va P A)(h2:Va P B):Va P (OD x A B):=by
 intro l a s hg e;unfold OD at e;cases hx:Ii x l with
 | true=>rw[hx] at e;exact QF h1 hg e
 | false=>rw[hx] at e;exact h2 hg e
def Wb{n:Nat}{m:Rd α}(h:Va P m):Va P (OC n m):=λ_ _ _ hg e=>h hg (MM e).2
def Va.imp{P':α->Prop}{m:Rd α}(h:Va P m)(f:∀a,P a->P' a):Va P' m:=λ_ a _ hg e=>⟨f a (h hg e).1,(h hg e).2⟩
end
section
variable {en:Int}
def MD{f:Tk->Option Bool}:Va (λt=>(Gd t/\Gy t)/\f t=some true) (Lm en f) :=
 mC λt ht=>OO λb hb=>DX (λh=>QF (D7 ⟨ht,by rw[hb,h]⟩)) λ_=>Jn
def G3{x:ByteArray}:Va TT (Jc en x):=MD.imp λ_ _=>trivial
def Xu{t:Tk}(hg:Gd t/\Gy t)(h:Cz t=some true):RG t.text:=by
 unfold Cz at h;rw[abV] at h;cases hk:CV t.kind 1 with
 | false=>rw[hk] at h;cases h
 | true =>
   rw[hk] at h;obtain⟨h1,h2,h3⟩:=hg.2.name (FR hk);refine⟨h1,h2,λhm=>?_,h3⟩;rw[DF.2 hm] at h;cases h
def uN{t:Tk}(hg:Gd t/\Gy t)(h:Fi t=some true):Vp t.text:=by
 unfold Fi at h;cases h1:B2 t.text.data.toList Hh.data.toList with
 | true=>exact .inl (Pb h1)
 | false =>
   rw[h1] at h;cases h2:B2 t.text.data.toList EK.data.toList with
   | true=>exact .inr (.inl (Pb h2))
   | false =>
     rw[h2] at h;cases h3:B2 t.text.data.toList JV.data.toList with
     | true=>exact .inr (.inr (.inl (Pb h3)))
     | false =>
       rw[h3] at h;exact .inr (.inr (.inr (hg.2.nX (FR (QZ h).symm))))
def cM:Va (λp:Int×Int=>0<=p.1/\p.1<=999999999999) (Mu en):=by
 refine BQ MD λt ht=>OO λn hn=>D7 ?_;obtain⟨z,h1,h2⟩:=ht.1.1.num (FR (QZ ht.2).symm);rw[h1] at hn;cases hn;exact h2
def QG(least:Int):Va (λp:Int×Int=>least<=p.1/\p.1<=1000000) (LU en least) :=
 BQ cM λp _=>DX (λ_=>Jn) λh1=>DX (λ_=>Jn) λh2=>D7 ⟨Lc h1,Lc h2⟩
def XN(least:Int):Va (λd:Int=>least<=d/\0<=d/\d<=36524) (Rz en least):=by
 refine BQ MD λt ht=>OO λd hd=>DX (λh=>DX (λ_=>Jn) λh3=>D7 ⟨Lc h3,?_⟩) λ_=>Jn;obtain⟨d',e,h1,h2⟩:=ht.1.1.date (FR (QZ ht.2).symm);rw[h1] at hd;cases hd;exact h2 (FR h)
def ahk:Va RB (UX en):=by
 have mk:∀{n f u k p:Int},(0<=n/\n<=1000000)->(0<=f/\f<=36524)->(f < u/\u<=36525)->(0<=k/\k<=36524)->RB ⟨5,bE,bE,n,f,u,k,⟨0,[]⟩,[],p⟩ :=
   λh1 h2 h3 h4=>⟨rfl,h1,rfl,h2,h3,h4,rfl,rfl,rfl,rfl,rfl,rfl,rfl,rfl⟩
 exact BQ G3 λt _=>BQ (QG _) λn hn=>BQ G3 λ_ _=>BQ (XN _) λf hf =>
   Wc (BQ (XN _) λu hu=>BQ G3 λ_ _=>BQ (XN _) λk hk=>D7 (mk hn hf.2 ⟨by have:=hu.1;rw[C5 (by have:=hf.2;omega)] at this;omega,by have:=hu.2;omega⟩ hk.2))
     (BQ G3 λ_ _=>BQ (XN _) λk hk=>D7 (mk hn hf.2 ⟨by have:=hf.2;omega,by omega⟩ hk.2))
def agn{x:ByteArray}{n:Int}(h:EB x=some n):0<=n/\n<=4:=by
 unfold EB at h;revert h;cases B2 Tu.data.toList x.data.toList;cases B2 Mr.data.toList x.data.toList;cases B2 PA.data.toList x.data.toList;cases B2 Ty.data.toList x.data.toList<;>(intro h;cases h;decide)
 intro h;cases h;decide;intro h;cases h;decide;intro h;cases h;decide
def uU:Va IK (Pa en):=by
 refine mC λt _=>QF (BQ MD λm hm=>BQ G3 λ_ _=>BQ MD λu hu=>DX (λ_=>BQ MD λr hr=>OO λn hn=>BQ G3 λ_ _=>D7 (.inr (.inl ?_))) λ_=>BQ G3 λ_ _=>D7 (.inl ?_));have h1:=agn hn
 have h2:0 < n:=by
   have h:=hr.2;unfold BX at h;rw[hn] at h;exact YV (by cases hq:DS 0 n with | true=>rfl | false=>(simp only[Option.bind_some,hq,cond_false] at h;cases h))
 exact⟨rfl,Xu hm.1 hm.2,uN hu.1 hu.2,(by omega:1<=n),h1.2,rfl,rfl,rfl,rfl,rfl,rfl,rfl,rfl,rfl⟩;exact⟨rfl,Xu hm.1 hm.2,uN hu.1 hu.2,rfl,rfl,rfl,rfl,rfl,rfl,rfl,rfl,rfl⟩
end
end Mo
end Go.Proofs.YtpbkhogolfegfaaGreatDoor
namespace Go.Proofs.YtpbkhogolfegfaaGreatDoor
open AI Go LexS
namespace Mo
set_option maxRecDepth 100000
section
variable {en:Int}
def ZA:Va (λp:Int×Int=>0<=p.1/\p.1<=999999999999) (Nk en):=by
 refine BQ MD λt ht=>OO λc hc=>?_
 have hk:t.kind=3\/t.kind=4:=by
   have h:=ht.2;unfold Dq at h;cases h4:CV t.kind 4 with
   | true=>exact .inr (FR h4)
   | false =>
     rw[h4] at h;exact .inl (FR (QZ h).symm)
 obtain⟨z,h1,h2⟩:=ht.1.1.rL hk;rw[h1] at hc;cases hc;exact DX (λ_=>DX (λ_=>D7 h2) λ_=>Jn) λ_=>D7 h2
def ahn:Va (λs:Int=>s=1\/s=-1) (Vh en):=BQ MD λt _=>DX (λ_=>D7 (.inr rfl)) λ_=>D7 (.inl rfl)
def akp{Ax d g z:Int}(hc:1<=Ax/\Ax<=1000000)(hd:1<=d/\d<=1000000)(h1:aa6 Ax d=some g)(h2:Tb Ax g=some z):1<=BU z d:=by
 obtain⟨g',e1,nC,⟨c1,h3⟩,_⟩:=aa8 hc.1 (show(0:Int)<=d by omega);rw[h1] at e1;cases e1;rw[Yj (by omega) (by omega) (by omega)] at h2;cases h2;have hq:Ax / g=c1:=by rw[h3,Int.mul_ediv_cancel_left _ (by omega)]
 have RV:1<=c1:=by
   by_cases h:1<=c1;exact h;have:=Int.mul_nonpos_of_nonneg_of_nonpos (show 0<=g by omega) (show c1<=0 by omega);omega
 have hH:c1<=1000000:=by
   have:=Int.mul_le_mul_of_nonneg_right nC (show 0<=c1 by omega);omega
 rw[hq];have a1:=Int.mul_le_mul hH hd.2 (by omega) (by omega);have a2:=Int.mul_nonneg (show 0<=c1 by omega) (show 0<=d by omega);rw[IU (by omega)];have:=Int.mul_le_mul_of_nonneg_right RV (show 0<=d by omega);omega
def PtP(before:List Pt)(x:Pt×Int):Prop:=(0<=x.1.fr/\x.1.fr<=999999999999)/\(before=[]->x.1.fr=0)/\(∀q,before[before.length - 1]?=some q->q.fr < x.1.fr)/\before.length<=63/\(-999999999999<=x.1.AH/\x.1.AH<=999999999999)/\1<=x.2/\x.2<=1000000
def cP{Ax:Int}(hc:1<=Ax/\Ax<=1000000)(from_ a:Int):Va (λx:Pt×Int=>x.1.fr=from_/\x.1.AH=a/\1<=x.2/\x.2<=1000000) (NL en Ax from_ a) :=
 BQ ahn λs hs=>BQ (QG _) λm hm=>BQ G3 λ_ _=>BQ (QG _) λd hd=>OO λg hg=>OO λz hz=>DX (λ_=>Jn) λh5=>D7 ⟨rfl,rfl,akp hc hd hg hz,Lc h5⟩
def cO{Ax:Int}(hc:1<=Ax/\Ax<=1000000)(from_:Int):Va (λx:Pt×Int=>x.1.fr=from_/\(-999999999999<=x.1.AH/\x.1.AH<=999999999999)/\1<=x.2/\x.2<=1000000) (Mw en Ax from_) :=
 BQ G3 λ_ _=>Wc (BQ ZA λa ha=>(cP hc _ _).imp λx hx=>⟨hx.1,by rw[hx.2.1,IU (by omega)];omega,hx.2.2⟩) (BQ ZA λa ha=>(cP hc _ _).imp λx hx=>⟨hx.1,by rw[hx.2.1,IU (by omega)];omega,hx.2.2⟩)
def adV(before:List Pt){Ax:Int}(hc:1<=Ax/\Ax<=1000000):Va (PtP before) (Rc en before Ax):=by
 refine BQ ZA λv hv=>DX (λh=>DX (λh0=>(cO hc _).imp λx hx=>?_) λ_=>Jn) λh=>OO λq hq=>DX (λ_=>Jn) λh1=>DX (λ_=>Jn) λh2=>(cO hc _).imp λx hx=>?_;have hn:before=[]:=List.eq_nil_of_length_eq_zero (by have:=FR h;omega);have h0:=FR h0;exact⟨by rw[hx.1];omega,λ_=>by rw[hx.1];exact h0,λq hq=>(by rw[hn] at hq;cases hq),by rw[hn];exact Nat.zero_le _,hx.2⟩;have h1:=ab2 h1;have h2:=ab2 h2;have Kw:before≠[]:=λe=>aH h (by rw[e];rfl);exact⟨by rw[hx.1];omega,λe=>absurd e Kw,λq' nE=>(by rw[hq] at nE;cases nE;rw[hx.1];exact h1),by omega,hx.2⟩
def PLP(ps:List Pt):Prop:=(∀x,ps[0]?=some x->x.fr=0)/\∀(i:Nat) p,ps[i]?=some p->(0<=p.fr/\p.fr<=999999999999)/\(∀q,0 < i->ps[i - 1]?=some q->q.fr < p.fr)/\-999999999999<=p.AH/\p.AH<=999999999999
def tO{ps:List Pt}{x:Pt×Int}(h:PLP ps)(hx:PtP ps x):PLP (ps++[x.1]):=by
 obtain⟨a1,a2,a3,a4,a5,a6⟩:=hx
 have get:∀{i:Nat} {p:Pt},(ps++[x.1])[i]?=some p->(i < ps.length/\ps[i]?=some p)\/(i=ps.length/\p=x.1):=by
   intro i p hp;by_cases hi:i < ps.length;rw[List.getElem?_append_left hi] at hp;exact .inl ⟨hi,hp⟩;rw[List.getElem?_append_right (by omega)] at hp;cases hj:i - ps.length with
   | zero=>rw[hj] at hp;cases hp;exact .inr ⟨by omega,rfl⟩
   | succ j=>rw[hj] at hp;cases hp
 refine⟨λy hy=>?_,λi p hp=>?_⟩;rcases get hy with ⟨h1,h2⟩ | ⟨h1,rfl⟩
 exact h.1 y h2;exact a2 (List.eq_nil_of_length_eq_zero h1.symm);rcases get hp with ⟨h1,h2⟩ | ⟨rfl,rfl⟩
 obtain⟨b1,b2,b3⟩:=h.2 i p h2;refine⟨b1,λq hq ZL=>?_,b3⟩;rcases get ZL with ⟨_,h4⟩ | ⟨h3,_⟩
 exact b2 q hq h4;omega;refine⟨a1,λq hq ZL=>?_,a5⟩;rcases get ZL with ⟨_,h4⟩ | ⟨h3,_⟩
 exact a3 q h4;omega
def yM:∀(q:Nat) (ps:List Pt) (c:Int),1<=c/\c<=1000000->PLP ps->Va (λr:List Pt×Int=>PLP r.1/\(1<=r.1.length/\r.1.length<=64)/\1<=r.2/\r.2<=1000000) (Jy en q ps c):=by
 intro q
 induction q with
 | zero=>intro ps c _ _ _ _ _ _ h;cases h
 | succ q ih =>
   intro ps c hc hp;refine BQ (adV ps hc) λx hx=>Wb (Wc (ih _ _ hx.2.2.2.2.2 (tO hp hx)) (D7 ⟨tO hp hx,?_,hx.2.2.2.2.2⟩));have:=hx.2.2.2.1;simp only[List.length_append,List.length_singleton];omega
def yN{c p:Int}:∀(ps:List Pt) (acc:List Pc),Va (λr:List Pc=>∃out,r=acc++out/\out.length=ps.length/\∀(i:Nat) x,ps[i]?=some x->∃sl,out[i]?=some ⟨x.fr,BU x.AH c,sl⟩/\-1000000<=sl/\sl<=1000000) (L0 c p ps acc):=by
 intro ps
 induction ps with
 | nil=>intro acc;exact D7 ⟨[],by simp,rfl,λi x h=>by cases h⟩
 | cons y ps ih =>
   intro acc;refine OO λz _=>DX (λ_=>Jn) λh1=>DX (λ_=>Jn) λh2=>Wb ((ih _).imp λr hr=>?_);obtain⟨out,rfl,h3,h4⟩:=hr;refine⟨⟨y.fr,BU y.AH c,BU y.num z⟩::out,by simp,by simp[h3],λi x hx=>?_⟩;cases i with
   | zero=>cases hx;exact⟨_,rfl,Lc h2,Lc h1⟩
   | succ i=>exact h4 i x hx
def ale{ps:List Pt}{c:Int}{r:List Pc}(h:PLP ps)(hl:1<=ps.length/\ps.length<=64)(hc:1<=c/\c<=1000000)(h2:r.length=ps.length)(h3:∀(i:Nat) x,ps[i]?=some x->∃sl,r[i]?=some ⟨x.fr,BU x.AH c,sl⟩/\-1000000<=sl/\sl<=1000000):lU ⟨c,r⟩:=by
 have back:∀{i:Nat} {y:Pc},r[i]?=some y->∃x sl,ps[i]?=some x/\y=⟨x.fr,BU x.AH c,sl⟩/\-1000000<=sl/\sl<=1000000:=by
   intro i y hy;have hi:i < ps.length:=by have:=(List.getElem?_eq_some_iff.1 hy).1;omega
   obtain⟨sl,e,b⟩:=h3 i ps[i] (List.getElem?_eq_getElem hi);rw[hy] at e;exact⟨ps[i],sl,List.getElem?_eq_getElem hi,Option.some.inj e,b⟩
 refine⟨hc,by rw[h2];exact hl,λy hy=>?_,λi y hy=>?_⟩;obtain⟨x,sl,h4,rfl,_⟩:=back hy;exact h.1 x h4;obtain⟨x,sl,h4,rfl,h5,h6⟩:=back hy;obtain⟨a1,a2,a3,a4⟩:=h.2 i x h4;have m1:=Int.mul_le_mul_of_nonneg_right a4 (show 0<=c by omega);have m2:=Int.mul_le_mul_of_nonneg_right a3 (show 0<=c by omega);have e:BU x.AH c=x.AH*c:=IU (by omega);refine⟨a1.2,λq hq ZL=>?_,?_,?_,?_,h6,h5⟩;obtain⟨x',sl',h7,rfl,_⟩:=back ZL;exact a2 x' hq h7;dsimp only;unfold VI gK;rw[if_neg (by omega),e,Int.mul_tmod_left];dsimp only;rw[e,IU (by omega)];exact m1;dsimp only;rw[e,IU (by omega)];exact m2
def ahm{P:Nd->Prop}{read:Rd Nd}(hr:Va P read):∀(q:Nat) (ns:List Nd),ns≠[]->(∀n∈ns,P n)->Va (λr:List Nd=>r≠[]/\∀n∈r,P n) (Nq read q ns):=by
 intro q
 induction q with
 | zero=>intro ns _ _ _ _ _ _ h;cases h
 | succ q ih =>
   intro ns h0 h;refine Wc (BQ hr λn hn=>Wb (ih _ (by simp) λy hy=>?_)) (D7 ⟨h0,h⟩);rcases List.mem_append.1 hy with hy | hy
   exact h y hy;rw[List.mem_singleton.1 hy];exact hn
def uV{P:Nd->Prop}{read:Rd Nd}(hr:Va P read):Va (λr:List Nd=>r≠[]/\∀n∈r,P n) (RF read) :=
 BQ hr λn hn _ _ _ hg h=>ahm hr _ [n] (by simp) (λy hy=>by rw[List.mem_singleton.1 hy];exact hn) hg h
def akB{n p:Int}(h:1<=n/\n<=1000000):Kc (Fw 11 bE EK n [] p)/\Q4 (Fw 11 bE EK n [] p) :=
 ⟨(Jq _).2 ⟨.inl ⟨rfl,.inr (.inl rfl),by show 0<=n;omega,by show n<=_;omega,λe=>absurd e (show EK≠Hh by decide),rfl,rfl,rfl,rfl,rfl,rfl,rfl,rfl,rfl⟩,λk hk=>by cases hk⟩,rfl,rfl,h⟩
def TG:Va (λn=>Kc n/\Q4 n) (FT en):=BQ (QG _) λp hp=>D7 (akB hp)
end
end Mo
end Go.Proofs.YtpbkhogolfegfaaGreatDoor
namespace Go.Proofs.YtpbkhogolfegfaaGreatDoor
open AI Go LexS
namespace Mo
set_option maxRecDepth 100000
def opQ{nm:ByteArray}{a b:Nd}{p:Int}(ho:YZ nm)(ha:Kc a)(hb:Kc b)(hn:nm=EH->Q4 b):Kc ⟨16,nm,ByteArray.empty,0,0,0,0,⟨0,[]⟩,[a,b],p⟩:=by
 refine(Jq _).2 ⟨.inr (.inr (.inr (.inr (.inr (.inl ⟨rfl,⟨rfl,rfl,rfl,rfl,rfl,rfl,rfl,rfl⟩,rfl,ho,λe k hk=>?_⟩))))),λk hk=>?_⟩;cases hk;exact hn e;simp only[List.mem_cons,List.not_mem_nil,or_false] at hk;rcases hk with rfl | rfl
 exact ha;exact hb
def VE:List ByteArray:=[kI,P1,GW,Ib,Kh,Hg,JK,FX,OA,Lu,PQ,EH,iM]
def tL(i:Nat):∀x∈opsOf i,x∈VE:=by
 unfold opsOf;split<;>(intro x hx;simp only[List.mem_cons,List.not_mem_nil,or_false] at hx)<;>(try (unfold VE;simp only[List.mem_cons]))
 exact .inl hx;exact .inr (.inl hx);rcases hx with h | h | h | h | h | h<;>simp[h]
 rcases hx with h | h<;>simp[h]
 rcases hx with h | h | h<;>simp[h]
def vL{op:ByteArray}{l r x:Nd}(ho:op∈VE)(hl:Kc l)(hr:Kc r)(hn:op=EH->Q4 r)(h:Bl op l r=some x):Kc x:=by
 unfold Bl at h;revert h;cases h1:B2 op.data.toList JK.data.toList with
 | true =>
   rw[Pb h1,show K5 JK JK Kh 1=some Kh from rfl];intro h;cases h;exact opQ (by unfold YZ;simp) hr hl λe=>absurd e (by decide)
 | false =>
   cases h2:B2 op.data.toList FX.data.toList with
   | true =>
     rw[Pb h2,show K5 FX JK Kh 1=some Hg from rfl];intro h;cases h;exact opQ (by unfold YZ;simp) hr hl λe=>absurd e (by decide)
   | false =>
     intro h;cases h;refine opQ ?_ hl hr hn;unfold VE at ho;simp only[List.mem_cons,List.not_mem_nil,or_false] at ho;have n1:=aaP h1;have n2:=aaP h2;unfold YZ;rcases ho with h | h | h | h | h | h | h | h | h | h | h | h | h
     all_goals first | exact absurd h n1 | exact absurd h n2 | simp[h]
section
variable {en:Int}
def aiM{α:Type}{P:α->Prop}{yes:ByteArray->Rd α}{no:Rd α}(h2:Va P no):∀ops:List ByteArray,(∀x∈ops,Va P (yes x))->Va P (kH yes no ops):=by
 intro ops
 induction ops with
 | nil=>intro _;exact h2
 | cons x ops ih=>intro h;exact Wc (h x (List.mem_cons_self ..)) (ih λy hy=>h y (List.mem_cons_of_mem _ hy))
def mD{sub:Rd Nd}(h:Va Kc sub){op:ByteArray}(ho:op∈VE){l:Nd}(hl:Kc l):Va Kc (PS en sub op l):=by
 refine BQ (P:=λr=>Kc r/\(op=EH->Q4 r)) (DX (λ_=>TG.imp λn hn=>⟨hn.1,λ_=>hn.2⟩) λh1=>h.imp λn hn=>⟨hn,λe=>absurd e (aaP h1)⟩) λr hr=>OO λx hx=>D7 (vL ho hl hr.1 hr.2 hx)
def adT{ops:List ByteArray}(apT:∀x∈ops,x∈VE){sub:Rd Nd}(h:Va Kc sub):∀(q:Nat) (l:Nd),Kc l->Va Kc (Jb en ops sub q l):=by
 intro q
 induction q with
 | zero=>intro l _ _ _ _ _ h;cases h
 | succ q ih=>intro l hl;exact aiM (D7 hl) ops λx hx=>BQ (mD h (apT x hx) hl) λb hb=>ih b hb
def akU{nm:ByteArray}{p:Int}(h:RG nm):Kc (Fw 12 nm bE 0 [] p):=(Jq _).2 ⟨.inr (.inl ⟨rfl,h,rfl,rfl,rfl,rfl,rfl,rfl,rfl,rfl,rfl⟩),λk hk=>by cases hk⟩
def YS{u:ByteArray}{n p:Int}(h:Vp u)(h0:0<=n/\n<=999999999999)(h1:u=Hh->n<=1):Kc (Fw 11 bE u n [] p):=(Jq _).2 ⟨.inl ⟨rfl,h,h0.1,h0.2,h1,rfl,rfl,rfl,rfl,rfl,rfl,rfl,rfl,rfl⟩,λk hk=>by cases hk⟩
def fD{a:Nd}(h:Kc a):∀k∈[a],Kc k:=λk hk=>by rw[List.mem_singleton.1 hk];exact h
def aky{k:Nd}{p:Int}(hk:Kc k):Kc (Fw 15 bE bE 0 [k] p):=(Jq _).2 ⟨.inr (.inr (.inr (.inr (.inl ⟨rfl,rfl,rfl,rfl,rfl,rfl,rfl,rfl,rfl,rfl⟩)))),fD hk⟩
def ai5{n p:Int}(h:1<=n/\n<=1000000):Kc (Fw 13 bE bE n [] p):=(Jq _).2 ⟨.inr (.inr (.inl ⟨rfl,h,rfl,rfl,rfl,rfl,rfl,rfl,rfl,rfl,rfl⟩)),λk hk=>(by cases hk)⟩
def af9:PLP []:=⟨λx h=>(by cases h),λi p h=>(by cases h)⟩
def aeS{nm:ByteArray}{a:Nd}{l:List Nd}{p:Int}(hn:nm=K2\/nm=F0)(ha:Kc a)(hl:l≠[]/\∀n∈l,Kc n):Kc (Fw 17 nm bE 0 (a::l) p):=by
 refine(Jq _).2 ⟨.inr (.inr (.inr (.inr (.inr (.inr (.inl ⟨rfl,hn,⟨rfl,rfl,rfl,rfl,rfl,rfl,rfl,rfl⟩,?_⟩)))))),λk hk=>?_⟩;have:=List.length_pos_iff.2 hl.1;show 2<=(a::l).length;rw[List.length_cons];omega;rcases List.mem_cons.1 hk with rfl | hk
 exact ha;exact hl.2 k hk
structure VaE(g:Ek->Rd Nd)(li:Rd (List Nd)):Prop where
 vg:∀e,e≠.ca->(∀t,e≠.wd t)->Va Kc (g e)
 vw:∀⦃t:Tk⦄ ⦃l s:List Tk⦄ ⦃a:Nd⦄,Gx (t::l)->g (.wd t) (t::l)=some (.inl a,s)->Kc a/\Gx s
 vc:∀⦃t:Tk⦄ ⦃l s:List Tk⦄ ⦃a:Nd⦄,Gx (t::l)->(t.text=K2\/t.text=F0)->g .ca (t::l)=some (.inl a,s)->Kc a/\Gx s
 vli:Va (λr:List Nd=>r≠[]/\∀n∈r,Kc n) li
def aeX{u:ByteArray}(h:vS u):u≠Hh:=by
 rintro rfl;have:=h.1;revert this;decide
def aln:∀q:Nat,VaE (gP en q).1 (gP en q).2:=by
 intro q
 induction q with
 | zero =>
   constructor;intro e _ _ _ _ _ _ h;cases h;intro _ _ _ _ _ h;cases h;intro _ _ _ _ _ _ h;cases h;intro _ _ _ _ h;cases h
 | succ q A =>
   have lv:∀i,Va Kc (Nb en (gP en q).1 i):=λi=>BQ (A.vg _ (by simp) (by simp)) λN hN _ _ _ hg h=>adT (tL i) (A.vg _ (by simp) (by simp)) _ N hN hg h;refine⟨λe hc hw=>?_,λt l s a hg h=>?_,λt l s a hg ht h=>?_,uV (A.vg .ex (by simp) (by simp))⟩;show Va Kc (OI en (gP en q).1 (gP en q).2 e);unfold OI;split;exact A.vg _ (by simp) (by simp);intro l a s hg h;unfold W1 at h;cases hx:Ii VT l with
   | true =>
     rw[hx] at h;exact BQ (P2:=Kc) G3 (λt _=>BQ (A.vg _ (by simp) (by simp)) λk hk=>D7 (aky hk)) hg h
   | false=>rw[hx] at h;exact A.vg _ (by simp) (by simp) hg h
   exact BQ (A.vg _ (by simp) (by simp)) λN hN=>aiM (D7 hN) _ λx hx=>mD (A.vg _ (by simp) (by simp)) (tL 3 x hx) hN;exact A.vg _ (by simp) (by simp);exact lv _;intro l a s hg h;cases l with
   | nil=>cases h
   | cons t l =>
     have ht:=hg t (List.mem_cons_self ..);unfold Wm Ue at h;dsimp only at h;cases hk3:CV t.kind 3 with
     | true =>
       rw[hk3] at h;exact BQ (P2:=Kc) cM (λn hn=>Wc (D7 (YS (.inr (.inr (.inl rfl))) hn λe=>absurd e (by decide))) (D7 (YS (.inr (.inl rfl)) hn λe=>absurd e (by decide)))) hg h
     | false =>
       rw[hk3] at h;dsimp only[cond] at h;cases hk:CV t.kind 2 with
       | true =>
         rw[hk] at h;refine QF (P:=Kc) (BQ MD λa ha=>OO λz hz=>D7 ?_) hg h;obtain⟨z',h1,h2⟩:=ha.1.1.rL (.inr (FR (QZ ha.2).symm));rw[h1] at hz;cases hz;have hc:=ht.2.nX (FR hk);exact YS (.inr (.inr (.inr hc))) h2 λe=>absurd e (aeX hc)
       | false =>
         rw[hk] at h;obtain⟨b,hb,h⟩:=I0 h;cases b with
         | true=>exact QF (P:=Kc) (D7 (akU (Xu ht hb))) hg h
         | false=>exact A.vw hg h
   rename_i t;exact absurd rfl (hw t);exact absurd rfl hc;refine BQ G3 λt _=>BQ G3 λ_ _=>BQ (A.vg _ (by simp) (by simp)) λa ha=>BQ G3 λ_ _=>BQ (λ_ _ _ hg h=>yM _ [] 1 (by decide) af9 hg h) λl hl=>BQ G3 λe _=>Wb (BQ (yN _ _) λr hr=>D7 ?_);obtain⟨out,e,h3,h4⟩:=hr;rw[List.nil_append] at e;subst e;exact(Jq _).2 ⟨.inr (.inr (.inr (.inr (.inr (.inr (.inr ⟨rfl,⟨rfl,rfl,rfl,rfl,rfl,rfl,rfl,rfl⟩,ale hl.1 hl.2.1 hl.2.2 h3 h4,rfl⟩)))))),fD ha⟩
   . have h:RL en (gP en q).1 t (t::l)=some (.inl a,s):=h
     have dt:dP t.text->Va Kc (Wo t):=λh=>QF (D7 ((Jq _).2 ⟨.inr (.inr (.inr (.inl ⟨rfl,h,rfl,rfl,rfl,rfl,rfl,rfl,rfl,rfl,rfl⟩))),λk hk=>by cases hk⟩))
     have key:(t.text=K2\/t.text=F0)/\(gP en q).1 .ca (t::l)=some (.inl a,s)\/(Kc a/\Gx s):=by
       unfold RL at h;revert h;cases B2 t.text.data.toList Zt.data.toList;rotate_left;exact λh=>.inr (QF (P:=Kc) (D7 (YS (.inl rfl) (by decide) λ_=>by decide)) hg h);cases B2 t.text.data.toList TP.data.toList;rotate_left;exact λh=>.inr (QF (P:=Kc) (D7 (YS (.inl rfl) (by decide) λ_=>by decide)) hg h);cases B2 t.text.data.toList dF.data.toList;rotate_left;exact λh=>.inr (QF (P:=Kc) (BQ (QG _) λp hp=>D7 (ai5 hp)) hg h);cases h1:B2 t.text.data.toList L2.data.toList;rotate_left;exact λh=>.inr (dt (.inl (Pb h1)) hg h);cases h1:B2 t.text.data.toList dO.data.toList;rotate_left;exact λh=>.inr (dt (.inr (.inl (Pb h1))) hg h);cases h1:B2 t.text.data.toList Q1.data.toList;rotate_left;exact λh=>.inr (dt (.inr (.inr (.inl (Pb h1)))) hg h);cases h1:B2 t.text.data.toList VA.data.toList;rotate_left;exact λh=>.inr (dt (.inr (.inr (.inr (Pb h1)))) hg h);cases h1:B2 t.text.data.toList K2.data.toList;rotate_left;exact λh=>.inl ⟨.inl (Pb h1),h⟩;cases h1:B2 t.text.data.toList F0.data.toList;rotate_left;exact λh=>.inl ⟨.inr (Pb h1),h⟩;cases B2 t.text.data.toList Rl.data.toList;rotate_left;exact λh=>.inr (A.vg _ (by simp) (by simp) hg h);cases B2 t.text.data.toList Ub.data.toList;rotate_left;exact λh=>.inr (QF (P:=Kc) (BQ (A.vg _ (by simp) (by simp)) λa ha=>BQ G3 λ_ _=>D7 ha) hg h);exact λh=>.inr (Jn (P:=Kc) hg h)
     rcases key with ⟨h1,h2⟩ | h1
     exact A.vc hg h1 h2;exact h1
   have h:UM en (gP en q).1 (gP en q).2 (t::l)=some (.inl a,s):=h;unfold UM Ue at h;dsimp only at h;exact QF (P:=Kc) (BQ G3 λ_ _=>BQ (A.vg _ (by simp) (by simp)) λa ha=>BQ G3 λ_ _=>BQ A.vli λl hl=>Wb (BQ G3 λ_ _=>D7 (aeS ht ha hl))) hg h
def aiL:Va Kc (K9 en):=λ_ _ _ hg h=>(aln _).vg .ex (by simp) (by simp) hg h
def yL{kind:Int}:Va (λn=>KS n/\n.kind=kind) (IN en (K9 en) kind):=by
 refine mC λt _=>QF (DX (λhk=>BQ (uV TG) λl hl=>BQ G3 λ_ _=>D7 ⟨⟨⟨rfl,rfl,rfl,rfl,rfl,rfl,rfl,rfl⟩,λ_=>⟨?_,hl.2⟩,λh=>absurd (FR hk) h⟩,rfl⟩) λhk=>BQ aiL λe he=>BQ G3 λ_ _=>D7 ⟨⟨⟨rfl,rfl,rfl,rfl,rfl,rfl,rfl,rfl⟩,λh=>absurd h (aH hk),λ_=>⟨rfl,fD he⟩⟩,rfl⟩);exact List.length_pos_iff.2 hl.1
def iT(k:Int)(l m:List Nd):Hm k (l++m)=Hm k l+Hm k m:=by
 induction l with
 | nil=>simp[Hm]
 | cons a l ih=>simp only[List.cons_append,Hm,ih];omega
def adU{t1 t4:Tk}{n2:Int}(h4:RG t4.text)(hn:1<=n2/\n2<=1000000){h:Nd}(hh:RB h):∀(q:Nat) (cs:List Nd) (un am:Bool),kinds cs->(∀k∈cs,KS k)->Hm 8 cs=(if am then 1 else 0)->Hm 7 cs=(if un then 1 else 0) ->
   Va IK (Gz en (K9 en) (λl=>Fw 4 t4.text bE n2 l t1.AH) q (h::cs) un am):=by
 intro q
 induction q with
 | zero=>intro cs un am _ _ _ _ _ _ _ _ h;cases h
 | succ q ih =>
   intro cs un am k1 k2 k3 k4
   have go:∀(kind:Int) (qV nP:Bool),(6<=kind/\kind<=8)->(if am then 1 else 0)+(if kind=8 then 1 else 0)=(if nP then 1 else 0)->(if un then 1 else 0)+(if kind=7 then 1 else 0)=(if qV then 1 else 0) ->
       Va IK (Cv (IN en (K9 en) kind) λc=>OC ((h::cs).length+1) (Gz en (K9 en) (λl=>Fw 4 t4.text bE n2 l t1.AH) q (h::cs++[c]) qV nP)):=by
     intro kind qV nP hk h8 h7;refine BQ yL λc hc=>Wb (ih (cs++[c]) qV nP ?_ ?_ ?_ ?_);intro y hy;rcases List.mem_append.1 hy with hy | hy
     exact k1 y hy;rw[List.mem_singleton.1 hy,hc.2];exact hk;intro y hy;rcases List.mem_append.1 hy with hy | hy
     exact k2 y hy;rw[List.mem_singleton.1 hy];exact hc.1;rw[iT,k3];simp only[Hm,hc.2];omega;rw[iT,k4];simp only[Hm,hc.2];omega
   refine mC λt _=>DX (λ_=>go 6 un am (by decide) (by simp) (by simp)) λ_=>DX (λ_=>DX (λ_=>Jn) λhu=>go 7 true am (by decide) (by simp) (by simp[hu])) λ_ =>
     DX (λ_=>DX (λ_=>Jn) λha=>go 8 un true (by decide) (by simp[ha]) (by simp)) λ_=>DX (λ_=>DX (λha=>QF (D7 (.inr (.inr ⟨rfl,hn,h4,⟨rfl,rfl,rfl,rfl,rfl,rfl,rfl,rfl⟩,h,cs,rfl,k1,by rw[k3,ha];rfl,?_,hh,k2⟩)))) λ_=>Jn) λ_=>Jn
   rw[k4];split<;>omega
def ahl:Va IK (Oc en (K9 en)):=by
 refine mC λt _=>DX (λ_=>uU) λ_=>DX (λ_=>uU) λ_=>DX (λ_=>?_) λ_=>Jn
 exact BQ G3 λt _=>BQ (QG _) λn hn=>BQ G3 λ_ _=>BQ MD λm hm=>BQ ahk λh hh=>BQ G3 λ_ _ _ _ _ hg e =>
   adU (Xu hm.1 hm.2) hn hh _ [] false false (λk hk=>by cases hk) (λk hk=>by cases hk) rfl rfl hg e
end
end Mo
end Go.Proofs.YtpbkhogolfegfaaGreatDoor
namespace Go.Proofs.YtpbkhogolfegfaaGreatDoor
open AI Go
namespace Mo
set_option maxRecDepth 100000
set_option maxHeartbeats 4000000
section
variable (n:Nd)
def Pk:(Mc n).kind=n.kind:=by rw[OH]
def XG:(Mc n).name=n.name:=by rw[OH]
def XH:(Mc n).unit=n.unit:=by rw[OH]
def xZ:(Mc n).n=n.n:=by rw[OH]
def aiC:(Mc n).fr=n.fr:=by rw[OH]
def aiD:(Mc n).to=n.to:=by rw[OH]
def lQ:(Mc n).known=n.known:=by rw[OH]
def qP:(Mc n).CZ=n.CZ:=by rw[OH]
def MB:(Mc n).kids=n.kids.map Mc:=by rw[OH]
end
def adz:∀{l:List Nd},(∀k∈l,Ez (Mc k)=Ez k/\OS (Mc k)=OS k)->Hb (l.map Mc)=Hb l/\Wp (l.map Mc)=Wp l
 | [],_=>⟨rfl,rfl⟩
 | a::l,h=>by
   obtain⟨h1,h2⟩:=h a (by simp);obtain⟨h3,h4⟩:=adz (l:=l) λk hk=>h k (by simp[hk]);simp only[List.map_cons,Hb,Wp,h1,h2,h3,h4,and_self]
def akx{p:Nd->Prop}(h:∀n,(∀k∈n.kids,p k)->p n):∀(m:Nat) (n:Nd),Ez n<=m->p n:=by
 intro m
 induction m with
 | zero=>intro n h;have:=Gk n;omega
 | succ m ih =>
   intro n hn;have Qc:=Gk n;exact h n λk hk=>ih k (by have:=NQ hk;omega)
def YW{p:Nd->Prop}(h:∀n,(∀k∈n.kids,p k)->p n)(n:Nd):p n:=akx h (Ez n) n (Nat.le_refl _)
def adA(n:Nd):Ez (Mc n)=Ez n/\OS (Mc n)=OS n:=by
 refine YW (p:=λn=>Ez (Mc n)=Ez n/\OS (Mc n)=OS n) (λn ih=>?_) n;obtain⟨h1,h2⟩:=adz (l:=n.kids) ih;rw[Gk (Mc n),N5 (Mc n),N5 n,Gk n,MB,h1,h2];exact⟨rfl,rfl⟩
def amW{n:Nd}:K3 n->K3 (Mc n):=by
 refine YW (p:=λn=>K3 n->K3 (Mc n)) (λn ih Xq=>?_) n;obtain⟨p1,p2,p3⟩:=(Qj n).1 Xq;rw[OH];refine(Qj _).2 ⟨p1,by simpa using p2,λy hy=>?_⟩
 obtain⟨k,hk,rfl⟩:=List.mem_map.1 hy;exact ih k hk (p3 k hk)
def alC{n:Nd}{i:Nat}{q:Nd->Prop}(hq:∀k,q (Mc k)↔q k):(∀k,(Mc n).kids[i]?=some k->q k)↔∀k,n.kids[i]?=some k->q k:=by
 rw[MB];constructor;intro h k hk;exact(hq k).1 (h _ (by rw[List.getElem?_map,hk];rfl));intro h k hk;rw[List.getElem?_map] at hk;obtain⟨y,hy,rfl⟩:=Option.map_eq_some_iff.1 hk;exact(hq y).2 (h y hy)
def TK{l:List Nd}{q:Nd->Prop}(hq:∀k∈l,q (Mc k)↔q k):(∀k∈l.map Mc,q k)↔∀k∈l,q k:=by
 constructor;intro h k hk;exact(hq k hk).1 (h _ (List.mem_map_of_mem hk));intro h k hk;obtain⟨y,hy,rfl⟩:=List.mem_map.1 hk;exact(hq y hy).2 (h y hy)
def acp(k:Nd):Q4 (Mc k)↔Q4 k:=by unfold Q4;rw[Pk,XH,xZ]
def SL(n f:Nd):GB (Mc n) f↔GB n f:=by unfold GB;rw[XG,XH,xZ,aiC,aiD,lQ,qP]
def ajp(n:Nd):Tc (Mc n)↔Tc n:=by
 unfold Tc;rw[alC acp];simp only[SL,Pk,XH,xZ,XG,qP,MB,List.length_map]
def oA(n:Nd):Kc (Mc n)↔Kc n:=by
 refine YW (p:=λn=>Kc (Mc n)↔Kc n) (λn ih=>?_) n;rw[Jq,Jq,ajp,MB,TK ih]
def UP(k:Int):∀l:List Nd,Hm k (l.map Mc)=Hm k l
 | []=>rfl
 | a::l=>by rw[List.map_cons,Hm,Hm,Pk,UP k l]
def aG(x:Nd):KS (Mc x)↔KS x:=by
 unfold KS;rw[SL,Pk,MB,List.length_map,TK (λk _=>and_congr (oA k) (acp k)),TK (λk _=>oA k)]
def sF(x:Nd):RB (Mc x)↔RB x:=by
 unfold RB;simp only[SL,Pk,xZ,aiC,aiD,lQ,MB,List.length_map]
def ai6(n:Nd):vD (Mc n)↔vD n:=by
 unfold vD;rw[SL,XG,xZ,MB];refine and_congr_right λ_=>and_congr_right λ_=>and_congr_right λ_=>?_;cases n.kids with
 | nil=>exact⟨λ⟨h,cs,e,_⟩=>(nomatch e),λ⟨h,cs,e,_⟩=>(nomatch e)⟩
 | cons a l =>
   have hk:kinds (l.map Mc)↔kinds l:=by unfold kinds;exact TK λk _=>by rw[Pk]
   constructor;rintro⟨h,cs,e,h1,h2,h3,h4,h5⟩;rw[List.map_cons] at e;cases e;exact⟨a,l,rfl,hk.1 h1,by rwa[UP] at h2,by rwa[UP] at h3,(sF a).1 h4,(TK λk _=>aG k).1 h5⟩;rintro⟨h,cs,e,h1,h2,h3,h4,h5⟩;cases e;exact⟨Mc a,l.map Mc,rfl,hk.2 h1,by rwa[UP],by rwa[UP],(sF a).2 h4,(TK λk _=>aG k).2 h5⟩
def afB(n:Nd):IK (Mc n)↔IK n:=by
 unfold IK;rw[ai6];simp only[SL,Pk,xZ,XG,XH,MB,List.length_map]
def akG(n:Nd):okV (Mc n)↔okV n:=by
 unfold okV;rw[SL,Pk,oA,(adA n).1,(adA n).2,MB,TK λk _=>afB k]
end Mo
end Go.Proofs.YtpbkhogolfegfaaGreatDoor
namespace Go.Proofs.YtpbkhogolfegfaaGreatDoor
open AI Go
namespace Mo
set_option maxRecDepth 100000
set_option maxHeartbeats 4000000
def tB{α:Type}{l:List α}{body:Nat->α->Unit->Option (Lp Unit Unit Bool)}{x:Option Bool}(hl:l.length<=9223372036854775807)(hb:∀i y,l[i]?=some y->body i y ()=some (.nx ())):(TA l.length (C8 body (λ_=>()) (l.drop 0) 0 ())).bind (MN (λ(_:Unit)=>x) (λv=>some v))=x:=by
 have key:∀(m:List α) (i:Nat),(∀j y,m[j]?=some y->body (i+j) y ()=some (.nx ()))->C8 body (λ_=>()) m i ()=some (.inl ()):=by
   intro m
   induction m with
   | nil=>intro i _;rfl
   | cons y m ih =>
     intro i h;rw[C8,show body i y ()=some (.nx ()) from h 0 y rfl,Option.bind_some];exact ih (i+1) λj z hz=>by rw[Nat.add_assoc,Nat.add_comm 1 j];exact h (j+1) z hz
 rw[show TA l.length=λy:Option (Unit⊕Bool)=>y from funext λy=>if_pos hl,List.drop_zero,key l 0 (λj y hy=>by rw[Nat.zero_add];exact hb j y hy)];rfl
def lI(x:Pc):PT x x=true:=by unfold PT;simp
def qK(f:Fn)(h:f.ps.length<=9223372036854775807):Iz f f=some true:=by
 rw[Iz,IX rfl,IX rfl];refine tB h (λi y hy=>?_);rw[JB,hy,Option.bind_some,lI,cond_true]
def jB(x:ByteArray):B2 x.data.toList x.data.toList=true:=by rw[TO];simp
def akZ:∀(q:Nat) (e:Nd),Ez e<=q->Ez e<=1000000->Z4 e->Hz q e e=some true:=by
 intro q
 induction q with
 | zero=>intro e h;have:=Gk e;omega
 | succ q ih =>
   intro e hq hz ho;have he:=Gk e;have hl:=Rk e.kids;obtain⟨h1,h2⟩:=(SZ e).1 ho;rw[Hz,NN,IX rfl,jB,jB,IX rfl,IX rfl,IX rfl,IX rfl,IX rfl,qK _ (by omega),Option.bind_some,IX rfl];dsimp only[cond];refine tB (by omega) (λi y hy=>?_);have hm:=List.mem_of_getElem? hy;have:=NQ hm;rw[Mx,hy,Option.bind_some,ih y (by omega) (by omega) (h2 y hm),Option.bind_some,cond_true]
def acX{e:Nd}(hz:Ez e<=1000000)(ho:Z4 e):Kn e e=some true:=Yp (Ez e) λq hq=>akZ q e hq hz ho
def acU:∀(q:Nat) (n:Nd),Ez n<=q->Ez n<=100000->FN q n=some (Mc n):=by
 intro q
 induction q with
 | zero=>intro n h;have:=Gk n;omega
 | succ q ih =>
   intro n hq hz;have Qc:=Gk n;have hl:=Rk n.kids
   have key:∀(m:List Nd) (i:Nat) (acc:List Nd),(∀k∈m,k∈n.kids)->acc.length+m.length<=100000->C8 (ρ:=Nd) (λi y x=>J1 (FN q) i y x) (λx=>x) m i acc=some (.inl (acc++m.map Mc)):=by
     intro m
     induction m with
     | nil=>intro i acc _ _;simp[C8]
     | cons y m ihm =>
       intro i acc hm hc;simp only[List.length_cons] at hc;have hy:=NQ (hm y (List.mem_cons_self ..));rw[C8,J1,ih y (by omega) (by omega),Option.bind_some,Gu (by omega),Option.bind_some];have:=ihm (i+1) (acc++[Mc y]) (λk hk=>hm k (List.mem_cons_of_mem _ hk)) (by simp only[List.length_append,List.length_singleton];omega);dsimp only[RA];rw[this,List.append_assoc];rfl
   rw[FN,My,show TA n.kids.length=λy:Option (List Nd⊕Nd)=>y from funext λy=>if_pos (by omega),List.drop_zero,key n.kids 0 [] (λ_ h=>h) (by simp only[List.length_nil];omega),OH];rfl
def acV{n:Nd}(hz:Ez n<=100000):Mz n=some (Mc n):=Yp (Ez n) λq hq=>acU q n hq hz
end Mo
end Go.Proofs.YtpbkhogolfegfaaGreatDoor
namespace Go.Proofs.YtpbkhogolfegfaaGreatDoor
open AI Go
namespace Mo
set_option maxRecDepth 100000
set_option maxHeartbeats 4000000
def ald{f:Fn}(h:lU f):∀(i:Nat) p,f.ps[i]?=some p->0<=p.fr:=by
 intro i
 induction i with
 | zero=>intro p hp;rw[h.2.2.1 p hp];omega
 | succ i ih =>
   intro p hp;have hi:i < f.ps.length:=by have:=(List.getElem?_eq_some_iff.1 hp).1;omega
   have h1:=(h.2.2.2 (i+1) p hp).2.1 f.ps[i] (by omega) (List.getElem?_eq_getElem hi);have:=ih _ (List.getElem?_eq_getElem hi);omega
def adB{f:Fn}(h:lU f):pX f/\f.ps.length<=64:=by
 refine⟨⟨by have:=h.2.1;omega,λy hy=>?_⟩,h.2.1.2⟩;obtain⟨i,hi⟩:=List.getElem?_of_mem hy;have h0:=ald h i y hi;obtain⟨a1,_,_,a4,a5,a6,a7⟩:=h.2.2.2 i y hi;have hr:=h.1;unfold PR at hr;rw[IU (by omega)] at a4;rw[IU (by omega)] at a5;exact⟨⟨by omega,by omega⟩,⟨by omega,by omega⟩,by omega,by omega⟩
def LN{f:Fn}(h:f.ps=[]):pX f/\f.ps.length<=64:=by
 unfold pX;rw[h];exact⟨⟨by simp,λy hy=>(by cases hy)⟩,by simp⟩
def ae3{n:Nd}(h:Tc n):pX n.CZ/\n.CZ.ps.length<=64:=by
 unfold Tc at h;rcases h with h | h | h | h | h | h | h | h
 exact LN h.2.2.2.2.2.2.2.2.2.2.2.2.2;exact LN h.2.2.2.2.2.2.2.2.2.2;exact LN h.2.2.2.2.2.2.2.2.2.2;exact LN h.2.2.2.2.2.2.2.2.2.2;exact LN h.2.2.2.2.2.2.2.2.2;exact LN h.2.1.2.2.2.2.2.2.2;exact LN h.2.2.1.2.2.2.2.2.2.2;exact adB h.2.2.1
def rR(n:Nd):Kc n->Ez n<=1000000->K3 n/\Z4 n:=by
 refine YW (p:=λn=>Kc n->Ez n<=1000000->K3 n/\Z4 n) (λn ih h hz=>?_) n;obtain⟨h1,h2⟩:=(Jq n).1 h;obtain⟨t1,t2⟩:=ae3 h1;have hs:=Gk n;have hl:=Rk n.kids;exact⟨(Qj n).2 ⟨t1,by omega,λk hk=>(ih k hk (h2 k hk) (by have:=S2 hk;omega)).1⟩,(SZ n).2 ⟨by omega,λk hk=>(ih k hk (h2 k hk) (by have:=S2 hk;omega)).2⟩⟩
def SY{n:Nd}(ht:n.CZ.ps=[])(hk:n.kids.length=0):K3 n/\Z4 n:=by
 have:=List.eq_nil_of_length_eq_zero hk;obtain⟨t1,t2⟩:=LN ht;exact⟨(Qj n).2 ⟨t1,by omega,by rw[this];exact λk hk=>(by cases hk)⟩,(SZ n).2 ⟨by omega,by rw[this];exact λk hk=>(by cases hk)⟩⟩
def VS{n:Nd}(ht:n.CZ.ps=[])(hz:Ez n<=1000000)(hk:∀k∈n.kids,K3 k/\Z4 k):K3 n/\Z4 n:=by
 obtain⟨t1,t2⟩:=LN ht;have hs:=Gk n;have hl:=Rk n.kids;exact⟨(Qj n).2 ⟨t1,by omega,λk h=>(hk k h).1⟩,(SZ n).2 ⟨by omega,λk h=>(hk k h).2⟩⟩
def iR{n:Nd}(h:KS n)(hz:Ez n<=1000000):K3 n/\Z4 n:=by
 refine VS h.1.2.2.2.2.2.2.2 hz λk hk=>rR k ?_ (by have:=S2 hk;omega);by_cases h7:n.kind=7;exact((h.2.1 h7).2 k hk).1;exact(h.2.2 h7).2 k hk
def wL{n:Nd}(h:IK n)(hz:Ez n<=1000000):K3 n/\Z4 n:=by
 rcases h with h | h | h
 exact SY h.2.2.2.2.2.2.2.2.2.2.2 h.2.2.2.1;exact SY h.2.2.2.2.2.2.2.2.2.2.2.2.2 h.2.2.2.2.2.1;obtain⟨_,_,hb,hd,cs,hk,_,_,_,hh,hc⟩:=h.2;refine VS hb.2.2.2.2.2.2.2 hz λk hm=>?_;have:=S2 hm;rw[hk] at hm;rcases List.mem_cons.1 hm with rfl | hm
 exact SY hh.2.2.2.2.2.2.2.2.2.2.2.2.2 hh.2.2.1;exact iR (hc k hm) (by omega)
def bP{ks:List Nd}(h:∀k∈ks,IK k)(hz:Hb ks<=10000):K3 (Ha ks)/\Z4 (Ha ks):=by
 refine VS rfl (by have:=Gk (Ha ks);rw[show Ez (Ha ks)=1+Hb ks from rfl];omega) λk hk=>wL (h k hk) (by have:=NQ (show k∈ks from hk);omega)
def qH{ks:List Nd}(h:∀k∈ks,IK k)(hz:Ez (Ha ks)<=2000)(hd:OS (Ha ks)<=40):okV (Ha ks):=⟨.inl ⟨rfl,⟨rfl,rfl,rfl,rfl,rfl,rfl,rfl,rfl⟩,h⟩,hz,hd⟩
def r6{l:List Tk}(h:Gx l)(k:Nat):Gx (l.drop k):=λt ht=>h t (List.mem_of_mem_drop ht)
def adH{en:Int}:∀(q:Nat) (l:List Tk) (ks:List Nd) (ds:List Dg) (r:List Nd×List Dg),Gx l->l.length<=10000->(∀k∈ks,IK k)->JL en q l ks ds=some r->∀k∈r.1,IK k:=by
 intro q
 induction q with
 | zero=>intro l ks ds r _ _ _ h;cases h
 | succ q ih =>
   intro l ks ds r hg hl hk h;cases l with
   | nil=>cases h;exact hk
   | cons t l =>
     unfold JL at h;cases hd:DS ((ds.length:Nat):Int) 20 with
     | false=>rw[hd] at h;cases h;exact hk
     | true =>
       rw[hd] at h;dsimp only[cond] at h;split at h;cases h;rename_i n s hi;obtain⟨hn,hs⟩:=ahl hg hi;obtain⟨⟨j,rfl⟩,_⟩:=La (λt ht=>(hg t ht).1) hl hi;refine ih _ _ _ _ hs (by rw[List.length_drop];omega) (λk hm=>?_) h;rcases List.mem_append.1 hm with hm | hm
       exact hk k hm;rw[List.mem_singleton.1 hm];exact hn;rename_i d s hi;obtain⟨⟨k,rfl⟩,_⟩:=La (λt ht=>(hg t ht).1) hl hi;obtain⟨j,hj⟩:=QB ((t::l).drop k);rw[hj] at h;exact ih _ _ _ _ (r6 (r6 hg k) j) (by simp only[List.length_drop];omega) hk h
def kL{s:ByteArray}{n:Nd}{ds:List Dg}(h:CE s=some (n,ds)) :
   (ds≠[]/\n=z0/\ds.length<=20)\/(ds=[]/\∃ks,Qg s=0/\JL ((s.data.toList.length:Nat):Int) ((Bu s).length+1) (Bu s) [] []=some (ks,[])/\n=Ha ks/\(∀k∈ks,IK k)/\Ez n<=2000/\OS n<=40):=by
 by_cases he:Qg s=0;obtain⟨ks,ds',h1,h2,h3,h4⟩:=Xy he;rw[h] at h2;have hv:=adH _ _ _ _ _ (gA s) (by have:=(Ln s).2;omega) (λk hk=>by cases hk) h1;cases ds' with
 | nil =>
   unfold nQ acd at h2;by_cases hc:2000 < Ez (Ha ks)\/40 < OS (Ha ks);rw[if_pos hc] at h2;simp only[Option.some.injEq,Prod.mk.injEq] at h2;obtain⟨rfl,rfl⟩:=h2;exact .inl ⟨by simp,rfl,by simp⟩;rw[if_neg hc] at h2;simp only[Option.some.injEq,Prod.mk.injEq] at h2;obtain⟨rfl,rfl⟩:=h2;exact .inr ⟨rfl,ks,he,h1,rfl,hv,by omega,by omega⟩
 | cons d ds'=>cases h2;exact .inl ⟨by simp,rfl,h4⟩
 rw[bJ he] at h;cases h;exact .inl ⟨by simp,rfl,by simp⟩
def xC(s:ByteArray):∃n ds,CE s=some (n,ds):=by
 by_cases he:Qg s=0;obtain⟨ks,ds',h1,h2,_⟩:=Xy he;exact⟨_,_,h2⟩;exact⟨_,_,bJ he⟩
end Mo
end Go.Proofs.YtpbkhogolfegfaaGreatDoor
namespace Go.Proofs.YtpbkhogolfegfaaGreatDoor
open AI Go
namespace Mo
set_option maxRecDepth 100000
mutual
def orN(hi:Int):Nd->Prop
 | ⟨_,_,_,_,_,_,_,_,kids,AH⟩=>AH<=hi/\orL hi AH kids
def orL(hi lo:Int):List Nd->Prop
 | []=>True
 | k::ks=>(lo<=k.AH/\orN hi k)/\orL hi lo ks
end
def So(hi:Int):List Tk->Prop
 | []=>True
 | t::s=>t.AH<=hi/\(∀u∈s,t.AH<=u.AH)/\So hi s
def Lo(l:List Tk)(x:Int):Prop:=∀t∈l,x<=t.AH
section
variable {α β:Type} {hi x y:Int} {P:α->List Tk->Prop} {P2:β->List Tk->Prop}
def Vo(hi x:Int)(P:α->List Tk->Prop)(m:Rd α):Prop:=∀⦃l:List Tk⦄ ⦃a:α⦄ ⦃s:List Tk⦄,So hi l->Lo l x->m l=some (.inl a,s)->P a s/\So hi s/\Lo s x
end
section
variable {hi x y en:Int}
abbrev PN(hi x:Int):Nd->List Tk->Prop:=λn s=>orN hi n/\x<=n.AH/\Lo s n.AH
abbrev T2{α:Type}:α->List Tk->Prop:=λ_ _=>True
abbrev PL(hi x:Int):List Nd->List Tk->Prop:=λl _=>∀a∈l,x<=a.AH/\orN hi a
def Vx(hi:Int)(m:Rd Nd):Prop:=∀x,Vo hi x (PN hi x) m
structure VoE(hi:Int)(g:Ek->Rd Nd)(li:Rd (List Nd)):Prop where
 og:∀e,(∀t,e≠.wd t)->Vx hi (g e)
 ow:∀⦃t:Tk⦄ ⦃l s:List Tk⦄ ⦃a:Nd⦄ (x:Int),So hi (t::l)->x<=t.AH->g (.wd t) (t::l)=some (.inl a,s)->PN hi x a s/\So hi s/\Lo s x
 oli:∀x,Vo hi x (PL hi x) li
end
end Mo
end Go.Proofs.YtpbkhogolfegfaaGreatDoor
namespace Go.Proofs.YtpbkhogolfegfaaGreatDoor
open AI Go LexS
namespace Mo
set_option maxRecDepth 100000
set_option maxHeartbeats 4000000
def am1(n:Nd):Z4 n->Z4 (Mc n):=by
 refine YW (p:=λn=>Z4 n->Z4 (Mc n)) (λn ih h=>?_) n;obtain⟨h1,h2⟩:=(SZ n).1 h;refine(SZ _).2 ⟨by rw[qP];exact h1,λk hk=>?_⟩;rw[MB] at hk;obtain⟨y,hy,rfl⟩:=List.mem_map.1 hk;exact ih y hy (h2 y hy)
end Mo
end Go.Proofs.YtpbkhogolfegfaaGreatDoor
namespace Go.Proofs.YtpbkhogolfegfaaGreatDoor
open AI Go
namespace Mo
set_option maxRecDepth 100000
set_option maxHeartbeats 4000000
@[jY] def qA(s:ByteArray):Nd×List Dg:=match K9 ((s.data.toList.length:Nat):Int) (Bu s) with
 | some x=>ai4 x
 | none=>(z0,[])
@[jY] def ppV(s:ByteArray):Nd×List Dg:=match JL ((s.data.toList.length:Nat):Int) ((Bu s).length+1) (Bu s) [] [] with
 | some x=>nQ x.1 x.2
 | none=>(z0,[])
def acA{s:ByteArray}(h:Qg s=0):Du s=some (qA s):=by
 obtain⟨r,l,h1,h2⟩:=tM h;unfold qA;rw[h1];exact h2
def akM{s:ByteArray}(h:Qg s=0):CE s=some (ppV s):=by
 obtain⟨ks,ds,h1,h2,_⟩:=Xy h;unfold ppV;rw[h1];exact h2
abbrev t1:=E8
abbrev t6:=Av
def ank:Kc (qA t1).1/\(qA t1).1.kind=16/\Ez (qA t1).1<=100/\OS (qA t1).1<=30:=by
 obtain⟨r,l,h1,h2⟩:=tM (s:=t1) (by kernel_rfl);rw[acA (by kernel_rfl)] at h2;refine⟨?_,by kernel_rfl,Nat.le_of_ble_eq_true (by kernel_rfl),Nat.le_of_ble_eq_true (by kernel_rfl)⟩;have h2:=Option.some.inj h2;have hd:(qA t1).2.length=0:=by kernel_rfl
 rw[h2] at hd ⊢;cases r with
 | inr d=>cases hd
 | inl n =>
   cases l with
   | cons t l=>cases hd
   | nil =>
     have hv:=(aiL (gA t1) h1).1;unfold ai4 acd at hd ⊢;dsimp only at hd ⊢;by_cases hc:2000 < Ez n\/40 < OS n;rw[if_pos hc] at hd;cases hd;rw[if_neg hc];exact hv
def wF:Ke=some true:=by
 obtain⟨e1,k1,z1,d1⟩:=ank;obtain⟨ok1,ps1⟩:=rR _ e1 (by omega);have v1:okV (qA t1).1:=⟨.inr ⟨by omega,e1⟩,by omega,by omega⟩
 have v6:K3 (ppV t6).1/\okV (ppV t6).1:=by
   have hp:=akM (s:=t6) (by kernel_rfl);have hd:(ppV t6).2.length=0:=by kernel_rfl
   rcases kL (n:=(ppV t6).1) (ds:=(ppV t6).2) hp with ⟨h,_⟩ | ⟨_,ks,_,_,h3,h4,h5,h6⟩
   exact absurd (List.eq_nil_of_length_eq_zero hd) h;rw[h3] at h5 h6 ⊢;have hz:Ez (Ha ks)=1+Hb ks:=rfl;exact⟨(bP h4 (by omega)).1,qH h4 h5 h6⟩
 have GC:Mz (qA t1).1=some (Mc (qA t1).1):=acV (by omega);have hsm:Kn (Mc (qA t1).1) (Mc (qA t1).1)=some true:=acX (by have:=adA (qA t1).1;omega) (am1 _ ps1);have hv6:Es (ppV t6).1=some true:=by rw[gG v6.1,DF.2 v6.2]
 have hv1:Es (Mc (qA t1).1)=some true:=by rw[gG (amW ok1),DF.2 ((akG _).2 v1)]
 have hva:Es ⟨12,dF,ByteArray.empty,0,0,0,0,⟨0,[]⟩,[],0⟩=some false:=by
   rw[gG ((SY rfl rfl).1),pN];rintro⟨⟨h,_⟩ | ⟨_,h⟩,_⟩;exact absurd h (by decide)
   . have:=((Jq _).1 h).1
     unfold Tc at this;rcases this with h | h | h | h | h | h | h | h
     exact absurd h.1 (by decide);exact h.2.1.2.2.1 (by unfold sQ;simp)
     all_goals exact absurd h.1 (by decide)
 have h7:(⟨16,P1,ByteArray.empty,0,0,0,0,⟨0,[]⟩,[⟨16,Kh,ByteArray.empty,0,0,0,0,⟨0,[]⟩,[⟨11,ByteArray.empty,EK,3,0,0,0,⟨0,[]⟩,[],0⟩,⟨12,aS,ByteArray.empty,0,0,0,0,⟨0,[]⟩,[],0⟩],0⟩,⟨15,ByteArray.empty,ByteArray.empty,0,0,0,0,⟨0,[]⟩,[⟨16,GW,ByteArray.empty,0,0,0,0,⟨0,[]⟩,[⟨12,bS,ByteArray.empty,0,0,0,0,⟨0,[]⟩,[],0⟩,⟨12,cS,ByteArray.empty,0,0,0,0,⟨0,[]⟩,[],0⟩],0⟩],0⟩],0⟩:Nd)=Mc (qA t1).1:=by kernel_rfl
 unfold Ke;rw[acA (s:=t1) (by kernel_rfl)];simp only[acA (s:=EI) (by kernel_rfl),acA (s:=M1) (by kernel_rfl),acA (s:=BI) (by kernel_rfl),akM (s:=Ev) (by kernel_rfl),akM (s:=t6) (by kernel_rfl),JT,Lb,Option.bind_some];rw[h7];simp only[GC,hsm,hv6,hv1,hva,Option.bind_some];show(_:Option Bool)=some true
 kernel_rfl
end Mo
end Go.Proofs.YtpbkhogolfegfaaGreatDoor
namespace Go.Proofs.YtpbkhogolfegfaaGreatDoor
open AI Go LexS
namespace Mo
set_option maxRecDepth 100000
set_option maxHeartbeats 4000000
def byt{p:Nat->Bool}(h:(List.range 256).all p=true)(c:UInt8):p c.toNat=true:=List.all_eq_true.1 h _ (List.mem_range.2 c.toNat_lt)
def acx{o:Option Bool}{b:Bool}(h:(match o with | some x=>x == b | none=>false)=true):o=some b:=by
 cases o with
 | none=>cases h
 | some x=>rw[eq_of_beq h]
def agd(c:UInt8):KL ((c.toNat:Nat):Int)=some (cin 1 c):=acx (byt (p:=λn=>match KL ((n:Nat):Int) with | some x=>x == ((Me n &&& 1) != 0) | none=>false) (by kernel_rfl) c)
def fK(c:UInt8):GD ((c.toNat:Nat):Int)=some (cin 8 c):=acx (byt (p:=λn=>match GD ((n:Nat):Int) with | some x=>x == ((Me n &&& 8) != 0) | none=>false) (by kernel_rfl) c)
def agb(c:UInt8):I6 ((c.toNat:Nat):Int)=some (cin 2 c):=acx (byt (p:=λn=>match I6 ((n:Nat):Int) with | some x=>x == ((Me n &&& 2) != 0) | none=>false) (by kernel_rfl) c)
def fL(c:UInt8):GF ((c.toNat:Nat):Int)=some (cin 4 c):=acx (byt (p:=λn=>match GF ((n:Nat):Int) with | some x=>x == ((Me n &&& 4) != 0) | none=>false) (by kernel_rfl) c)
def acH(c:UInt8):Kk ((c.toNat:Nat):Int)=some (cin 30 c):=acx (byt (p:=λn=>match Kk ((n:Nat):Int) with | some x=>x == ((Me n &&& 30) != 0) | none=>false) (by kernel_rfl) c)
def aax(c:UInt8):cin 30 c=(cin 2 c||(cin 4 c||(cin 8 c||cin 16 c))):=by
 have:=byt (p:=λn=>((Me n &&& 30) != 0) == (((Me n &&& 2) != 0)||(((Me n &&& 4) != 0)||(((Me n &&& 8) != 0)||((Me n &&& 16) != 0))))) (by kernel_rfl) c;exact eq_of_beq this
def aaw(c:UInt8):cin 26 c=(cin 30 c&&!cin 4 c):=by
 have:=byt (p:=λn=>((Me n &&& 26) != 0) == (((Me n &&& 30) != 0)&&!((Me n &&& 4) != 0))) (by kernel_rfl) c;exact eq_of_beq this
def ajc(c:UInt8)(h:cin 8 c=true):cin 2 c=false/\cin 4 c=false:=by
 have:=byt (p:=λn=>!((Me n &&& 8) != 0)||(!((Me n &&& 2) != 0)&&!((Me n &&& 4) != 0))) (by kernel_rfl) c;have h':((Me c.toNat &&& 8) != 0)=true:=h;rw[h'] at this;simp only[Bool.not_true,Bool.false_or,Bool.and_eq_true,Bool.not_eq_true'] at this;exact this
def UR(c d:UInt8):CV ((c.toNat:Nat):Int) ((d.toNat:Nat):Int)=(c == d):=by
 rw[Bool.eq_iff_iff,QT,beq_iff_eq,beq_iff_eq];constructor;intro h;exact UInt8.toNat_inj.1 (by omega);intro h;rw[h]
def ajh(c:UInt8):CV ((c.toNat:Nat):Int) 10=(c == 10):=UR c 10
def aaQ(c:UInt8):CV ((c.toNat:Nat):Int) 46=(c == 46):=UR c 46
def aji(c:UInt8):CV ((c.toNat:Nat):Int) 45=(c == 45):=UR c 45
def ajj(c:UInt8):CV ((c.toNat:Nat):Int) 48=(c == 48):=UR c 48
section
variable {s:ByteArray} (hs:s.data.toList.length<=100000)
def P7{α:Type}{l:List α}{i:Nat}:Hc l ((i:Nat):Int)=l[i]?:=by
 unfold Hc;rw[if_pos (by omega)];rfl
def Mj{α:Type}(l:List α)(k:Nat):(l.length<=k/\l.drop k=[])\/∃x,k < l.length/\l[k]?=some x/\l.drop k=x::l.drop (k+1):=by
 rcases Nat.lt_or_ge k l.length with h | h
 exact .inr ⟨l[k],h,List.getElem?_eq_getElem h,List.drop_eq_getElem_cons h⟩;exact .inl ⟨h,List.drop_eq_nil_of_le h⟩
def OK{a b:Nat}(h1:a<=b)(h2:b<=s.data.toList.length):OJ s (a:Int) (b:Int)=some ⟨((s.data.toList.drop a).take (b - a)).toArray⟩:=by
 unfold OJ;rw[if_pos ⟨by omega,by omega,by omega⟩];rfl
def lP{b:Int->Option (Lp Int Int Int)}{m:Nat}(hb:∀(k:Nat) c,s.data.toList[k]?=some c->b (k:Int)=if cin m c then some (.nx ((k+1:Nat):Int)) else some (.ex (k:Int)))(he:∀k:Nat,s.data.toList.length<=k->b (k:Int)=some (.ex (k:Int))) :
   ∀(j k:Nat),s.data.toList.length - k<=j->ET b (j+1) (k:Int)=some (.inl ((k+Be m (s.data.toList.drop k):Nat):Int)):=by
 intro j
 induction j with
 | zero =>
   intro k hk;show(b (k:Int)).bind _=_;rw[he k (by omega),List.drop_eq_nil_of_le (by omega)];rfl
 | succ j ih =>
   intro k hk;show(b (k:Int)).bind _=_;rcases Mj s.data.toList k with ⟨h1,h2⟩ | ⟨c,h1,h2,h3⟩
   rw[he k h1,h2];rfl;rw[hb k c h2,h3,Dw];by_cases hc:cin m c=true;rw[if_pos hc,if_pos hc];show ET b (j+1) ((k+1:Nat):Int)=_;rw[ih (k+1) (by omega)];congr 2;omega;rw[if_neg hc,if_neg hc];rfl
include hs
def aiy{k:Nat}(hk:k<=100000):Ll s (k:Int)=some ((k+Be 30 (s.data.toList.drop k):Nat):Int):=by
 unfold Ll;rw[Fl (lP (s:=s) (m:=30) (b:=λx=>Km s x) (λk c hc=>?_) (λk hk=>?_) _ k (Nat.le_refl _)),Option.bind_some];rfl;have Gm:=(List.getElem?_eq_some_iff.1 hc).1;unfold Km;rw[GQ (by omega),P7,hc];dsimp only[cond,Option.bind];rw[acH,C5 (by omega)];cases cin 30 c<;>rfl
 unfold Km;rw[Hp (by omega)];rfl
def kY{k:Nat}(hk:k<=100000):E9 s (k:Int)=some ((k+Be 8 (s.data.toList.drop k):Nat):Int):=by
 unfold E9;rw[Fl (lP (s:=s) (m:=8) (b:=λx=>Hk s x) (λk c hc=>?_) (λk hk=>?_) _ k (Nat.le_refl _)),Option.bind_some];rfl;have Gm:=(List.getElem?_eq_some_iff.1 hc).1;unfold Hk;rw[GQ (by omega),P7,hc];dsimp only[cond,Option.bind];rw[fK,C5 (by omega)];cases cin 8 c<;>rfl
 unfold Hk;rw[Hp (by omega)];rfl
def kX{k:Nat}{t:ByteArray}(hk:k<=s.data.toList.length)(ht:t.data.toList.length<=100000):Iy s (k:Int) t=some (t.data.toList.isPrefixOf (s.data.toList.drop k)):=by
 unfold Iy;rw[M9,Kp (by omega)];by_cases h:k+t.data.toList.length<=s.data.toList.length;rw[YQ (by omega),C5 (by omega)];dsimp only[cond];rw[show(k:Int)+((t.data.toList.length:Nat):Int)=((k+t.data.toList.length:Nat):Int) by omega,OK (by omega) h,Option.bind_some,show k+t.data.toList.length - k=t.data.toList.length by omega,TO];dsimp only;rw[List.toList_toArray];cases List.take t.data.toList.length (List.drop k s.data.toList) == t.data.toList<;>rfl
 rw[U5 (by omega)];dsimp only[cond];congr 1;symm;apply beq_false_of_ne;intro e;have:=congrArg List.length e;rw[List.length_take,List.length_drop] at this;omega
omit hs in
def qD{k:Nat}(hk:k<=s.data.toList.length):Ed s (k:Int)=some (free (s.data.toList.drop k)):=by
 unfold Ed free;rcases Mj s.data.toList k with ⟨h1,h2⟩ | ⟨c,h1,h2,h3⟩
 rw[YQ (by omega),h2];rfl;rw[U5 (by omega),P7,h2,h3];dsimp only[cond,Option.bind,GO,List.head?_cons];rw[acH,aaQ];dsimp only;have:(some c == some (46:UInt8))=(c == 46):=rfl;rw[this];cases cin 30 c<;>cases c == 46<;>rfl
def Qh(t:List UInt8):Nat:=(t.takeWhile (λc=>c != 10)).length
omit hs in
def VQ(c:UInt8)(t:List UInt8):Qh (c::t)=if c == 10 then 0 else 1+Qh t:=by
 unfold Qh;rw[List.takeWhile_cons,bne];cases c == 10;simp only[Bool.not_false,if_true,List.length_cons,Bool.false_eq_true,if_false];omega;rfl
omit hs in
def vY(t:List UInt8):GH true t=Qh t+GH false (t.drop (Qh t)):=by
 induction t with
 | nil=>rfl
 | cons c t ih =>
   rw[VQ];by_cases hc:c=10;subst hc;exact(jH t).trans (by simp);have:(c == 10)=false:=beq_false_of_ne hc;rw[this,aa4 c t hc,ih,if_neg (by simp),Nat.add_comm 1 (Qh t),List.drop_succ_cons];omega
def akR:∀(j k:Nat),s.data.toList.length - k<=j->k<=s.data.toList.length->ET (λx=>Ew s x) (j+1) (k:Int)=some (.inl ((k+Qh (s.data.toList.drop k):Nat):Int)):=by
 have stop:∀k:Nat,s.data.toList.length<=k->Ew s (k:Int)=some (.ex (k:Int)):=λk h=>by
   unfold Ew;rw[Hp (by omega)];rfl
 intro j
 induction j with
 | zero =>
   intro k hk hl;show(Ew s (k:Int)).bind _=_;rw[stop k (by omega),List.drop_eq_nil_of_le (by omega)];rfl
 | succ j ih =>
   intro k hk hl;show(Ew s (k:Int)).bind _=_;rcases Mj s.data.toList k with ⟨h1,h2⟩ | ⟨c,h1,h2,h3⟩
   . rw[stop k h1,h2];rfl
   have:Ew s (k:Int)=if (c == 10)=true then some (.ex (k:Int)) else some (.nx ((k+1:Nat):Int)):=by
     unfold Ew;rw[GQ (by omega),P7,h2];dsimp only[cond,Option.bind];rw[ajh,C5 (by omega)];cases c == 10<;>rfl
   rw[this,h3,VQ];cases c == 10;show ET (λx=>Ew s x) (j+1) ((k+1:Nat):Int)=_;rw[ih (k+1) (by omega) (by omega)];congr 2;simp only[Bool.false_eq_true,if_false];omega;rfl
omit hs in
def ace(t:List UInt8):Qh t<=t.length:=(List.takeWhile_sublist _).length_le
def xH:∀(j k:Nat),s.data.toList.length - k<=j->k<=s.data.toList.length->∃r,ET (λx=>DA s x) (j+1) (k:Int)=some r/\(r=.inl ((k+GH false (s.data.toList.drop k):Nat):Int)\/r=.inr ((k+GH false (s.data.toList.drop k):Nat):Int)):=by
 have stop:∀k:Nat,s.data.toList.length<=k->DA s (k:Int)=some (.ex (k:Int)):=λk h=>by
   unfold DA;rw[Hp (by omega)];rfl
 intro j
 induction j with
 | zero =>
   intro k hk hl;refine⟨.inl (k:Int),?_,.inl ?_⟩
   . show(DA s (k:Int)).bind _=_
     rw[stop k (by omega)];rfl
   rw[List.drop_eq_nil_of_le (by omega)];rfl
 | succ j ih =>
   intro k hk hl;rcases Mj s.data.toList k with ⟨h1,h2⟩ | ⟨c,h1,h2,h3⟩
   . refine⟨.inl (k:Int),?_,.inl ?_⟩
     . show(DA s (k:Int)).bind _=_
       rw[stop k h1];rfl
     rw[h2];rfl
   have e:DA s (k:Int)=cond (cin 1 c) (some (.nx ((k+1:Nat):Int))) (cond (([47,47]:List UInt8).isPrefixOf (s.data.toList.drop k)) (some (.nx ((k+Qh (s.data.toList.drop k):Nat):Int))) (some (.rt (k:Int)))):=by
     unfold DA;rw[GQ (by omega),P7,h2];dsimp only[cond,Option.bind];rw[agd,C5 (by omega)];dsimp only;rw[kX hs hl (show(qC).data.toList.length<=100000 by decide)];rw[show(qC).data.toList=[47,47] from rfl];dsimp only;rw[Fl (akR hs _ k (Nat.le_refl _) hl)];rfl
   cases hw:cin 1 c with
   | true =>
     obtain⟨r,h4,h5⟩:=ih (k+1) (by omega) (by omega);refine⟨r,?_,?_⟩;show(DA s (k:Int)).bind _=_;rw[e,hw];exact h4
     have:k+GH false (s.data.toList.drop k)=k+1+GH false (s.data.toList.drop (k+1)):=by
       rw[h3];show k+(if false=true then _ else if cin 1 c=true then 1+GH false (s.data.toList.drop (k+1)) else _)=_
       rw[if_neg (by simp),if_pos hw];omega
     rw[this];exact h5
   | false =>
     cases hp:([47,47]:List UInt8).isPrefixOf (s.data.toList.drop k) with
     | false =>
       refine⟨.inr (k:Int),?_,.inr ?_⟩;show(DA s (k:Int)).bind _=_;rw[e,hw,hp];rfl;rw[jI _ (by rw[h3];exact hw) hp];rfl
     | true =>
       have oS:1<=Qh (s.data.toList.drop k):=by
         rw[h3] at hp ⊢;rw[VQ]
         have:c=47:=by
           have:=hp;simp only[List.isPrefixOf,Bool.and_eq_true] at this;exact(eq_of_beq this.1).symm
         rw[this,if_neg (by decide)];omega
       have hl3:=ace (s.data.toList.drop k);rw[List.length_drop] at hl3;obtain⟨r,h4,h5⟩:=ih (k+Qh (s.data.toList.drop k)) (by omega) (by omega);refine⟨r,?_,?_⟩;show(DA s (k:Int)).bind _=_;rw[e,hw,hp];exact h4
       have:k+GH false (s.data.toList.drop k)=k+Qh (s.data.toList.drop k)+GH false (s.data.toList.drop (k+Qh (s.data.toList.drop k))):=by
         rw[Ws _ hp,vY,List.drop_drop];omega
       rw[this];exact h5
def acG{k:Nat}(hk:k<=s.data.toList.length):Kj s (k:Int)=some ((k+DV (s.data.toList.drop k):Nat):Int):=by
 obtain⟨r,h1,h2⟩:=xH hs _ k (Nat.le_refl _) hk;unfold Kj;rw[Fl h1,Option.bind_some];rcases h2 with rfl | rfl<;>rfl
omit hs in
def aje(t:List UInt8):EQ t=(decide (10<=t.length)&&(List.range' 0 10).all (FQ t)):=by
 unfold EQ;rw[List.range_eq_range']
def akQ{k:Nat}(hk:k<=s.data.toList.length):LW s (k:Int)=some (EQ (s.data.toList.drop k)):=by
 rw[aje];unfold LW;rw[Kp (by omega),List.length_drop];by_cases hl:10<=s.data.toList.length - k;rw[Hp (by omega),decide_eq_true hl];dsimp only[cond];rw[Bool.true_and]
 have Gi:∀i:Nat,i < 10->FM s (k:Int) (i:Int)=if FQ (s.data.toList.drop k) i=true then some (.nx ((i+1:Nat):Int)) else some (.rt false):=by
   intro i hi;obtain⟨c,hc⟩:∃c,s.data.toList[k+i]?=some c:=⟨_,List.getElem?_eq_getElem (by omega)⟩;have hH:(s.data.toList.drop k)[i]?=some c:=by rw[List.getElem?_drop];exact hc
   unfold FM;rw[GQ (by omega),C5 (by omega),show(k:Int)+(i:Int)=((k+i:Nat):Int) by omega,P7,hc];dsimp only[cond,Option.bind];rw[aji,fK,C5 (by omega)];have e:(some c == some (45:UInt8))=(c == 45):=rfl
   have alL:i=4\/i=7->FQ (s.data.toList.drop k) i=(c == 45):=λh=>by
     unfold FQ;rw[if_pos h,hH,e]
   by_cases h4:i=4;rw[IX (by omega),alL (Or.inl h4)];cases c == 45<;>rfl
   rw[KE (by omega)];by_cases h7:i=7;rw[IX (by omega),alL (Or.inr h7)];cases c == 45<;>rfl
   rw[KE (by omega)]
   have dg:FQ (s.data.toList.drop k) i=cin 8 c:=by
     unfold FQ;rw[if_neg (by omega)];rw[<- List.head?_drop] at hH;cases hd:(s.data.toList.drop k).drop i with
     | nil=>rw[hd] at hH;cases hH
     | cons a l=>rw[hd] at hH;cases hH;rfl
   rw[dg];cases cin 8 c<;>rfl
 have key:∀d i:Nat,i+d=10->ET (λx=>FM s (k:Int) x) (d+1) (i:Int)=some (if (List.range' i d).all (FQ (s.data.toList.drop k))=true then .inl () else .inr false):=by
   intro d
   induction d with
   | zero =>
     intro i hi;show(FM s (k:Int) (i:Int)).bind _=_;unfold FM;rw[Hp (by omega)];rfl
   | succ d ih =>
     intro i hi;show(FM s (k:Int) (i:Int)).bind _=_;rw[Gi i (by omega),List.range'_succ,List.all_cons];by_cases hd:FQ (s.data.toList.drop k) i=true;rw[if_pos hd,hd,Bool.true_and];exact ih (i+1) (by omega);rw[if_neg hd,Bool.eq_false_iff.2 hd];rfl
 have:=key 10 0 rfl;rw[show((0:Nat):Int)=0 from rfl] at this;rw[Fl this,Option.bind_some];cases (List.range' 0 10).all (FQ (s.data.toList.drop k))<;>rfl
 rw[GQ (by omega),decide_eq_false hl];rfl
end
end Mo
end Go.Proofs.YtpbkhogolfegfaaGreatDoor
namespace Go.Proofs.YtpbkhogolfegfaaGreatDoor
open AI Go LexS
namespace Mo
set_option maxRecDepth 100000
set_option maxHeartbeats 4000000
def xO(t:List UInt8)(h:GO 8 t=false):Be 8 t=0:=by
 cases t with
 | nil=>rfl
 | cons c t=>rw[Dw,if_neg (by have:cin 8 c=false:=h;simp[this])]
def adh(u:List UInt8)(hf:free (u.drop 2)=true)(h1:GO 8 u=true)(h2:GO 8 (u.drop 1)=true):Be 8 u=2:=by
 match u,h1,h2 with
 | [c],_,h2=>simp[GO] at h2
 | c::d::v,h1,h2 =>
   have e1:cin 8 c=true:=h1;have e2:cin 8 d=true:=h2;rw[Dw,if_pos e1,Dw,if_pos e2]
   have e3:Be 8 v=0:=by
     apply xO;cases v with
     | nil=>rfl
     | cons x v =>
       have YA:free (x::v)=true:=hf;unfold free GO at YA;dsimp only at YA;rw[aax] at YA;show cin 8 x=false;cases hx:cin 8 x with
       | false=>rfl
       | true=>rw[hx] at YA;simp at YA
   omega
def adO(u:List UInt8)(h:Be 8 u=2):GO 8 u=true/\GO 8 (u.drop 1)=true:=by
 match u,h with
 | [],h=>simp[S0] at h
 | [c],h =>
   rw[Dw] at h;split at h;rw[S0] at h;omega;omega
 | c::d::v,h =>
   rw[Dw] at h;by_cases hc:cin 8 c=true;rw[if_pos hc,Dw] at h;by_cases hd:cin 8 d=true;exact⟨hc,hd⟩;rw[if_neg hd] at h;omega;rw[if_neg hc] at h;omega
def oB(t:List UInt8)(d e:Nat)(hd:d=Be 8 t)(he:e=Be 8 (t.drop (d+1)))(hn:EQ t=false)(ZW:(t.drop d).head?=some 46) :
   GG t=if ¬(t.head?=some 48/\1 < d)/\d<=10/\e=2/\free (t.drop (d+3))=true then (4,d+3) else (0,0):=by
 unfold GG;simp only[hn,Bool.false_eq_true,if_false,<- hd];by_cases h1:t.head?=some 48/\1 < d;rw[if_pos h1,if_neg (λh=>h.1 h1)];rw[if_neg h1,if_pos ZW];by_cases h2:10 < d\/GO 8 (t.drop (d+1))=false\/GO 8 (t.drop (d+2))=false;rw[if_pos h2,if_neg];rintro⟨_,h3,h4,_⟩;rw[he] at h4;have:=adO _ h4;rw[List.drop_drop] at this;rcases h2 with h | h | h
 omega;rw[h] at this;simp at this;rw[show d+1+1=d+2 from rfl,h] at this;simp at this;rw[if_neg h2]
 have i1:GO 8 (t.drop (d+1))=true:=by
   cases hh:GO 8 (t.drop (d+1)) with
   | true=>rfl
   | false=>exact absurd (.inr (.inl hh)) h2
 have i2:GO 8 (t.drop (d+2))=true:=by
   cases hh:GO 8 (t.drop (d+2)) with
   | true=>rfl
   | false=>exact absurd (.inr (.inr hh)) h2
 by_cases h3:free (t.drop (d+3))=true
 have h5:e=2:=by
   rw[he];refine adh _ ?_ i1 ?_;rw[List.drop_drop];exact h3;rw[List.drop_drop];exact i2
 rw[if_pos h3,if_pos ⟨h1,by omega,h5,h3⟩];rw[if_neg h3,if_neg (λh=>h3 h.2.2.2)]
def oC(t:List UInt8)(d:Nat)(hd:d=Be 8 t)(hn:EQ t=false)(ZW:¬(t.drop d).head?=some 46) :
   GG t=if ¬(t.head?=some 48/\1 < d)/\d<=12/\free (t.drop d)=true then (3,d) else (0,0):=by
 unfold GG;simp only[hn,Bool.false_eq_true,if_false,<- hd];by_cases h1:t.head?=some 48/\1 < d;rw[if_pos h1,if_neg (λh=>h.1 h1)];rw[if_neg h1,if_neg ZW];by_cases h2:12 < d;rw[if_pos h2,if_neg (λh=>by omega)];rw[if_neg h2];by_cases h3:free (t.drop d)=true;rw[if_pos h3,if_pos ⟨h1,by omega,h3⟩];rw[if_neg h3,if_neg (λh=>h3 h.2.2)]
def L6(r:Nat×Nat)(t:List UInt8)(k:Nat)(x:Tk×Bool):Prop:=(x.2=true->r.1≠0/\x.1=Hq (r.1,t.take r.2,k))/\(x.2=false->r.1=0)
def L6.no{t:List UInt8}{k:Nat}{x:Tk}:L6 (0,0) t k (x,false):=⟨λh=>(by cases h),λ_=>rfl⟩
def L6.yes{q n:Nat}(hq:q≠0){t:List UInt8}{k:Nat}:L6 (q,n) t k (Hq (q,t.take n,k),true):=⟨λ_=>⟨hq,rfl⟩,λh=>(by cases h)⟩
def L6.if{p:Prop}[Decidable p]{b:Bool}(hp:p↔b=true){q n:Nat}(hq:q≠0){t:List UInt8}{k:Nat}:L6 (if p then (q,n) else (0,0)) t k (Hq (q,t.take n,k),b):=by
 cases b;rw[if_neg (λh=>by cases hp.1 h)];exact L6.no;rw[if_pos (hp.2 rfl)];exact L6.yes hq
section
variable {s:ByteArray} (hs:s.data.toList.length<=100000)
include hs
def acq{k d e:Nat}(hk:k+d<=s.data.toList.length)(he:e=Be 8 ((s.data.toList.drop k).drop (d+1)))(A:Int->ByteArray->Option (Tk×Bool))(B:ByteArray->Option (Tk×Bool)) :
   cond (DS ((k+d:Nat):Int) ((s.data.toList.length:Nat):Int)) ((Hc s.data.toList ((k+d:Nat):Int)).bind λc=>cond (CV ((c.toNat:Nat):Int) 46) ((E9 s (BC ((k+d:Nat):Int) 1)).bind λy6=>(OJ s (k:Int) y6).bind λs7=>A y6 s7) ((OJ s (k:Int) ((k+d:Nat):Int)).bind λs9=>B s9)) ((OJ s (k:Int) ((k+d:Nat):Int)).bind λs11=>B s11)
     = if ((s.data.toList.drop k).drop d).head?=some 46 then A ((k+(d+1+e):Nat):Int) ⟨((s.data.toList.drop k).take (d+1+e)).toArray⟩ else B ⟨((s.data.toList.drop k).take d).toArray⟩:=by
 rw[OK (by omega) hk,show k+d - k=d by omega];rcases Mj s.data.toList (k+d) with ⟨h1,h2⟩ | ⟨c,h1,h2,h3⟩
 rw[Hp (by omega),List.drop_drop,h2,if_neg (by simp)];rfl;rw[GQ (by omega),P7,h2,List.drop_drop,h3,List.head?_cons];dsimp only[cond,Option.bind];rw[aaQ];by_cases hc:c=46;subst hc;rw[if_pos rfl,C5 (by omega),show((k+d:Nat):Int)+1=((k+d+1:Nat):Int) by omega,kY hs (by omega)];have e1:k+d+1+Be 8 (s.data.toList.drop (k+d+1))=k+(d+1+e):=by rw[he,List.drop_drop,Nat.add_assoc k d 1];omega
 rw[e1];have e2:=L1 8 ((s.data.toList.drop k).drop (d+1));rw[<- he,List.drop_drop,List.length_drop] at e2;dsimp only;rw[OK (by omega) (by omega),show k+(d+1+e) - k=d+1+e by omega];rfl;rw[if_neg (by simpa using hc)]
 have:(c == 46)=false:=beq_false_of_ne hc;rw[this]
def xG{k:Nat}(hk:k < s.data.toList.length)(h8:GO 8 (s.data.toList.drop k)=true):∃x,I2 s (k:Int)=some x/\L6 (GG (s.data.toList.drop k)) (s.data.toList.drop k) k x:=by
 unfold I2;rw[akQ hs (by omega),Option.bind_some];generalize ht:s.data.toList.drop k=t at *;have Gm:t.length=s.data.toList.length - k:=by rw[<- ht,List.length_drop]
 cases hd:EQ t with
 | true =>
   have afr:10<=t.length:=by
     unfold EQ at hd;rw[Bool.and_eq_true] at hd;exact of_decide_eq_true hd.1
   dsimp only[cond];rw[C5 (by omega),show(k:Int)+10=((k+10:Nat):Int) by omega,OK (by omega) (by omega),Option.bind_some,qD (by omega),Option.bind_some,show k+10 - k=10 by omega,ht];refine⟨_,rfl,?_⟩;unfold GG;rw[if_pos hd,<- List.drop_drop,ht];exact L6.if Iff.rfl (by decide)
 | false =>
   rw[cond_false,kY hs (by omega),Option.bind_some,ht];generalize hde:Be 8 t=d at *;have ZV:1<=d:=by rw[<- hde];exact Sn 8 t h8
   have hdl:d<=t.length:=by rw[<- hde];exact L1 8 t
   obtain⟨e,he⟩:∃e,e=Be 8 ((s.data.toList.drop k).drop (d+1)):=⟨_,rfl⟩;have tail:=acq hs (k:=k) (d:=d) (e:=e) (by omega) he;rw[ht] at tail he;have hel:=L1 8 (t.drop (d+1));rw[<- he,List.length_drop] at hel;rw[C5 (a:=(k:Int)) (by omega)];obtain⟨c,hc⟩:∃c,s.data.toList[k]?=some c:=⟨_,List.getElem?_eq_getElem hk⟩;have hh:t.head?=some c:=by rw[<- ht,List.head?_drop];exact hc
   have alT:¬(t.head?=some 48/\1 < d)->∃x,(if (t.drop d).head?=some 46 then
       (cond (Oe (L3 ((k+d:Nat):Int) (k:Int)) 10) (cond (CV ((k+(d+1+e):Nat):Int) (BC ((k+d:Nat):Int) 3)) ((Ed s ((k+(d+1+e):Nat):Int)).bind λy8=>some ((⟨4,⟨(t.take (d+1+e)).toArray⟩,(k:Int)⟩:Tk),y8)) (some ((⟨4,⟨(t.take (d+1+e)).toArray⟩,(k:Int)⟩:Tk),false))) (some ((⟨4,⟨(t.take (d+1+e)).toArray⟩,(k:Int)⟩:Tk),false)))
       else (cond (Oe (L3 ((k+d:Nat):Int) (k:Int)) 12) ((Ed s ((k+d:Nat):Int)).bind λyS=>some ((⟨3,⟨(t.take d).toArray⟩,(k:Int)⟩:Tk),yS)) (some ((⟨3,⟨(t.take d).toArray⟩,(k:Int)⟩:Tk),false))))=some x/\L6 (GG t) t k x:=by
     intro h0;rw[Kp (by omega),show((k+d:Nat):Int) - (k:Int)=(d:Int) by omega];by_cases ZW:(t.drop d).head?=some 46;rw[if_pos ZW,oB t d e hde.symm he hd ZW]
     have arm:d < t.length:=by
       rcases Nat.lt_or_ge d t.length with h | h
       exact h;rw[List.drop_eq_nil_of_le h] at ZW;cases ZW
     by_cases h1:d<=10;rw[YQ (by omega),C5 (by omega)];dsimp only[cond];by_cases h2:e=2;subst h2;rw[IX (by omega)];dsimp only;rw[qD (by omega),Option.bind_some,<- List.drop_drop,ht];refine⟨_,rfl,?_⟩;exact L6.if (n:=d+3) ⟨λh=>h.2.2.2,λh=>⟨h0,h1,rfl,h⟩⟩ (by decide)
     rw[KE (by omega),if_neg (λh=>h2 h.2.2.1)];exact⟨_,rfl,L6.no⟩;rw[U5 (by omega),if_neg (λh=>h1 h.2.1)];exact⟨_,rfl,L6.no⟩;rw[if_neg ZW,oC t d hde.symm hd ZW];by_cases h1:d<=12;rw[YQ (by omega)];dsimp only[cond];rw[qD (by omega),Option.bind_some,<- List.drop_drop,ht];refine⟨_,rfl,?_⟩;exact L6.if ⟨λh=>h.2.2,λh=>⟨h0,h1,h⟩⟩ (by decide)
     rw[U5 (by omega),if_neg (λh=>h1 h.2.1)];exact⟨_,rfl,L6.no⟩
   by_cases h1:d=1;rw[IX (by omega),cond_true,tail];exact alT (λh=>by omega);rw[KE (by omega),cond_false,P7,hc,Option.bind_some,ajj];by_cases h2:c=48;have e2:(c == 48)=true:=by rw[h2];rfl
   rw[e2,cond_true,tail (λ_ s16=>some ((⟨4,s16,(k:Int)⟩:Tk),false)) (λs17=>some ((⟨3,s17,(k:Int)⟩:Tk),false))];have h3:t.head?=some 48/\1 < d:=⟨by rw[hh,h2],by omega⟩
   have hf:GG t=(0,0):=by
     unfold GG;simp only[hd,Bool.false_eq_true,if_false];rw[hde,if_pos h3]
   rw[hf];split<;>exact⟨_,rfl,L6.no⟩
   have e2:(c == 48)=false:=beq_false_of_ne h2;rw[e2,cond_false,tail];exact alT (λh=>by rw[hh] at h;exact h2 (Option.some.inj h.1))
omit hs in
def kM{p:UInt8->Bool}{v:Tk×Bool}{B:Nat}{b:Int->Option (Lp Int Unit (Tk×Bool))}(hB:B<=s.data.toList.length)(hb:∀(i:Nat) c,i < B->s.data.toList[i]?=some c->b (i:Int)=if p c then some (.nx ((i+1:Nat):Int)) else some (.rt v))(he:b (B:Int)=some (.ex ())) :
   ∀(n i:Nat),i+n=B->ET b (n+1) (i:Int)=some (if ((s.data.toList.drop i).take n).all p then .inl () else .inr v):=by
 intro n
 induction n with
 | zero =>
   intro i hi;rw[show i=B by omega];show(b (B:Int)).bind _=_;rw[he];rfl
 | succ n ih =>
   intro i hi;obtain⟨c,hc⟩:∃c,s.data.toList[i]?=some c:=⟨_,List.getElem?_eq_getElem (by omega)⟩;show(b (i:Int)).bind _=_;rw[hb i c (by omega) hc];rcases Mj s.data.toList i with ⟨h1,h2⟩ | ⟨c',h1,h2,h3⟩
   omega;rw[hc] at h2;cases h2;rw[h3,List.take_succ_cons,List.all_cons];cases hp:p c;rfl;rw[Bool.true_and];exact ih (i+1) (by omega)
omit hs in
def lM{m:Nat}(hm:∀c,cin m c=true->cin 30 c=true)(t:List UInt8):(Be m t=Be 30 t)↔(t.take (Be 30 t)).all (cin m)=true:=by
 induction t with
 | nil=>simp[S0]
 | cons c t ih =>
   rw[Dw,Dw];by_cases hc:cin 30 c=true;rw[if_pos hc,Nat.add_comm 1 (Be 30 t),List.take_succ_cons,List.all_cons];by_cases hcm:cin m c=true;rw[if_pos hcm,hcm,Bool.true_and,<- ih];omega;rw[if_neg hcm,Bool.eq_false_iff.2 hcm,Bool.false_and];simp;rw[if_neg hc,if_neg (λh=>hc (hm c h))];simp
omit hs in
def ai2(t:List UInt8)(h:∀c∈t,cin 30 c=true):t.all (cin 26)=t.all (λc=>!cin 4 c):=by
 induction t with
 | nil=>rfl
 | cons c t ih=>rw[List.all_cons,List.all_cons,aaw,h c (by simp),ih (λx hx=>h x (by simp[hx]))];rfl
omit hs in
def yD(m:Nat)(t:List UInt8):∀c∈t.take (Be m t),cin m c=true:=by
 induction t with
 | nil=>intro c hc;simp at hc
 | cons x t ih =>
   intro c hc;rw[Dw] at hc;by_cases hx:cin m x=true;rw[if_pos hx,Nat.add_comm,List.take_succ_cons] at hc;rcases List.mem_cons.1 hc with rfl | hc
   exact hx;exact ih c hc;rw[if_neg hx] at hc;simp at hc
def akS{k:Nat}(hk:k < s.data.toList.length)(h2:GO 2 (s.data.toList.drop k)=true):∃x,LX s (k:Int)=some x/\L6 (A2 (s.data.toList.drop k)) (s.data.toList.drop k) k x:=by
 unfold LX A2;rw[if_pos h2,aiy hs (by omega),Option.bind_some];generalize hw:Be 30 (s.data.toList.drop k)=w at *;have hwl:w<=s.data.toList.length - k:=by rw[<- hw,<- List.length_drop];exact L1 30 _
 rw[Fl (kM (s:=s) (p:=λc=>!cin 4 c) (v:=((⟨0,ByteArray.empty,0⟩:Tk),false)) (B:=k+w) (b:=λx=>I7 s ((k+w:Nat):Int) x) (by omega) (λi c hi hc=>?_) ?_ w k rfl),Option.bind_some]
 have H6:(Be 26 (s.data.toList.drop k)=w)↔((s.data.toList.drop k).take w).all (λc=>!cin 4 c)=true:=by
   rw[<- ai2 _ (λc hc=>by rw[<- hw] at hc;exact yD 30 _ c hc),<- hw];exact lM (m:=26) (λc hc=>by rw[aaw,Bool.and_eq_true] at hc;exact hc.1) _
 cases ha:((s.data.toList.drop k).take w).all (λc=>!cin 4 c) with
 | false =>
   rw[ha] at H6;rw[if_neg (show ¬(false=true) by simp),if_neg (show ¬(w<=16/\Be 26 (s.data.toList.drop k)=w) from λh=>by cases H6.1 h.2)];exact⟨_,rfl,L6.no⟩
 | true =>
   rw[ha] at H6;rw[if_pos rfl];dsimp only[MN];rw[OK (by omega) (by omega),Option.bind_some,Kp (by omega),show((k+w:Nat):Int) - (k:Int)=(w:Int) by omega,show k+w - k=w by omega];by_cases h16:w<=16;rw[YQ (by omega),if_pos ⟨h16,H6.2 rfl⟩];exact⟨_,rfl,L6.yes (by decide)⟩;rw[U5 (by omega),if_neg (λh=>h16 h.1)];exact⟨_,rfl,L6.no⟩
 unfold I7;rw[Hp (by omega)];rfl;unfold I7;rw[GQ (by omega),P7,hc];dsimp only[cond,Option.bind];rw[fL,C5 (by omega)];cases cin 4 c<;>rfl
def am2{k:Nat}(hk:k < s.data.toList.length)(h2:GO 2 (s.data.toList.drop k)=false)(h4:GO 4 (s.data.toList.drop k)=true):∃x,M3 s (k:Int)=some x/\L6 (A2 (s.data.toList.drop k)) (s.data.toList.drop k) k x:=by
 unfold M3 A2;rw[if_neg (by rw[h2];simp),if_pos h4,aiy hs (by omega),Option.bind_some];generalize hw:Be 30 (s.data.toList.drop k)=w at *;have hwl:w<=s.data.toList.length - k:=by rw[<- hw,<- List.length_drop];exact L1 30 _
 rw[Fl (kM (s:=s) (p:=λc=>cin 4 c) (v:=((⟨0,ByteArray.empty,0⟩:Tk),false)) (B:=k+w) (b:=λx=>Kl s ((k+w:Nat):Int) x) (by omega) (λi c hi hc=>?_) ?_ w k rfl),Option.bind_some]
 have H6:(Be 4 (s.data.toList.drop k)=w)↔((s.data.toList.drop k).take w).all (λc=>cin 4 c)=true:=by
   rw[<- hw];exact lM (m:=4) (λc hc=>by rw[aax,hc];simp) _
 cases ha:((s.data.toList.drop k).take w).all (λc=>cin 4 c) with
 | false =>
   rw[ha] at H6;rw[if_neg (show ¬(false=true) by simp),if_neg (show ¬(w=3/\Be 4 (s.data.toList.drop k)=w) from λh=>by cases H6.1 h.2)];exact⟨_,rfl,L6.no⟩
 | true =>
   rw[ha] at H6;rw[if_pos rfl];dsimp only[MN];rw[OK (by omega) (by omega),Option.bind_some,Kp (by omega),show((k+w:Nat):Int) - (k:Int)=(w:Int) by omega,show k+w - k=w by omega];by_cases h3:w=3;rw[IX (by omega),if_pos ⟨h3,H6.2 rfl⟩];exact⟨_,rfl,L6.yes (by decide)⟩;rw[KE (by omega),if_neg (λh=>h3 h.1)];exact⟨_,rfl,L6.no⟩
 unfold Kl;rw[Hp (by omega)];rfl;unfold Kl;rw[GQ (by omega),P7,hc];dsimp only[cond,Option.bind];rw[fL,C5 (by omega)];cases cin 4 c<;>rfl
omit hs in
def acD{y t:List UInt8}(h:y.isPrefixOf t=true):t.take y.length=y:=by
 rw[M9] at h;exact eq_of_beq h
def akT{k:Nat}(hk:k<=s.data.toList.length):∀(ys:List ByteArray) (i:Nat),(∀y∈ys,y.data.toList.length<=100000)->∃r,C8 (λi y x=>J0 s (k:Int) i y) (λx=>()) ys i ()=some r /\
   ((r=.inl ()/\(Lw (s.data.toList.drop k) (ys.map λy=>y.data.toList)).1=0)\/∃x,r=.inr x/\L6 (Lw (s.data.toList.drop k) (ys.map λy=>y.data.toList)) (s.data.toList.drop k) k x):=by
 intro ys
 induction ys with
 | nil=>intro i _;exact⟨.inl (),rfl,.inl ⟨rfl,rfl⟩⟩
 | cons y ys ih =>
   intro i hy;rw[C8,List.map_cons];unfold J0 Lw;rw[kX hs hk (hy y (by simp)),Option.bind_some];cases hp:y.data.toList.isPrefixOf (s.data.toList.drop k) with
   | true =>
     refine⟨_,rfl,.inr ⟨_,rfl,?_⟩⟩;rw[if_pos rfl];have:=L6.yes (q:=6) (n:=y.data.toList.length) (by decide) (t:=s.data.toList.drop k) (k:=k);rw[acD hp] at this;exact this
   | false =>
     rw[if_neg (by simp)];exact ih (i+1) (λz hz=>hy z (by simp[hz]))
def agc{k:Nat}(hk:k < s.data.toList.length):∃x,KM s (k:Int)=some x/\L6 (A2 (s.data.toList.drop k)) (s.data.toList.drop k) k x:=by
 obtain⟨c,hc⟩:∃c,s.data.toList[k]?=some c:=⟨_,List.getElem?_eq_getElem hk⟩
 have hB:∀m,GO m (s.data.toList.drop k)=cin m c:=by
   intro m;rcases Mj s.data.toList k with ⟨h1,h2⟩ | ⟨c',h1,h2,h3⟩
   omega;rw[hc] at h2;cases h2;rw[h3];rfl
 unfold KM;rw[P7,hc,Option.bind_some,fK,Option.bind_some];cases h8:cin 8 c with
 | true =>
   obtain⟨x,h1,h2⟩:=xG hs hk (by rw[hB];exact h8);obtain⟨e2,e4⟩:=ajc c h8
   have:A2 (s.data.toList.drop k)=GG (s.data.toList.drop k):=by
     unfold A2;rw[hB,hB,hB,e2,e4,h8];rfl
   dsimp only[cond];rw[h1,this];exact⟨x,rfl,h2⟩
 | false =>
   dsimp only[cond];rw[agb,Option.bind_some];cases h2:cin 2 c with
   | true =>
     obtain⟨x,e1,e2⟩:=akS hs hk (by rw[hB];exact h2);dsimp only;rw[e1];exact⟨x,rfl,e2⟩
   | false =>
     dsimp only;rw[fL,Option.bind_some];cases h4:cin 4 c with
     | true =>
       obtain⟨x,e1,e2⟩:=am2 hs hk (by rw[hB];exact h2) (by rw[hB];exact h4);dsimp only;rw[e1];exact⟨x,rfl,e2⟩
     | false =>
       have:A2 (s.data.toList.drop k)=Lw (s.data.toList.drop k) Gj:=by
         unfold A2;rw[hB,hB,hB,h2,h4,h8];rfl
       obtain⟨r,e1,e2⟩:=akT hs (k:=k) (by omega) [GW,Ib,Hg,FX,Kh,JK,OA,Lu,PQ,EH,Ub,VX,fJ,Z5,Vd,RY,Uc] 0 (by decide);have e3:(([GW,Ib,Hg,FX,Kh,JK,OA,Lu,PQ,EH,Ub,VX,fJ,Z5,Vd,RY,Uc]:List ByteArray).map λy=>y.data.toList)=Gj:=rfl;rw[e3] at e2;rw[this];dsimp only;unfold KU;rw[Option.bind_some,List.drop_zero,Sv (by decide),e1,Option.bind_some];rcases e2 with ⟨rfl,e2⟩ | ⟨x,rfl,e2⟩
       exact⟨_,rfl,⟨λh=>(by cases h),λ_=>e2⟩⟩;exact⟨x,rfl,e2⟩
end
def acy(s:List UInt8)(k:Nat)(pre:List Tok)(h:k < s.length)(hp:pre.length=2000):Er pre (EP s k)=([],2,k):=by
 by_cases hz:(A2 (s.drop k)).1=0;rw[J9 s k h hz,Er,if_pos hp];rw[HY s k h hz,Er,if_pos hp]
def af2(s:List UInt8)(k:Nat)(pre:List Tok)(h:k < s.length)(hp:¬pre.length=2000)(hz:(A2 (s.drop k)).1=0):Er pre (EP s k)=([],61,k):=by
 rw[J9 s k h hz,Er,if_neg hp,if_pos rfl]
def af4(s:List UInt8)(k:Nat)(pre:List Tok)(h:k < s.length)(hp:¬pre.length=2000)(hz:(A2 (s.drop k)).1≠0):Er pre (EP s k)=Er (pre++[((A2 (s.drop k)).1,(s.drop k).take (A2 (s.drop k)).2,k)]) (EP s (k+(A2 (s.drop k)).2+DV (s.drop (k+(A2 (s.drop k)).2)))):=by
 rw[HY s k h hz,Er,if_neg hp,if_neg hz]
def af3(s:List UInt8)(k:Nat)(pre:List Tok)(h:s.length<=k):Er pre (EP s k)=(pre,0,0):=by
 rw[J8 s k h,Er]
def amP(x:List Tok×Nat×Nat):List Tk×Int×Int:=(x.1.map Hq,(x.2.1:Int),(x.2.2:Int))
def acF{s:ByteArray}(hs:s.data.toList.length<=6000):∀(j k:Nat) (pre:List Tok),s.data.toList.length - k<=j->k<=s.data.toList.length->pre.length<=2000->∃r:List Tk⊕(List Tk×Int×Int),ET (λx:List Tk×Int=>CT s x.1 x.2) (j+1) (pre.map Hq,(k:Int))=some r /\
   MN (λ(o:List Tk)=>some (o,(0:Int),(0:Int))) (λv=>some v) r=some (amP (Er pre (EP s.data.toList k))):=by
 have fin:∀(j k:Nat) (pre:List Tok),s.data.toList.length<=k->∃r:List Tk⊕(List Tk×Int×Int),ET (λx:List Tk×Int=>CT s x.1 x.2) (j+1) (pre.map Hq,(k:Int))=some r /\
   MN (λ(o:List Tk)=>some (o,(0:Int),(0:Int))) (λv=>some v) r=some (amP (Er pre (EP s.data.toList k))):=by
   intro j k pre h;refine⟨.inl (pre.map Hq),?_,?_⟩;show(CT s (pre.map Hq) (k:Int)).bind _=_;unfold CT;rw[Hp (by omega)];rfl;rw[af3 _ _ _ h];rfl
 intro j
 induction j with
 | zero=>intro k pre hk hl hp;exact fin 0 k pre (by omega)
 | succ j ih =>
   intro k pre hk hl hp;rcases Nat.lt_or_ge k s.data.toList.length with h | h
   rotate_left;exact fin _ k pre h
   have go:∀{y:Lp (List Tk×Int) (List Tk) (List Tk×Int×Int)},CT s (pre.map Hq) (k:Int)=some y->ET (λx:List Tk×Int=>CT s x.1 x.2) (j+1+1) (pre.map Hq,(k:Int))=RA (ET (λx:List Tk×Int=>CT s x.1 x.2) (j+1)) y:=by
     intro y hy;show(CT s (pre.map Hq) (k:Int)).bind _=_;rw[hy];rfl
   by_cases hf:pre.length=2000
   have:CT s (pre.map Hq) (k:Int)=some (.rt ([],2,(k:Int))):=by
     unfold CT;rw[GQ (by omega),List.length_map,IX (by omega)];rfl
   refine⟨.inr ([],2,(k:Int)),(go this).trans rfl,?_⟩;rw[acy _ _ _ h hf];rfl;obtain⟨x,h1,h2,h3⟩:=agc (s:=s) (by omega) h;cases hx:x.2 with
   | false =>
     have:CT s (pre.map Hq) (k:Int)=some (.rt ([],61,(k:Int))):=by
       unfold CT;rw[GQ (by omega),List.length_map,KE (by omega),h1];dsimp only[cond,Option.bind];rw[hx]
     refine⟨.inr ([],61,(k:Int)),(go this).trans rfl,?_⟩;rw[af2 _ _ _ h hf (h3 hx)];rfl
   | true =>
     obtain⟨h4,h5⟩:=h2 hx;have hrp:=LV _ h4;have hle:(s.data.toList.drop k).length=s.data.toList.length - k:=List.length_drop ..;generalize hn:(A2 (s.data.toList.drop k)).2=n at *;have hsk:=XD (s.data.toList.drop (k+n));rw[List.length_drop] at hsk
     have htl:x.1.text.data.toList.length=n:=by
       rw[h5];show((s.data.toList.drop k).take n).length=n;rw[List.length_take];omega
     have:CT s (pre.map Hq) (k:Int)=some (.nx ((pre++[((A2 (s.data.toList.drop k)).1,(s.data.toList.drop k).take n,k)]).map Hq,((k+n+DV (s.data.toList.drop (k+n)):Nat):Int))):=by
       unfold CT;rw[GQ (by omega),List.length_map,KE (by omega),h1];dsimp only[cond,Option.bind];rw[hx];dsimp only;rw[htl,C5 (by omega),show(k:Int)+(n:Int)=((k+n:Nat):Int) by omega,Gu (by omega),acG (by omega) (by omega)];dsimp only;rw[h5,List.map_append];rfl
     obtain⟨r,e1,e2⟩:=ih (k+n+DV (s.data.toList.drop (k+n))) (pre++[((A2 (s.data.toList.drop k)).1,(s.data.toList.drop k).take n,k)]) (by omega) (by omega) (by simp only[List.length_append,List.length_singleton];omega);refine⟨r,(go this).trans e1,?_⟩;rw[e2,af4 _ _ _ h hf h4,hn]
def akW(s:ByteArray):Lk s=IL s:=by
 unfold Lk IL Jh;by_cases h:6000 < s.data.toList.length;rw[GQ (by omega),if_pos h];rfl;rw[Hp (by omega),if_neg h];dsimp only[cond];have h0:=acG (s:=s) (k:=0) (by omega) (Nat.zero_le _);rw[show((0:Nat):Int)=0 from rfl,List.drop_zero,Nat.zero_add] at h0;have:=XD s.data.toList;obtain⟨r,e1,e2⟩:=acF (s:=s) (by omega) s.data.toList.length (DV s.data.toList) [] (by omega) (by omega) (by simp);rw[List.map_nil] at e1;rw[h0,Option.bind_some,I9,Fl e1,Option.bind_some];exact e2
def agm(s:ByteArray):Lk s=some (Bu s,(Qg s:Int),(amO s:Int)):=akW s
end Mo
end Go.Proofs.YtpbkhogolfegfaaGreatDoor
namespace Go.Proofs.YtpbkhogolfegfaaGreatDoor
open AI Go LexS
namespace Mo
set_option maxRecDepth 100000
set_option maxHeartbeats 4000000
section
variable {S:Int->Int->Prop} {en en':Int}
def ae7{l l':List Tk}(h:F2 S l l'):F2 S (OG l) (OG l'):=by
 induction h with
 | nil=>exact .nil
 | cons ht f ih =>
   rename_i t t' l l';unfold OG;have:Oa t=Oa t':=by unfold Oa;rw[ht.2.1]
   rw[<- this];cases Oa t;exact ih;exact .cons ht f
def ag9:∀(q q':Nat) {l l':List Tk} {ks ks':List Nd} {ds ds':List Dg} {r r':List Nd×List Dg},F2 S l l'->mZ S ks ks'->ds.map Dg.err=ds'.map Dg.err->JL en q l ks ds=some r->JL en' q' l' ks' ds'=some r'->mZ S r.1 r'.1/\r.2.map Dg.err=r'.2.map Dg.err:=by
 intro q
 induction q with
 | zero=>intro q' l l' ks ks' ds ds' r r' _ _ _ h;cases h
 | succ q ih =>
   intro q' l l' ks ks' ds ds' r r' f hk hd h h';cases q' with
   | zero=>cases h'
   | succ q' =>
     cases f with
     | nil=>cases h;cases h';exact⟨hk,hd⟩
     | cons ht f =>
       rename_i t t' l l';unfold JL at h h';have hl:ds.length=ds'.length:=by have:=congrArg List.length hd;simpa using this
       rw[<- hl] at h';cases hc:DS ((ds.length:Nat):Int) 20 with
       | false=>rw[hc] at h h';cases h;cases h';exact⟨hk,hd⟩
       | true =>
         rw[hc] at h h';dsimp only[cond] at h h';split at h;cases h;rename_i n s hi;split at h';cases h';rename_i n' s' NC;rcases Ve (S:=S) (en:=en) (en':=en') (w:=[]) (b:=true) (.cons ht f) hi (by rw[List.append_nil];exact NC) with ⟨s1,rfl,f1,q⟩ | ⟨hw,_⟩
         cases q with
         | l q=>exact ih q' (by rw[List.append_nil];exact f1) (U7 hk (.cons q .nil)) hd h h'
         exact absurd rfl hw;rename_i d' s' NC;rcases Ve (S:=S) (en:=en) (en':=en') (w:=[]) (b:=true) (.cons ht f) hi (by rw[List.append_nil];exact NC) with ⟨s1,rfl,f1,q⟩ | ⟨hw,_⟩
         cases q;exact absurd rfl hw;rename_i d s hi;split at h';cases h';rename_i n' s' NC;rcases Ve (S:=S) (en:=en) (en':=en') (w:=[]) (b:=true) (.cons ht f) hi (by rw[List.append_nil];exact NC) with ⟨s1,rfl,f1,q⟩ | ⟨hw,_⟩
         cases q;exact absurd rfl hw;rename_i d' s' NC;rcases Ve (S:=S) (en:=en) (en':=en') (w:=[]) (b:=true) (.cons ht f) hi (by rw[List.append_nil];exact NC) with ⟨s1,rfl,f1,q⟩ | ⟨hw,_⟩
         cases q with
         | r q =>
           refine ih q' (by rw[List.append_nil];exact ae7 f1) hk ?_ h h';rw[List.map_append,List.map_append,hd];simp only[List.map_cons,List.map_nil,q.1]
         exact absurd rfl hw
end
def p6{s:ByteArray}(h:Qg s=0):∃ks ds,JL ((s.data.toList.length:Nat):Int) ((Bu s).length+1) (Bu s) [] []=some (ks,ds)/\CE s=some (nQ ks ds)/\Hb ks<=2000/\ds.length<=20/\K3 (Ha ks)/\Z4 (Ha ks):=by
 obtain⟨ks,ds,h1,h2,h3,h4⟩:=Xy h;have hv:=adH _ _ _ _ _ (gA s) (by have:=(Ln s).2;omega) (λk hk=>by cases hk) h1;dsimp only at hv;have:=bP hv (by omega);exact⟨ks,ds,h1,h2,h3,h4,this.1,this.2⟩
def wR{s:ByteArray}(h:Qg s=0):∀x∈(Jh s.data.toList).1,alv x/\1<=x.2.1.length/\x.2.1.length<=6000:=by
 obtain⟨h1,h2,h3,_⟩:=Xt s.data.toList h;intro x hx;rw[<- h2] at hx;have ht:=rB _ h3.2 x hx;rw[I9] at hx;have hb:=NU _ _ _ rfl x hx;exact⟨ht,(hb.2.2.2.2 ht.1).1,by omega⟩
end Mo
end Go.Proofs.YtpbkhogolfegfaaGreatDoor
namespace Go.Proofs.YtpbkhogolfegfaaGreatDoor
open AI Go LexS
namespace Mo
set_option maxRecDepth 100000
set_option maxHeartbeats 4000000
section
variable {en en':Int}
def lW:∀(q q':Nat) (l:List Tk) (ks:List Nd) (ds:List Dg) (r:List Nd×List Dg),q<=q'->JL en q l ks ds=some r->JL en q' l ks ds=some r:=by
 intro q
 induction q with
 | zero=>intro q' l ks ds r _ h;cases h
 | succ q ih =>
   intro q' l ks ds r hq h;obtain⟨q',rfl⟩:∃p,q'=p+1:=⟨q' - 1,by omega⟩;cases l with
   | nil=>exact h
   | cons t l =>
     unfold JL at h ⊢;cases hc:DS ((ds.length:Nat):Int) 20 with
     | false=>rw[hc] at h;exact h
     | true =>
       rw[hc] at h;dsimp only[cond] at h ⊢;split at h;cases h;rename_i n s hi;exact ih q' _ _ _ _ (by omega) h;rename_i d s hi;exact ih q' _ _ _ _ (by omega) h
def lX{q q':Nat}{l:List Tk}{ks:List Nd}{ds:List Dg}{r r':List Nd×List Dg}(h:JL en q l ks ds=some r)(h':JL en q' l ks ds=some r'):r=r':=by
 have h1:=lW q (max q q') l ks ds r (Nat.le_max_left ..) h;have h2:=lW q' (max q q') l ks ds r' (Nat.le_max_right ..) h';exact Option.some.inj (h1.symm.trans h2)
def adF:∀(q:Nat) (l:List Tk) (ks:List Nd) (ds:List Dg) (r:List Nd×List Dg),JL en q l ks ds=some r->ds.length<=r.2.length:=by
 intro q
 induction q with
 | zero=>intro l ks ds r h;cases h
 | succ q ih =>
   intro l ks ds r h;cases l with
   | nil=>cases h;exact Nat.le_refl _
   | cons t l =>
     unfold JL at h;cases hd:DS ((ds.length:Nat):Int) 20 with
     | false=>rw[hd] at h;cases h;exact Nat.le_refl _
     | true =>
       rw[hd] at h;dsimp only[cond] at h;split at h;cases h;exact ih _ _ _ _ h;have:=ih _ _ _ _ h;simp only[List.length_append,List.length_singleton] at this;omega
end
mutual
def shN(d:Int):Nd->Nd
 | ⟨kind,name,unit,n,fr,to,known,CZ,kids,a⟩=>⟨kind,name,unit,n,fr,to,known,CZ,shL d kids,a+d⟩
def shL(d:Int):List Nd->List Nd
 | []=>[]
 | k::ks=>shN d k::shL d ks
end
def aeZ(l m:List Nd):Wp (l++m)=max (Wp l) (Wp m):=by
 induction l with
 | nil=>simp[Wp]
 | cons a l ih=>simp only[List.cons_append,Wp,ih];omega
end Mo
end Go.Proofs.YtpbkhogolfegfaaGreatDoor
namespace Go.Proofs.YtpbkhogolfegfaaGreatDoor
open AI Go
namespace Mo
set_option maxRecDepth 100000
set_option maxHeartbeats 4000000
section
variable {α β:Type} {st:Bool}
def LC(st:Bool)(m m':Rd α):Prop:=∀⦃l:List Tk⦄ ⦃a:α⦄ ⦃s:List Tk⦄,m l=some (.inl a,s)->∃c,l=c++s/\(st=true->c≠[])/\∀(p y:List Tk) (r:α⊕Dg) (s1:List Tk),s=p++y->m' (c++p)=some (r,s1)->r=.inl a/\s1=p
def LC.Wd{m m':Rd α}(h:LC true m m'):LC st m m':=λ_ _ _ e=>by
 obtain⟨c,h1,h2,h3⟩:=h e;exact⟨c,h1,λ_=>h2 rfl,h3⟩
def LC.none{m m' m'':Rd α}(h:LC st m m')(h2:∀l,m'' l=none):LC st m m'':=λ_ _ _ e=>by
 obtain⟨c,h1,h3,_⟩:=h e;exact⟨c,h1,h3,λp y r s1 _ e=>by rw[h2] at e;cases e⟩
def sR{m m':Rd α}{K K':α->Rd β}{s1 s2:Bool}(h1:LC s1 m m')(h2:∀a,LC s2 (K a) (K' a))(h:st=true->s1=true\/s2=true):LC st (Cv m K) (Cv m' K'):=by
 intro l b s e;rcases II e with ⟨a,t,e1,e2⟩ | ⟨d,_,e⟩
 rotate_left;cases e;obtain⟨c1,rfl,n1,k1⟩:=h1 e1;obtain⟨c2,rfl,n2,k2⟩:=h2 a e2;refine⟨c1++c2,(List.append_assoc ..).symm,λhs=>?_,?_⟩;rcases h hs with h | h
 simp[n1 h];simp[n2 h];rintro p y r s1 rfl e3;rw[List.append_assoc] at e3;have go:∀(r1:α⊕Dg) (t1:List Tk),m' (c1++(c2++p))=some (r1,t1)->r1=.inl a/\t1=c2++p:=λr1 t1 e=>k1 (c2++p) y r1 t1 (by rw[List.append_assoc]) e;rcases II e3 with ⟨a',t',e4,e5⟩ | ⟨d',e4,rfl⟩
 obtain⟨h3,rfl⟩:=go _ _ e4;cases h3;exact k2 p y r s1 rfl e5;obtain⟨h3,_⟩:=go _ _ e4;cases h3
def BH{m m':Rd α}{K K':α->Rd β}(h1:LC true m m')(h2:∀a,LC false (K a) (K' a)):LC st (Cv m K) (Cv m' K'):=sR h1 h2 λ_=>.inl rfl
def afH{m m':Rd α}{K K':α->Rd β}(h1:LC false m m')(h2:∀a,LC false (K a) (K' a)):LC false (Cv m K) (Cv m' K'):=sR h1 h2 λh=>by cases h
def Df{a:α}:LC false (FZ a) (FZ a):=by
 intro l b s e;obtain⟨e1,rfl⟩:=KN e;cases e1;refine⟨[],rfl,(λh=>by cases h),λp y r s1 _ e=>?_⟩;obtain⟨rfl,rfl⟩:=KN e;exact⟨rfl,rfl⟩
def Jg{e p:Int}{m':Rd α}:LC st (L8 e p) m':=by
 intro l b s h;obtain⟨h,_⟩:=MJ h;cases h
def Na{X:Option β}{K K':β->Rd α}(h:∀b,X=some b->LC st (K b) (K' b)):LC st (Lv X K) (Lv X K'):=by
 intro l a s e;obtain⟨b,hb,e⟩:=I0 e;obtain⟨c,h1,h2,h3⟩:=h b hb e;refine⟨c,h1,h2,λp y r s1 hs e2=>?_⟩;obtain⟨b',VB,e2⟩:=I0 e2;rw[hb] at VB;cases VB;exact h3 p y r s1 hs e2
def YM{en en':Int}{K K':Tk->Rd α}(h:∀t,LC true (K t) (K' t)):LC st (Ue en K) (Ue en' K'):=by
 intro l a s e;cases l with
 | nil=>cases e
 | cons t l =>
   obtain⟨c,h1,h2,h3⟩:=h t e;refine⟨c,h1,λ_=>h2 rfl,λp y r s1 hs e2=>?_⟩;cases c with
   | nil=>exact absurd rfl (h2 rfl)
   | cons t' c =>
     cases h1;exact h3 p y r s1 hs e2
def Np{K K':Rd α}(h:LC false K K'):LC st (Uz K) (Uz K'):=by
 intro l a s e;cases l with
 | nil=>cases e
 | cons t l =>
   obtain⟨c,h1,_,h3⟩:=h e;exact⟨t::c,by rw[h1];rfl,λ_=>by simp,λp y r s1 hs e2=>h3 p y r s1 hs e2⟩
def Cn{b:Bool}{A A' B B':Rd α}(h1:LC st A A')(h2:LC st B B'):LC st (cond b A B) (cond b A' B'):=by cases b;exact h2;exact h1
def xP{x:ByteArray}{t:Tk}{l l':List Tk}:Ii x (t::l)=Ii x (t::l'):=rfl
def aim{x:ByteArray}{A A' B B':Rd α}(h1:LC true A A')(h2:LC st B B'):LC st (λs=>cond (Ii x s) (A s) (B s)) (λs=>cond (Ii x s) (A' s) (B' s)):=by
 intro l a s e;cases hx:Ii x l with
 | true =>
   dsimp only at e;rw[hx] at e;obtain⟨c,k1,k2,k3⟩:=h1 e;refine⟨c,k1,λ_=>k2 rfl,λp y r s1 hs e2=>?_⟩;cases c with
   | nil=>exact absurd rfl (k2 rfl)
   | cons t c =>
     rw[k1,List.cons_append] at hx;rw[List.cons_append] at e2;dsimp only at e2;rw[xP (l':=c++s),hx] at e2;exact k3 p y r s1 hs (by rw[List.cons_append];exact e2)
 | false =>
   dsimp only at e;rw[hx] at e;obtain⟨c,k1,k2,k3⟩:=h2 e;refine⟨c,k1,k2,λp y r s1 hs e2=>?_⟩
   have:Ii x (c++p)=false:=by
     rw[k1,hs,<- List.append_assoc] at hx;cases hc:c++p with
     | nil=>rfl
     | cons t q=>rw[hc] at hx;exact hx
   dsimp only at e2;rw[this] at e2;exact k3 p y r s1 hs e2
def Sr{x:ByteArray}{A A' B B':Rd α}(h1:LC false A A')(h2:LC st B B'):LC st (OD x A B) (OD x A' B'):=aim (A:=Uz A) (A':=Uz A') (Np h1) h2
def PF{n n':Nat}{m m':Rd α}(h:LC st m m'):LC st (OC n m) (OC n' m'):=by
 intro l a s e;obtain⟨c,h1,h2,h3⟩:=h (MM e).2;exact⟨c,h1,h2,λp y r s1 hs e2=>h3 p y r s1 hs (MM e2).2⟩
def j4{m m':Rd α}{F F':Nat->Rd α}{k k':List Tk->Nat}(h:∀n n',LC st (F n) (F' n'))(hm:m=λs=>F (k s) s)(hO:m'=λs=>F' (k' s) s):LC st m m':=by
 subst hm hO;intro l a s e;obtain⟨c,h1,h2,_⟩:=h (k l) 0 e;refine⟨c,h1,h2,λp y r s1 hs e2=>?_⟩;obtain⟨c',h1',_,h3⟩:=h (k l) (k' (c++p)) e;have:c'=c:=List.append_cancel_right (h1'.symm.trans h1);subst this;exact h3 p y r s1 hs e2
end
section
variable {en en':Int} {st:Bool}
def Mt{f:Tk->Option Bool}:LC st (Lm en f) (Lm en' f):=YM λt=>Na λb _=>Cn (Np Df) Jg
def GP{x:ByteArray}:LC st (Jc en x) (Jc en' x):=Mt
def aW:LC st (Mu en) (Mu en'):=BH Mt λt=>Na λn _=>Df
def Qf{least:Int}:LC st (LU en least) (LU en' least):=BH aW λp=>Cn Jg (Cn Jg Df)
def Xs{least:Int}:LC st (Rz en least) (Rz en' least):=BH Mt λt=>Na λd _=>Cn (Cn Jg Df) Jg
def afJ:LC st (UX en) (UX en') :=
 BH GP λt=>BH Qf λn=>BH GP λ_=>BH Xs λf=>Sr (BH Xs λu=>BH GP λ_=>BH Xs λk=>Df) (BH GP λ_=>BH Xs λk=>Df)
def sS:LC st (Pa en) (Pa en') :=
 YM λt=>Np (BH Mt λm=>BH GP λ_=>BH Mt λu=>Cn (BH Mt λr=>Na λn _=>BH GP λ_=>Df) (BH GP λ_=>Df))
def Tz:LC st (FT en) (FT en'):=BH Qf λp=>Df
def afL{read Qu:Rd Nd}(hr:LC true read Qu):∀(q q':Nat) (ns:List Nd),LC false (Nq read q ns) (Nq Qu q' ns):=by
 intro q
 induction q with
 | zero=>intro q' ns l a s e;cases e
 | succ q ih =>
   intro q' ns;cases q' with
   | zero =>
     refine LC.none (m':=Nq Qu 1 ns) ?_ (λ_=>rfl);exact Sr (BH hr λn=>PF (ih 0 _)) Df
   | succ q'=>exact Sr (BH hr λn=>PF (ih q' _)) Df
def eY{read Qu:Rd Nd}(hr:LC true read Qu):LC st (RF read) (RF Qu) :=
 BH hr λn=>j4 (F:=λq=>Nq read q [n]) (F':=λq=>Nq Qu q [n]) (k:=λs=>s.length+1) (k':=λs=>s.length+1) (λq q'=>afL hr q q' [n]) rfl rfl
def YO:LC st (Nk en) (Nk en'):=BH Mt λt=>Na λd _=>Cn (Cn Df Jg) Df
def afM:LC st (Vh en) (Vh en'):=BH Mt λt=>Cn Df Df
def aY{Ax a b:Int}:LC st (NL en Ax a b) (NL en' Ax a b):=BH afM λs=>BH Qf λm=>BH GP λ_=>BH Qf λd=>Na λg _=>Na λz _=>Cn Jg Df
def aX{Ax a:Int}:LC st (Mw en Ax a) (Mw en' Ax a):=BH GP λ_=>Sr (BH YO λa=>aY) (BH YO λa=>aY)
def j5{before:List Pt}{Ax:Int}:LC st (Rc en before Ax) (Rc en' before Ax):=BH YO λv=>Cn (Cn aX Jg) (Na λq _=>Cn Jg (Cn Jg aX))
def wN:∀(q q':Nat) (l:List Pt) (k:Int) {st:Bool},LC st (Jy en q l k) (Jy en' q' l k):=by
 intro q
 induction q with
 | zero=>intro q' l k st _ _ _ e;cases e
 | succ q ih =>
   intro q' l k st;cases q' with
   | zero =>
     refine LC.none (m':=Jy en' 1 l k) ?_ (λ_=>rfl);exact BH j5 λp=>PF (Sr (ih 0 _ _) Df)
   | succ q'=>exact BH j5 λp=>PF (Sr (ih q' _ _) Df)
def wO{k p:Int}:∀(l:List Pt) (acc:List Pc),LC false (L0 k p l acc) (L0 k p l acc):=by
 intro l
 induction l with
 | nil=>intro acc;exact Df
 | cons x l ih=>intro acc;exact Na λz _=>Cn Jg (Cn Jg (PF (ih _)))
def sT{α:Type}{yes aeE:ByteArray->Rd α}{no no':Rd α}(h1:∀x,LC false (yes x) (aeE x))(h2:LC st no no'):∀ops:List ByteArray,LC st (kH yes no ops) (kH aeE no' ops)
 | []=>h2
 | x::ops=>Sr (h1 x) (sT h1 h2 ops)
def YN{sub Xa:Rd Nd}(h:LC true sub Xa){op:ByteArray}{l:Nd}:LC st (PS en sub op l) (PS en' Xa op l):=BH (Cn Tz h) λr=>Na λb _=>Df
def abX{ops:List ByteArray}{sub Xa:Rd Nd}(h:LC true sub Xa):∀(q q':Nat) (l:Nd),LC false (Jb en ops sub q l) (Jb en' ops Xa q' l):=by
 intro q
 induction q with
 | zero=>intro q' l _ _ _ e;cases e
 | succ q ih =>
   intro q' l;cases q' with
   | zero =>
     refine LC.none (m':=Jb en' ops Xa 1 l) ?_ (λ_=>rfl);exact sT (λop=>BH (YN h) λb=>ih 0 b) Df ops
   | succ q'=>exact sT (λop=>BH (YN h) λb=>ih q' b) Df ops
structure LCE(g g':Ek->Rd Nd)(li li':Rd (List Nd)):Prop where
 lg:∀e,LC true (g e) (g' e)
 ll:LC true li li'
section
variable {g g':Ek->Rd Nd} {li li':Rd (List Nd)} (A:LCE g g' li li')
include A
def ab1:LC st (Uj en g) (Uj en' g') :=
 BH GP λt=>BH GP λ_=>BH (A.lg .ex) λa=>BH GP λ_ =>
   BH (j4 (F:=λq=>Jy en q [] 1) (F':=λq=>Jy en' q [] 1) (k:=λs=>s.length+1) (k':=λs=>s.length+1) (λq q'=>wN q q' [] 1) rfl rfl) λl=>BH GP λe=>PF (afH (wO _ _) λr=>Df)
def afI:LC st (UM en g li) (UM en' g' li') :=
 YM λt=>Np (BH GP λ_=>BH (A.lg .ex) λa=>BH GP λ_=>BH A.ll λl=>PF (BH GP λ_=>Df))
def afN{t:Tk}:LC true (RL en g t) (RL en' g' t) :=
 Cn (Np Df)<|Cn (Np Df)<|Cn (Np (BH Qf λp=>Df))<|Cn (Np Df)<|Cn (Np Df)<|Cn (Np Df)<|Cn (Np Df) <|
 Cn (A.lg .ca)<|Cn (A.lg .ca)<|Cn (A.lg .ta)<|Cn (Np (BH (A.lg .ex) λa=>BH GP λ_=>Df)) Jg
def afG:LC st (Wm en g) (Wm en' g') :=
 YM λt=>Cn (BH aW λn=>Sr Df Df) (Cn (Np (BH Mt λa=>Na λc _=>Df)) (Na λb _=>Cn (Np Df) (A.lg (.wd t))))
def abZ(i:Nat):LC st (Nb en g i) (Nb en' g' i) :=
 BH (A.lg _) λl=>j4 (F:=λq=>Jb en (opsOf i) (g (.lv (i+1))) q l) (F':=λq=>Jb en' (opsOf i) (g' (.lv (i+1))) q l) (k:=λs=>s.length+1) (k':=λs=>s.length+1) (λq q'=>abX (A.lg _) q q' l) rfl rfl
def abY:LC st (Yd en g) (Yd en' g'):=BH (A.lg _) λl=>sT (λop=>YN (A.lg _)) Df _
def ako:LC true (W1 en g) (W1 en' g'):=aim (BH GP λt=>BH (A.lg _) λk=>Df) (A.lg (.lv 3))
def sU:∀e,LC true (OI en g li e) (OI en' g' li' e):=by
 intro e;cases e with
 | ex=>exact A.lg (.lv 0)
 | at_=>exact afG A
 | wd t=>exact afN A
 | ca=>exact afI A
 | ta=>exact ab1 A
 | lv i =>
   unfold OI;split;rename_i h;cases h;exact ako A;exact abY A;exact A.lg .at_;rename_i h;cases h;exact abZ A _
   all_goals (rename_i h;cases h)
end
def akn:∀q q':Nat,LCE (gP en q).1 (gP en' q').1 (gP en q).2 (gP en' q').2:=by
 intro q
 induction q with
 | zero =>
   intro q';constructor;intro e _ _ _ h;cases h;intro _ _ _ h;cases h
 | succ q ih =>
   intro q';cases q' with
   | zero=>exact⟨λe=>(sU (en':=en') (ih 0) e).none λ_=>rfl,(eY ((ih 0).lg .ex)).none λ_=>rfl⟩
   | succ q'=>exact⟨sU (ih q'),eY ((ih q').lg .ex)⟩
def amM:LC st (K9 en) (K9 en'):=LC.Wd (j4 (F:=λq=>(gP en q).1 .ex) (F':=λq=>(gP en' q).1 .ex) (k:=λl=>10*l.length+11) (k':=λl=>10*l.length+11) (λq q'=>(akn q q').lg .ex) rfl rfl)
def VP(kind:Int):LC st (IN en (K9 en) kind) (IN en' (K9 en') kind) :=
 YM λt=>Np (Cn (BH (eY Tz) λl=>BH GP λ_=>Df) (BH amM λe=>BH GP λ_=>Df))
def ab0{mk:List Nd->Nd}:∀(q q':Nat) (ns:List Nd) (un am:Bool) {st:Bool},LC st (Gz en (K9 en) mk q ns un am) (Gz en' (K9 en') mk q' ns un am):=by
 intro q
 induction q with
 | zero=>intro q' ns un am st _ _ _ e;cases e
 | succ q ih =>
   have go:∀(q':Nat) (ns:List Nd) (un am:Bool) {st:Bool},LC st (Gz en (K9 en) mk (q+1) ns un am) (Gz en' (K9 en') mk (q'+1) ns un am):=λq' ns un am st =>
     YM λt=>Cn (BH (VP _) λc=>PF (ih q' _ _ _))<|Cn (Cn Jg (BH (VP _) λc=>PF (ih q' _ _ _)))<|Cn (Cn Jg (BH (VP _) λc=>PF (ih q' _ _ _)))<|Cn (Cn (Np Df) Jg) Jg
   intro q' ns un am st;cases q' with
   | zero=>exact(go 0 ns un am).none λ_=>rfl
   | succ q'=>exact go q' ns un am
def pI:LC st (JP en (K9 en)) (JP en' (K9 en')) :=
 BH GP λt=>BH Qf λn=>BH GP λ_=>BH Mt λm=>BH afJ λh=>BH GP λ_ =>
   j4 (F:=λq=>Gz en (K9 en) (λl=>Fw 4 m.text bE n.1 l t.AH) q [h] false false) (F':=λq=>Gz en' (K9 en') (λl=>Fw 4 m.text bE n.1 l t.AH) q [h] false false) (k:=λs=>s.length+1) (k':=λs=>s.length+1) (λq q'=>ab0 q q' _ _ _) rfl rfl
def afK:LC st (Oc en (K9 en)) (Oc en' (K9 en')):=YM λt=>Cn sS (Cn sS (Cn pI Jg))
end
end Mo
end Go.Proofs.YtpbkhogolfegfaaGreatDoor
