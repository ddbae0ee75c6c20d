/- Part of a proof: see the last text. -/
import Derived.Test.YtpbkhogolfegfaaGreatDoorPis
set_option linter.unusedVariables false
set_option linter.unusedSimpArgs false
set_option linter.defProp false
noncomputable section
namespace Go.Proofs.YtpbkhogolfegfaaGreatDoor
open AI Go LexS
namespace Mo
set_option maxRecDepth 100000
def US{m:Nat}{t:List UInt8}(h:GJ m t=true):∃c u,t=c::u/\cin m c=true:=by
 cases t with
 | nil=>cases h
 | cons c u=>exact⟨c,u,rfl,h⟩
def SV:∀(t:List UInt8) (ys:List (List UInt8)),(Li t ys).1=0\/(Li t ys).1=6
 | _,[]=>.inl rfl
 | t,y::ys=>by
   unfold Li;split;exact .inr rfl;exact SV t ys
def ahC{t:List UInt8}(h:GJ 8 t=true):1<=Be 8 t:=by
 obtain⟨c,u,rfl,hc⟩:=US h;rw[Dp,if_pos hc];omega
def vY{t:List UInt8}(h:EJ t=true):∃c0 c1 c2 c3 c5 c6 c8 c9,t.take 10=[c0,c1,c2,c3,45,c5,c6,45,c8,c9]/\S5 c0/\S5 c1/\S5 c2/\S5 c3/\S5 c5/\S5 c6/\S5 c8/\S5 c9:=by
 unfold EJ at h;rw[Bool.and_eq_true] at h;obtain⟨hl,h⟩:=h;have hl:=of_decide_eq_true hl;have hd:=λi hi=>List.all_eq_true.1 h i (List.mem_range.2 hi)
 match t,hl with
 | c0::c1::c2::c3::c4::c5::c6::c7::c8::c9::u,_ =>
   have e4:c4=45:=by have:=hd 4 (by decide);simpa[FJ] using this
   have e7:c7=45:=by have:=hd 7 (by decide);simpa[FJ] using this
   have g:∀(i:Nat) (c:UInt8) (v:List UInt8),i < 10->i≠4->i≠7->(c0::c1::c2::c3::c4::c5::c6::c7::c8::c9::u).drop i=c::v->S5 c:=by
     intro i c v h1 h4 h7 h;have:=hd i h1;unfold FJ at this;rw[if_neg (by omega),h] at this;exact alE this
   subst e4 e7
   exact⟨c0,c1,c2,c3,c5,c6,c8,c9,rfl,g 0 _ _ (by decide) (by decide) (by decide) rfl,g 1 _ _ (by decide) (by decide) (by decide) rfl,g 2 _ _ (by decide) (by decide) (by decide) rfl,g 3 _ _ (by decide) (by decide) (by decide) rfl,
     g 5 _ _ (by decide) (by decide) (by decide) rfl,g 6 _ _ (by decide) (by decide) (by decide) rfl,g 8 _ _ (by decide) (by decide) (by decide) rfl,g 9 _ _ (by decide) (by decide) (by decide) rfl⟩
def nO{t:List UInt8}(h1:(t.drop (Be 8 t)).head?=some 46)(h2:GJ 8 (t.drop (Be 8 t+1))=true)(h3:GJ 8 (t.drop (Be 8 t+2))=true) :
   ∃x y,t.take (Be 8 t+3)=t.take (Be 8 t)++46::[x,y]/\S5 x/\S5 y:=by
 obtain⟨x,u,hx,hx2⟩:=US h2;obtain⟨y,v,hy,D1⟩:=US h3;generalize hd:Be 8 t=d at *
 have e1:t.drop d=46::t.drop (d+1):=by
   cases hq:t.drop d with
   | nil=>rw[hq] at h1;cases h1
   | cons a b =>
     rw[hq] at h1;have:t.drop (d+1)=b:=by rw[<- List.drop_drop,hq];rfl
     rw[this];simp only[List.head?_cons,Option.some.injEq] at h1;rw[h1]
 have e2:t.drop (d+1)=x::t.drop (d+2):=by
   rw[hx,show d+2=(d+1)+1 from rfl,<- List.drop_drop,hx];rfl
 refine⟨x,y,?_,alE hx2,alE D1⟩;rw[List.take_add,e1,e2,hy];rfl
def aiA{t:List UInt8}{o:Nat}(ht:t.length<=6000)(h:(A2 t).1≠0):Gd (IH ((A2 t).1,t.take (A2 t).2,o)):=by
 have hlen:(t.take (A2 t).2).length<=6000:=by rw[List.length_take];omega
 have hlen:(IH ((A2 t).1,t.take (A2 t).2,o)).text.data.toList.length<=6000:=hlen
 have other:(A2 t).1≠3->(A2 t).1≠4->(A2 t).1≠5->Gd (IH ((A2 t).1,t.take (A2 t).2,o)):=by
   intro h3 h4 h5;refine⟨λh=>?_,λh=>?_,λh=>?_,hlen⟩;have:(((A2 t).1:Nat):Int)=3:=h;omega;have:(((A2 t).1:Nat):Int)=3\/(((A2 t).1:Nat):Int)=4:=h;omega;have:(((A2 t).1:Nat):Int)=5:=h;omega
 by_cases c2:GJ 2 t=true;refine other ?_ ?_ ?_<;>(unfold A2;rw[if_pos c2];split<;>simp)
 by_cases c4:GJ 4 t=true;refine other ?_ ?_ ?_<;>(unfold A2;rw[if_neg c2,if_pos c4];split<;>simp)
 by_cases c8:GJ 8 t=true;rotate_left;have:A2 t=Li t Gc:=by unfold A2;rw[if_neg c2,if_neg c4,if_neg c8]
 rcases SV t Gc with h1 | h1
 rw[this] at h;exact absurd h1 h;rw[<- this] at h1;exact other (by omega) (by omega) (by omega);have hr:A2 t=GB t:=by unfold A2;rw[if_neg c2,if_neg c4,if_pos c8]
 have hp:=ahC c8;have hsp:=Zc 8 t;rw[hr] at h hlen ⊢;unfold GB at h hlen ⊢;dsimp only at h hlen ⊢;by_cases hd:EJ t=true;rw[if_pos hd] at h hlen ⊢;split at h;rename_i hf;rw[if_pos hf] at hlen ⊢;refine⟨λh=>?_,λh=>?_,λh=>?_,hlen⟩;have:(((5:Nat)):Int)=3:=h;omega;have:(((5:Nat)):Int)=3\/((5:Nat):Int)=4:=h;omega;obtain⟨c0,c1,c2,c3,c5,c6,c8,c9,h0,a0,a1,a2,a3,a5,a6,a8,a9⟩:=vY hd;dsimp only[IH];rw[h0];exact vZ a0 a1 a2 a3 a5 a6 a8 a9;exact absurd rfl h;rw[if_neg hd] at h hlen ⊢;by_cases h0:t.head?=some 48/\1 < Be 8 t;rw[if_pos h0] at h;exact absurd rfl h;rw[if_neg h0] at h hlen ⊢;by_cases h1:(t.drop (Be 8 t)).head?=some 46;rw[if_pos h1] at h hlen ⊢;by_cases h2:10 < Be 8 t\/GJ 8 (t.drop (Be 8 t+1))=false\/GJ 8 (t.drop (Be 8 t+2))=false;rw[if_pos h2] at h;exact absurd rfl h;rw[if_neg h2] at h hlen ⊢;split at h;rename_i hf;rw[if_pos hf] at hlen ⊢;refine⟨λh=>?_,λ_=>?_,λh=>?_,hlen⟩;have:(((4:Nat)):Int)=3:=h;omega;simp only[not_or,Bool.not_eq_false] at h2;obtain⟨x,y,e,hx,hy⟩:=nO h1 h2.2.1 h2.2.2;dsimp only[IH];rw[e];have hs:=lH t;refine aB (m:=t.take (Be 8 t)++[x,y]) (afW hs) ?_ (by simp) ?_ ?_;simp only[List.length_append,List.length_take,List.length_cons,List.length_nil];omega;simp only[List.length_append,List.length_take,List.length_cons,List.length_nil];omega;intro c hc;rcases List.mem_append.1 hc with hc | hc
 exact hs c hc;simp only[List.mem_cons,List.not_mem_nil,or_false] at hc;rcases hc with rfl | rfl
 exact hx;exact hy;have:(((4:Nat)):Int)=5:=h;omega;exact absurd rfl h;rw[if_neg h1] at h hlen ⊢;by_cases h2:12 < Be 8 t;rw[if_pos h2] at h;exact absurd rfl h;rw[if_neg h2] at h hlen ⊢;split at h;rename_i hf;rw[if_pos hf] at hlen ⊢;have hs:=lH t
 have hne:t.take (Be 8 t)≠[]:=λe=>by
   have:=congrArg List.length e;rw[List.length_take,List.length_nil] at this;omega
 refine⟨λh=>?_,λ_=>?_,λh=>?_,hlen⟩;exact XZ hne (by rw[List.length_take];omega) hs;exact aB (aoI hs) (by rw[List.length_take];omega) hne (by rw[List.length_take];omega) hs;have:(((3:Nat)):Int)=5:=h;omega;exact absurd rfl h
def cH:∀(n o:Nat) (t:List UInt8) (x:LexS.Tok),x∈Iz n o t->x.1≠0->∃u o',u.length<=t.length/\(A2 u).1≠0/\x=((A2 u).1,u.take (A2 u).2,o'):=by
 intro n
 induction n with
 | zero=>intro o t x h;cases h
 | succ n ih =>
   intro o t x h h0;unfold Iz at h;split at h;cases h;split at h;rw[List.mem_singleton.1 h] at h0;exact absurd rfl h0;rename_i hr;rcases List.mem_cons.1 h with rfl | h
   exact⟨t,o,Nat.le_refl _,hr,rfl⟩;obtain⟨u,o',h1,h2⟩:=ih _ _ _ h h0;refine⟨u,o',Nat.le_trans h1 ?_,h2⟩;simp only[List.length_drop];omega
def YK:∀(l acc:List LexS.Tok),acc.length<=2000->(DQ acc l).1.length<=2000/\∀x∈(DQ acc l).1,x∈acc\/x∈l/\x.1≠0:=by
 intro l
 induction l with
 | nil=>intro acc h;exact⟨h,λx hx=>.inl hx⟩
 | cons y l ih =>
   intro acc h;unfold DQ;split;exact⟨Nat.zero_le _,λx hx=>by cases hx⟩;split;exact⟨Nat.zero_le _,λx hx=>by cases hx⟩;rename_i h1 h2;obtain⟨a,b⟩:=ih (acc++[y]) (by simp only[List.length_append,List.length_singleton];omega);refine⟨a,λx hx=>?_⟩;rcases b x hx with hx | ⟨hx,h0⟩
   rcases List.mem_append.1 hx with hx | hx
   exact .inl hx;rw[List.mem_singleton.1 hx];exact .inr ⟨List.mem_cons_self ..,h2⟩;exact .inr ⟨List.mem_cons_of_mem _ hx,h0⟩
def Mg(s:ByteArray):Gl (DY s)/\(DY s).length<=2000:=by
 unfold DY Lg;split;refine⟨?_,Nat.zero_le _⟩;intro t ht;cases ht;rename_i hs;obtain⟨a,b⟩:=YK (Dh s.data.toList) [] (Nat.zero_le _);refine⟨?_,by rw[List.length_map];exact a⟩;intro t ht;obtain⟨x,hx,rfl⟩:=List.mem_map.1 ht;rcases b x hx with hx | ⟨hx,h0⟩
 cases hx;obtain⟨u,o',h1,h2,rfl⟩:=cH _ _ _ x hx h0;rw[List.length_drop] at h1;exact aiA (by omega) h2
end Mo
end Go.Proofs.YtpbkhogolfegfaaGreatDoor
namespace Go.Proofs.YtpbkhogolfegfaaGreatDoor
open AI Go
namespace Mo
set_option maxRecDepth 100000
section
variable {α β:Type} {c:Nat} {f:α->Nat} {g:β->Nat}
def SU(c:Nat)(f:α->Nat)(m:Rd α):Prop:=∀⦃l:List Tk⦄ ⦃a:α⦄ ⦃s:List Tk⦄,m l=some (.inl a,s)->f a+s.length<=l.length+c
def BJ{m:Rd α}{K:α->Rd β}(h1:SU c f m)(h2:∀a,SU (f a) g (K a)):SU c g (Cu m K):=by
 intro l b s h;rcases Jg h with ⟨a,s',e1,e2⟩ | ⟨d,_,h⟩
 have a1:=h1 e1;have a2:=h2 a e2;omega;cases h
def Eb{a:α}(h:f a<=c):SU c f (FQ a):=by
 intro l b s e;obtain⟨e1,rfl⟩:=LG e;cases e1;omega
def I8{e p:Int}:SU c f (MW e p):=by
 intro l b s h;obtain⟨h,_⟩:=Ng h;cases h
def Na{X:Option β}{K:β->Rd α}(h:∀b,X=some b->SU c f (K b)):SU c f (LU X K):=by
 intro l a s e;obtain⟨b,hb,e⟩:=Jj e;exact h b hb e
def Ze{en:Int}{K:Tk->Rd α}(h:∀t,SU c f (K t)):SU c f (Vc en K):=by
 intro l a s e;cases l with
 | nil=>cases e
 | cons t l=>exact h t e
def SA{K:Rd α}(h:SU (c+1) f K):SU c f (Vz K):=by
 intro l a s e;cases l with
 | nil=>cases e
 | cons t l=>have:=h (l:=l) e;simp only[List.length_cons];omega
def Cj{b:Bool}{A B:Rd α}(h1:SU c f A)(h2:SU c f B):SU c f (cond b A B):=by cases b;exact h2;exact h1
def V6{x:ByteArray}{A B:Rd α}(h1:SU (c+1) f A)(h2:SU c f B):SU c f (Ot x A B):=by
 intro l a s e;unfold Ot at e;cases hx:Ju x l with
 | true=>rw[hx] at e;exact SA h1 e
 | false=>rw[hx] at e;exact h2 e
def V5{n:Nat}{m:Rd α}(h:SU c f m):SU c f (OP n m):=λ_ _ _ e=>h (N7 e).2
def SU.le{c':Nat}{m:Rd α}(h:SU c f m)(hc:c<=c'):SU c' f m:=λ_ _ _ e=>by have:=h e;omega
end
section
variable {c:Nat} {en:Int}
def Mx{f:Tk->Option Bool}:SU c (λ_=>c+1) (LK en f):=Ze λt=>Na λb _=>Cj (SA (Eb (Nat.le_refl _))) I8
def GS{x:ByteArray}:SU c (λ_=>c+1) (JL en x):=Mx
def bL:SU c (λ_=>c+1) (Ny en):=BJ Mx λt=>Na λn _=>Eb (Nat.le_refl _)
def Qp{least:Int}:SU c (λ_=>c+1) (Me en least):=BJ bL λp=>Cj I8 (Cj I8 (Eb (Nat.le_refl _)))
def XB{least:Int}:SU c (λ_=>c+1) (R6 en least):=BJ Mx λt=>Na λd _=>Cj (Cj I8 (Eb (Nat.le_refl _))) I8
def Iw(k:Int)(nm u:ByteArray)(n:Int)(ks:List Nd)(p:Int):DB (E9 k nm u n ks p)=1+Ge ks:=rfl
def O5(n:Nd):Ge [n]=DB n:=by simp[Ge]
def Qt(l m:List Nd):Ge (l++m)=Ge l+Ge m:=by
 induction l with
 | nil=>simp[Ge]
 | cons a l ih=>simp only[List.cons_append,Ge,ih];omega
def apO:SU c (λn=>DB n+c) (Wt en) :=
 BJ GS λt=>BJ Qp λn=>BJ GS λ_=>BJ XB λf =>
   V6 (BJ XB λu=>BJ GS λ_=>BJ XB λk=>Eb (by show 1+Ge []+c<=_;simp only[Ge];omega)) (BJ GS λ_=>BJ XB λk=>Eb (by show 1+Ge []+c<=_;simp only[Ge];omega))
def uC:SU c (λn=>DB n+c) (R7 en) :=
 Ze λt=>SA (BJ Mx λm=>BJ GS λ_=>BJ Mx λu=>Cj (BJ Mx λr=>Na λn _=>BJ GS λ_=>Eb (by rw[Iw];simp only[Ge];omega)) (BJ GS λ_=>Eb (by rw[Iw];simp only[Ge];omega)))
def Tu:SU c (λn=>DB n+c) (Gs en):=BJ Qp λp=>Eb (by rw[Iw];simp only[Ge];omega)
def apQ{read:Rd Nd}(hr:∀c,SU c (λn=>DB n+c) read):∀(q:Nat) (ns:List Nd) (c:Nat),SU (Ge ns+c) (λr=>Ge r+c) (Ru read q ns):=by
 intro q
 induction q with
 | zero=>intro ns c l a s h;cases h
 | succ q ih =>
   intro ns c;refine V6 (BJ (hr _) λn=>V5 ((ih (ns++[n]) c).le ?_)) (Eb (Nat.le_refl _));rw[Qt,O5];omega
def uD{read:Rd Nd}(hr:∀c,SU c (λn=>DB n+c) read):SU c (λr=>Ge r+c) (Sf read) :=
 BJ (hr c) λn l a s h=>by
   have:=apQ hr _ [n] c h;rw[O5] at this;exact this
def Zf:SU c (λ_=>c+1) (OC en):=BJ Mx λt=>Na λd _=>Cj (Cj (Eb (Nat.le_refl _)) I8) (Eb (Nat.le_refl _))
def apR:SU c (λ_=>c+1) (WN en):=BJ Mx λt=>Cj (Eb (Nat.le_refl _)) (Eb (Nat.le_refl _))
def bN{Az a b:Int}:SU c (λ_=>c) (O0 en Az a b):=BJ apR λs=>BJ Qp λm=>BJ GS λ_=>BJ Qp λd=>Na λg _=>Na λz _=>Cj I8 (Eb (by omega))
def SU.imp{α:Type}{f f':α->Nat}{m:Rd α}(h:SU c f m)(hf:∀a,f' a<=f a):SU c f' m:=λ_ a _ e=>by have:=h e;have:=hf a;omega
def bM{Az a:Int}:SU c (λ_=>c) (NE en Az a):=BJ GS λ_=>V6 (BJ Zf λa=>bN.imp λ_=>by omega) (BJ Zf λa=>bN.imp λ_=>by omega)
def ahK{before:List Pt}{Az:Int}:SU c (λ_=>c) (Sk en before Az):=BJ Zf λv=>Cj (Cj (bM.imp λ_=>by omega) I8) (Na λq _=>Cj I8 (Cj I8 (bM.imp λ_=>by omega)))
def yF:∀(q:Nat) (l:List Pt) (k:Int) (c:Nat),SU c (λ_=>c) (Mp en q l k):=by
 intro q
 induction q with
 | zero=>intro l k c _ _ _ h;cases h
 | succ q ih=>intro l k c;exact BJ ahK λp=>V5 (V6 ((ih _ _ _).imp λ_=>by omega) (Eb (Nat.le_refl _)))
def yG{k p:Int}:∀(l:List Pt) (acc:List Pc),SU c (λ_=>c) (Mv k p l acc):=by
 intro l
 induction l with
 | nil=>intro acc;exact Eb (Nat.le_refl _)
 | cons x l ih=>intro acc;exact Na λz _=>Cj I8 (Cj I8 (V5 (ih _)))
def vR{op:ByteArray}{l r x:Nd}(h:Bb op l r=some x):DB x=1+DB l+DB r:=by
 unfold Bb at h;revert h;have e1:∀(nm:ByteArray) (a b:Nd) (p:Int),DB (⟨16,nm,ByteArray.empty,0,0,0,0,⟨0,[]⟩,[a,b],p⟩:Nd)=1+DB a+DB b:=by intro nm a b p;simp only[DB,Ge];omega
 cases BY op.data.toList IK.data.toList;cases BY op.data.toList Fy.data.toList;intro h1;cases h1;exact e1 _ _ _ _;cases JX op IK JC 1 with
 | none=>intro h1;cases h1
 | some y=>intro h1;cases h1;rw[e1];omega
 cases JX op IK JC 1 with
 | none=>intro h1;cases h1
 | some y=>intro h1;cases h1;rw[e1];omega
def auA{α:Type}{f:α->Nat}{yes:ByteArray->Rd α}{no:Rd α}(h1:∀x,SU (c+1) f (yes x))(h2:SU c f no):∀ops:List ByteArray,SU c f (nA yes no ops):=by
 intro ops
 induction ops with
 | nil=>exact h2
 | cons x ops ih=>exact V6 (h1 x) ih
def lL{sub:Rd Nd}(h:∀c,SU c (λn=>DB n+c) sub)(op:ByteArray)(l:Nd):SU (DB l+c+1) (λn=>DB n+c) (Q5 en sub op l) :=
 BJ (Cj Tu (h _)) λr=>Na λx hx=>Eb (by rw[vR hx];omega)
def ahI{ops:List ByteArray}{sub:Rd Nd}(h:∀c,SU c (λn=>DB n+c) sub):∀(q:Nat) (l:Nd) (c:Nat),SU (DB l+c) (λn=>DB n+c) (Ln en ops sub q l):=by
 intro q
 induction q with
 | zero=>intro l c _ _ _ h;cases h
 | succ q ih=>intro l c;exact auA (λx=>BJ (lL h x l) λb=>ih b c) (Eb (Nat.le_refl _)) ops
structure Siz(g:Ek->Rd Nd)(li:Rd (List Nd)):Prop where
 sg:∀e c,SU c (λn=>DB n+c) (g e)
 sli:∀c,SU c (λr=>Ge r+c) li
def apJ:∀q:Nat,Siz (gP en q).1 (gP en q).2:=by
 intro q
 induction q with
 | zero =>
   constructor;intro e c _ _ _ h;cases h;intro c _ _ _ h;cases h
 | succ q A =>
   refine⟨λe c=>?_,λc=>uD (A.sg .ex)⟩;show SU c (λn=>DB n+c) (O4 en (gP en q).1 (gP en q).2 e);have lv:∀i,SU c (λn=>DB n+c) (N6 en (gP en q).1 i):=λi=>BJ (A.sg _ _) λN l a s h=>ahI (A.sg _) _ N c h;unfold O4;split;exact A.sg _ _
   · intro l a s h
     unfold YS at h;cases hx:Ju U3 l with
     | true =>
       rw[hx] at h;exact BJ (g:=λn=>DB n+c) GS (λt=>BJ (A.sg _ _) λk=>Eb (by rw[Iw,O5];omega)) h
     | false=>rw[hx] at h;exact A.sg _ _ h
   exact BJ (A.sg _ _) λN=>auA (λx=>lL (A.sg _) x N) (Eb (Nat.le_refl _)) _;exact A.sg _ _;exact lv _;refine Ze λt=>Cj (BJ bL λn=>V6 (Eb (by rw[Iw];simp only[Ge];omega)) (Eb (by rw[Iw];simp only[Ge];omega))) (Cj (SA (BJ Mx λa=>Na λz _=>Eb (by rw[Iw];simp only[Ge];omega))) (Na λb _=>Cj (SA (Eb (by rw[Iw];simp only[Ge];omega))) (A.sg _ _)));have one:∀(k:Int) (nm u:ByteArray) (n p:Int),SU c (λn=>DB n+c) (Vz (FQ (E9 k nm u n [] p))):=λ_ _ _ _ _=>SA (Eb (by rw[Iw];simp only[Ge];omega))
   exact Cj (one _ _ _ _ _) (Cj (one _ _ _ _ _) (Cj (SA (BJ Qp λp=>Eb (by rw[Iw];simp only[Ge];omega))) (Cj (one _ _ _ _ _) (Cj (one _ _ _ _ _) (Cj (one _ _ _ _ _) (Cj (one _ _ _ _ _) (Cj (A.sg _ _) (Cj (A.sg _ _) (Cj (A.sg _ _)
     (Cj (SA (BJ (A.sg _ _) λa=>BJ GS λ_=>Eb (by omega))) I8))))))))))
   exact Ze λt=>SA (BJ GS λ_=>BJ (A.sg _ _) λa=>BJ GS λ_=>BJ (A.sli _) λl=>V5 (BJ GS λ_=>Eb (by rw[Iw];simp only[Ge];omega)));exact BJ GS λt=>BJ GS λ_=>BJ (A.sg _ _) λa=>BJ GS λ_=>BJ (λl a s h=>yF _ _ _ _ h) λl=>BJ GS λe=>V5 (BJ (yG _ _) λr=>Eb (by show 1+Ge [a]+c<=DB a+(c+1+1)+1+1;rw[O5];omega))
def atZ:SU c (λn=>DB n+c) (M1 en):=λ_ _ _ h=>(apJ _).sg .ex c h
def yE(kind:Int):SU c (λn=>DB n+c) (IF en (M1 en) kind) :=
 Ze λt=>SA (Cj (BJ (uD λc=>Tu) λl=>BJ GS λ_=>Eb (by rw[Iw];omega)) (BJ atZ λe=>BJ GS λ_=>Eb (by rw[Iw,O5];omega)))
def ahJ{mk:List Nd->Nd}(hm:∀l,DB (mk l)=1+Ge l):∀(q:Nat) (ns:List Nd) (un am:Bool) (c:Nat),SU (Ge ns+c+1) (λn=>DB n+c) (Ir en (M1 en) mk q ns un am):=by
 intro q
 induction q with
 | zero=>intro ns un am c _ _ _ h;cases h
 | succ q ih =>
   intro ns un am c
   have go:∀(kind:Int) (gQ gG:Bool),SU (Ge ns+c+1) (λn=>DB n+c) (Cu (IF en (M1 en) kind) λx=>OP (ns.length+1) (Ir en (M1 en) mk q (ns++[x]) gQ gG)):=λkind gQ gG =>
     BJ (yE kind) λx=>V5 ((ih (ns++[x]) gQ gG c).le (by rw[Qt,O5];omega))
   exact Ze λt=>Cj (go _ _ _) (Cj (Cj I8 (go _ _ _)) (Cj (Cj I8 (go _ _ _)) (Cj (Cj (SA (Eb (by rw[hm];omega))) I8) I8)))
def apP:SU c (λn=>DB n+c) (P1 en (M1 en)) :=
 Ze λt=>Cj uC (Cj uC (Cj (BJ GS λt=>BJ Qp λn=>BJ GS λ_=>BJ Mx λm=>BJ apO λh=>BJ GS λ_=>λl a s e=>by
   have:=ahJ (λl=>rfl) _ [h] false false c e;rw[O5] at this;dsimp only at this ⊢;omega) I8))
end
def ajC(a b:Nat):aAO (a:Int) (b:Int)=((max a b:Nat):Int):=by
 unfold aAO;split<;>omega
def avJ:∀n:Nd,M3 n<=DB n:=by
 intro n
 have key:∀(q:Nat) (n:Nd),DB n<=q->M3 n<=DB n:=by
   intro q
   induction q with
   | zero=>intro n h;rw[EY] at h;omega
   | succ q ih =>
     intro n h;rw[NW,EY];have:Uq n.kids<=Ge n.kids:=Yc.2 λk hk=>Nat.le_trans (ih k (by have:=SW hk;omega)) (LJ hk);omega
 exact key _ n (Nat.le_refl _)
def wX:∀(q:Nat) (n:Nd),DB n<=q->DB n<=1000000->Dr q n=some (((DB n:Nat):Int),((M3 n:Nat):Int)):=by
 intro q
 induction q with
 | zero=>intro n h;have:=EY n;omega
 | succ q ih =>
   intro n hq hz;have hsz:=EY n;rw[Dr,Ka];rw[show Rt n.kids.length=λy:Option ((Int×Int)⊕(Int×Int))=>y from funext λy=>if_pos (by have:=My n.kids;omega),List.drop_zero]
   have key:∀(m:List Nd),(∀k∈m,k∈n.kids)->∀(i c d:Nat),c+Ge m<=1000000->CL (ρ:=Int×Int) (λi y x=>FU (Dr q) i y x.1 x.2) (λx=>(x.1,x.2)) m i ((c:Int),(d:Int))=some (.inl (((c+Ge m:Nat):Int),((max d (Uq m):Nat):Int))):=by
     intro m
     induction m with
     | nil=>intro _ i c d _;simp[CL,Ge,Uq]
     | cons a m ihm =>
       intro hm i c d hc;simp only[Ge] at hc;have ha:=hm a (List.mem_cons_self ..);rw[CL,FU,ih a (by have:=LJ ha;omega) (by have:=LJ ha;omega),Option.bind_some];dsimp only;rw[CJ (by omega),ajC];have:=ihm (λk hk=>hm k (List.mem_cons_of_mem _ hk)) (i+1) (c+DB a) (max d (M3 a)) (by omega);rw[Option.bind_some];dsimp only[PW];rw[show(c:Int)+(DB a:Int)=((c+DB a:Nat):Int) by omega,this];simp only[Ge,Uq,Nat.add_assoc,Nat.max_assoc]
   have h1:=key n.kids (λ_ h=>h) 0 1 0 (by omega);have h1:CL (ρ:=Int×Int) (λi y x=>FU (Dr q) i y x.1 x.2) (λx=>(x.1,x.2)) n.kids 0 (1,0)=some (.inl (((1+Ge n.kids:Nat):Int),((max 0 (Uq n.kids):Nat):Int))):=h1;rw[h1,Option.bind_some];dsimp only[LZ];have hd:=NW n;have hd2:=avJ n;rw[CJ (by omega),hsz,hd];congr 2;omega
def aO{n:Nd}(hz:DB n<=1000000):Dq n=some (if 2000 < DB n\/40 < M3 n then (z0,[⟨2,0⟩]) else (n,[])):=by
 have:Md n=some (((DB n:Nat):Int),((M3 n:Nat):Int)):=TH (DB n) λq hq=>wX q n hq hz;unfold Dq;rw[this,Option.bind_some];dsimp only;by_cases h1:2000 < DB n;rw[Ij (by omega),if_pos (.inl h1)];rfl;rw[H5 (by omega)];by_cases h2:40 < M3 n;rw[Ij (by omega),if_pos (.inr h2)];rfl;rw[H5 (by omega),if_neg (by omega)];rfl
end Mo
end Go.Proofs.YtpbkhogolfegfaaGreatDoor
namespace Go.Proofs.YtpbkhogolfegfaaGreatDoor
open AI Go
namespace Mo
set_option maxRecDepth 100000
def aeR(n:Nd):Nd×List Dg:=if 2000 < DB n\/40 < M3 n then (z0,[⟨2,0⟩]) else (n,[])
def aAE{en:Int}:∀(q:Nat) (l:List Tk) (ks:List Nd) (ds:List Dg) (r:List Nd×List Dg),Gl l->l.length<=10000->I9 en q l ks ds=some r->Ge r.1<=Ge ks+l.length/\r.2.length<=max 20 ds.length:=by
 intro q
 induction q with
 | zero=>intro l ks ds r _ _ h;cases h
 | succ q ih =>
   intro l ks ds r hg hl h;cases l with
   | nil=>cases h;exact⟨by dsimp only;omega,by dsimp only;omega⟩
   | cons t l =>
     unfold I9 at h;cases hd:Et ((ds.length:Nat):Int) 20 with
     | false=>rw[hd] at h;cases h;exact⟨by dsimp only;omega,by dsimp only;omega⟩
     | true =>
       rw[hd] at h;dsimp only[cond] at h;have hd:=YO hd;split at h;cases h;rename_i n s hi;have a:=apP (c:=0) hi;obtain⟨⟨k,rfl⟩,_,_⟩:=L9 hg hl hi;have b:=ih _ _ _ _ (hg.drop k) (by rw[List.length_drop];omega) h;rw[Qt,O5] at b;exact⟨by dsimp only at a;omega,b.2⟩;rename_i d s hi;obtain⟨⟨k,rfl⟩,h2,_⟩:=L9 hg hl hi;obtain⟨j,hj⟩:=Qm ((t::l).drop k);have hl2:l.length<=10000:=by simp only[List.length_cons] at hl;omega
       have b:=ih _ _ _ _ (by rw[hj];exact(hg.drop k).drop j) (by omega) h;simp only[List.length_append,List.length_singleton] at b;simp only[List.length_cons];exact⟨by omega,by omega⟩
def vH(ks:List Nd):List Dg->Nd×List Dg
 | []=>aeR (Gw ks)
 | ds=>(z0,ds)
def Xt{s:ByteArray}(h:Pp s=0):∃ks ds,I9 ((s.data.toList.length:Nat):Int) ((DY s).length+1) (DY s) [] []=some (ks,ds)/\Cf s=some (vH ks ds)/\Ge ks<=2000/\ds.length<=20:=by
 obtain⟨hg,hl⟩:=Mg s;obtain⟨ks,ds,h1,h2⟩:=xG h hg (by omega);have h3:=aAE _ _ _ _ _ hg (by omega) h1;simp only[Ge,List.length_nil] at h3;refine⟨ks,ds,h1,?_,by omega,by omega⟩;rw[h2];cases ds with
 | nil =>
   rw[H5 (by simp)];exact aO (by have:=EY (Gw ks);simp only[Gw] at this;rw[show DB (Gw ks)=1+Ge ks from rfl];omega)
 | cons d ds =>
   rw[Ij (by simp only[List.length_cons];omega)];rfl
def auY:(Nd⊕Dg)×List Tk->Nd×List Dg
 | (.inl n,[])=>aeR n
 | (.inl _,t::_)=>(z0,[⟨71,t.AH⟩])
 | (.inr d,_)=>(z0,[d])
def tG{s:ByteArray}(h:Pp s=0):∃r l,M1 ((s.data.toList.length:Nat):Int) (DY s)=some (r,l)/\Dl s=some (auY (r,l)):=by
 obtain⟨hg,hl⟩:=Mg s;obtain⟨r,l,h1,_⟩:=auD (en:=((s.data.toList.length:Nat):Int)) (n:=(DY s).length) (by omega) hg (Nat.le_refl _);refine⟨r,l,h1,?_⟩;obtain⟨k',a1,a2,rfl,a4⟩:=rO (by omega) hg (Nat.zero_le _) (by rw[List.drop_zero];exact h1);unfold Dl ID;rw[Option.bind_some];dsimp only;rw[JK (by unfold Pp at h;omega)];dsimp only[cond];have a4:FL ⟨List.map IH (LexS.Lg s.data.toList).fst,0,((s.data.toList.length:Nat):Int)⟩=some (r,(k':Int)):=a4;unfold KM Hh;rw[a4,Option.bind_some];cases r with
 | inr d=>rfl
 | inl n =>
   dsimp only[Sum.elim];rcases JI (DY s) a2 with ⟨h2,h3⟩ | ⟨t,h2,h3,h4⟩
   rw[h3,H5 (by show((List.map IH (LexS.Lg s.data.toList).fst).length:Int)<=_;unfold DY at h2;omega)];dsimp only[cond,Option.bind,aiF]
   have hz:DB n<=1000000:=by
     have:=atZ (c:=0) h1;dsimp only at this;omega
   have:=aO hz;rw[this];rfl;rw[h4,Ij (by show _ < ((List.map IH (LexS.Lg s.data.toList).fst).length:Int);unfold DY at h2;omega)];dsimp only[cond]
   have hgt:Hu (List.map IH (LexS.Lg s.data.toList).fst) (k':Int)=some t:=by
     unfold Hu;rw[if_pos (by omega),Int.toNat_natCast];exact h3
   rw[hgt];rfl
end Mo
end Go.Proofs.YtpbkhogolfegfaaGreatDoor
namespace Go.Proofs.YtpbkhogolfegfaaGreatDoor
open AI Go LexS
namespace Mo
set_option maxRecDepth 100000
structure Gy(t:Tk):Prop where
 name:t.kind=1->(1<=t.text.data.toList.length/\t.text.data.toList.length<=16)/\(∃b,t.text.data.toList[0]?=some b/\97<=b.toNat/\b.toNat<=122)/\∀c∈t.text.data.toList,uY c
 cur:t.kind=2->vX t.text
def Xi:∀n < 128,((LY n &&& 26)≠0->(97<=n/\n<=122)\/(48<=n/\n<=57)\/n=95)/\((LY n &&& 4)≠0->65<=n/\n<=90)/\((LY n &&& 2)≠0->97<=n/\n<=122):=by decide
def Xh{m:Nat}{c:UInt8}(h:cin m c=true):c.toNat < 128/\(LY c.toNat &&& m)≠0:=by
 unfold cin at h;refine⟨?_,by simpa using h⟩
 by_cases hc:c.toNat < 128;exact hc;rw[dC _ (by omega)] at h;simp at h
def lG(m:Nat)(t:List UInt8):∀c∈t.take (Be m t),cin m c=true:=by
 unfold Be
 induction t with
 | nil=>intro c hc;cases hc
 | cons x t ih =>
   intro c hc;rw[List.takeWhile_cons] at hc;split at hc;rename_i hx;rw[List.length_cons,List.take_succ_cons] at hc;rcases List.mem_cons.1 hc with rfl | hc
   exact hx;exact ih c hc;cases hc
def aAC{t:List UInt8}{o:Nat}:Gy (IH ((A2 t).1,t.take (A2 t).2,o)):=by
 by_cases c2:GJ 2 t=true;by_cases hc:Be 30 t<=16/\Be 26 t=Be 30 t;have hr:A2 t=(1,Be 30 t):=by unfold A2;rw[if_pos c2,if_pos hc]
 rw[hr];refine⟨λ_=>?_,λh=>?_⟩;obtain⟨c,u,rfl,aCD⟩:=US c2
 have hp:1<=Be 26 (c::u):=by
   rw[Dp,if_pos (by
     obtain⟨a,b⟩:=Xh aCD;have:=(Xi _ a).2.2 b;unfold cin;have:∀n < 128,(LY n &&& 2)≠0->((LY n &&& 26) != 0)=true:=by decide
     exact this _ a b)]
   omega
 have hsp:=Zc 30 (c::u);dsimp only[IH];refine⟨⟨by rw[List.length_take];omega,by rw[List.length_take];omega⟩,⟨c,?_,?_⟩,λx hx=>?_⟩;rw[List.getElem?_take_of_lt (by omega)];rfl;obtain⟨a,b⟩:=Xh aCD;exact(Xi _ a).2.2 b;rw[<- hc.2] at hx;obtain⟨a,b⟩:=Xh (lG 26 _ x hx);exact(Xi _ a).1 b;have:(((1:Nat)):Int)=2:=h;omega;have hr:A2 t=(0,0):=by unfold A2;rw[if_pos c2,if_neg hc]
 rw[hr];exact⟨λh=>by have:(((0:Nat)):Int)=1:=h;omega,λh=>by have:(((0:Nat)):Int)=2:=h;omega⟩;by_cases c4:GJ 4 t=true;by_cases hc:Be 30 t=3/\Be 4 t=Be 30 t;have hr:A2 t=(2,Be 30 t):=by unfold A2;rw[if_neg c2,if_pos c4,if_pos hc]
 rw[hr];refine⟨λh=>by have:(((2:Nat)):Int)=1:=h;omega,λ_=>?_⟩;have hsp:=Zc 30 t;unfold vX;dsimp only[IH];refine⟨by rw[List.length_take];omega,λx hx=>?_⟩;rw[<- hc.2] at hx;obtain⟨a,b⟩:=Xh (lG 4 _ x hx);exact(Xi _ a).2.1 b;have hr:A2 t=(0,0):=by unfold A2;rw[if_neg c2,if_pos c4,if_neg hc]
 rw[hr];exact⟨λh=>by have:(((0:Nat)):Int)=1:=h;omega,λh=>by have:(((0:Nat)):Int)=2:=h;omega⟩
 have:(A2 t).1≠1/\(A2 t).1≠2:=by
   unfold A2;rw[if_neg c2,if_neg c4];split
   · unfold GB
     dsimp only
     repeat' split
     all_goals simp
   rcases SV t Gc with h | h<;>omega
 exact⟨λh=>absurd (show(((A2 t).1:Nat):Int)=1 from h) (by omega),λh=>absurd (show(((A2 t).1:Nat):Int)=2 from h) (by omega)⟩
def Gx(l:List Tk):Prop:=∀t∈l,Gd t/\Gy t
def fQ(s:ByteArray):Gx (DY s):=by
 intro t ht;refine⟨(Mg s).1 t ht,?_⟩;unfold DY Lg at ht;split at ht;cases ht;obtain⟨a,b⟩:=YK (Dh s.data.toList) [] (Nat.zero_le _);obtain⟨x,hx,rfl⟩:=List.mem_map.1 ht;rcases b x hx with hx | ⟨hx,h0⟩
 cases hx;obtain⟨u,o',h1,h2,rfl⟩:=cH _ _ _ x hx h0;exact aAC
section
variable {α β:Type} {P:α->Prop} {P2:β->Prop}
def Va(P:α->Prop)(m:Rd α):Prop:=∀⦃l:List Tk⦄ ⦃a:α⦄ ⦃s:List Tk⦄,Gx l->m l=some (.inl a,s)->P a/\Gx s
def BK{m:Rd α}{K:α->Rd β}(h1:Va P m)(h2:∀a,P a->Va P2 (K a)):Va P2 (Cu m K):=by
 intro l b s hg h;rcases Jg h with ⟨a,s',e1,e2⟩ | ⟨d,_,h⟩
 obtain⟨pa,hg⟩:=h1 hg e1;exact h2 a pa hg e2;cases h
def D0{a:α}(h:P a):Va P (FQ a):=by
 intro l b s hg e;obtain⟨e1,rfl⟩:=LG e;cases e1;exact⟨h,hg⟩
def Jb{e p:Int}:Va P (MW e p):=by
 intro l b s _ h;obtain⟨h,_⟩:=Ng h;cases h
def OB{X:Option β}{K:β->Rd α}(h:∀b,X=some b->Va P (K b)):Va P (LU X K):=by
 intro l a s hg e;obtain⟨b,hb,e⟩:=Jj e;exact h b hb hg e
def lX{en:Int}{K:Tk->Rd α}(h:∀t,Gd t/\Gy t->Va P (K t)):Va P (Vc en K):=by
 intro l a s hg e;cases l with
 | nil=>cases e
 | cons t l=>exact h t (hg t (List.mem_cons_self ..)) hg e
def Qu{K:Rd α}(h:Va P K):Va P (Vz K):=by
 intro l a s hg e;cases l with
 | nil=>cases e
 | cons t l=>exact h (λt ht=>hg t (List.mem_cons_of_mem _ ht)) e
def DM{b:Bool}{A B:Rd α}(h1:b=true->Va P A)(h2:b=false->Va P B):Va P (cond b A B):=by cases b;exact h2 rfl;exact h1 rfl
def Wc{x:ByteArray}{A B:Rd α}(h1:Va P A)(h2:Va P B):Va P (Ot x A B):=by
 intro l a s hg e;unfold Ot at e;cases hx:Ju x l with
 | true=>rw[hx] at e;exact Qu h1 hg e
 | false=>rw[hx] at e;exact h2 hg e
def Wb{n:Nat}{m:Rd α}(h:Va P m):Va P (OP n m):=λ_ _ _ hg e=>h hg (N7 e).2
def Va.imp{P':α->Prop}{m:Rd α}(h:Va P m)(f:∀a,P a->P' a):Va P' m:=λ_ a _ hg e=>⟨f a (h hg e).1,(h hg e).2⟩
end
section
variable {en:Int}
def Mz{f:Tk->Option Bool}:Va (λt=>(Gd t/\Gy t)/\f t=some true) (LK en f) :=
 lX λt ht=>OB λb hb=>DM (λh=>Qu (D0 ⟨ht,by rw[hb,h]⟩)) λ_=>Jb
def GU{x:ByteArray}:Va TT (JL en x):=Mz.imp λ_ _=>trivial
def Xp{t:Tk}(hg:Gd t/\Gy t)(h:Cw t=some true):Rx t.text:=by
 unfold Cw at h;rw[aeE] at h;cases hk:CV t.kind 1 with
 | false=>rw[hk] at h;cases h
 | true =>
   rw[hk] at h;obtain⟨h1,h2,h3⟩:=hg.2.name (E8 hk);refine⟨h1,h2,λhm=>?_,h3⟩;rw[C4.2 hm] at h;cases h
def uI{t:Tk}(hg:Gd t/\Gy t)(h:Fa t=some true):Vl t.text:=by
 unfold Fa at h;cases h1:BY t.text.data.toList Ha.data.toList with
 | true=>exact .inl (OT h1)
 | false =>
   rw[h1] at h;cases h2:BY t.text.data.toList EF.data.toList with
   | true=>exact .inr (.inl (OT h2))
   | false =>
     rw[h2] at h;cases h3:BY t.text.data.toList JQ.data.toList with
     | true=>exact .inr (.inr (.inl (OT h3)))
     | false =>
       rw[h3] at h;exact .inr (.inr (.inr (hg.2.cur (E8 (QQ h).symm))))
def bZ:Va (λp:Int×Int=>0<=p.1/\p.1<=999999999999) (Ny en):=by
 refine BK Mz λt ht=>OB λn hn=>D0 ?_;obtain⟨z,h1,h2⟩:=ht.1.1.num (E8 (QQ ht.2).symm);rw[h1] at hn;cases hn;exact h2
def Qv(least:Int):Va (λp:Int×Int=>least<=p.1/\p.1<=1000000) (Me en least) :=
 BK bZ λp _=>DM (λ_=>Jb) λh1=>DM (λ_=>Jb) λh2=>D0 ⟨K2 h1,K2 h2⟩
def XG(least:Int):Va (λd:Int=>least<=d/\0<=d/\d<=36524) (R6 en least):=by
 refine BK Mz λt ht=>OB λd hd=>DM (λh=>DM (λ_=>Jb) λh3=>D0 ⟨K2 h3,?_⟩) λ_=>Jb;obtain⟨d',e,h1,h2⟩:=ht.1.1.date (E8 (QQ ht.2).symm);rw[h1] at hd;cases hd;exact h2 (E8 h)
def aqU:Va Ro (Wt en):=by
 have mk:∀{n f u k p:Int},(0<=n/\n<=1000000)->(0<=f/\f<=36524)->(f < u/\u<=36525)->(0<=k/\k<=36524)->Ro ⟨5,bE,bE,n,f,u,k,⟨0,[]⟩,[],p⟩ :=
   λh1 h2 h3 h4=>⟨rfl,h1,rfl,h2,h3,h4,rfl,rfl,rfl,rfl,rfl,rfl,rfl,rfl⟩
 exact BK GU λt _=>BK (Qv _) λn hn=>BK GU λ_ _=>BK (XG _) λf hf =>
   Wc (BK (XG _) λu hu=>BK GU λ_ _=>BK (XG _) λk hk=>D0 (mk hn hf.2 ⟨by have:=hu.1;rw[CJ (by have:=hf.2;omega)] at this;omega,by have:=hu.2;omega⟩ hk.2))
     (BK GU λ_ _=>BK (XG _) λk hk=>D0 (mk hn hf.2 ⟨by have:=hf.2;omega,by omega⟩ hk.2))
def aoL{x:ByteArray}{n:Int}(h:Ev x=some n):0<=n/\n<=4:=by
 unfold Ev at h;revert h;cases BY Tj.data.toList x.data.toList;cases BY Mk.data.toList x.data.toList;cases BY Pl.data.toList x.data.toList;cases BY Tq.data.toList x.data.toList<;>(intro h;cases h;decide)
 intro h;cases h;decide;intro h;cases h;decide;intro h;cases h;decide
def uP:Va IC (R7 en):=by
 refine lX λt _=>Qu (BK Mz λm hm=>BK GU λ_ _=>BK Mz λu hu=>DM (λ_=>BK Mz λr hr=>OB λn hn=>BK GU λ_ _=>D0 (.inr (.inl ?_))) λ_=>BK GU λ_ _=>D0 (.inl ?_));have h1:=aoL hn
 have h2:0 < n:=by
   have h:=hr.2;unfold BT at h;rw[hn] at h;exact YO (by cases hq:Et 0 n with | true=>rfl | false=>(simp only[Option.bind_some,hq,cond_false] at h;cases h))
 exact⟨rfl,Xp hm.1 hm.2,uI hu.1 hu.2,(by omega:1<=n),h1.2,rfl,rfl,rfl,rfl,rfl,rfl,rfl,rfl,rfl⟩;exact⟨rfl,Xp hm.1 hm.2,uI hu.1 hu.2,rfl,rfl,rfl,rfl,rfl,rfl,rfl,rfl,rfl⟩
end
end Mo
end Go.Proofs.YtpbkhogolfegfaaGreatDoor
namespace Go.Proofs.YtpbkhogolfegfaaGreatDoor
open AI Go LexS
namespace Mo
set_option maxRecDepth 100000
section
variable {en:Int}
def Zu:Va (λp:Int×Int=>0<=p.1/\p.1<=999999999999) (OC en):=by
 refine BK Mz λt ht=>OB λc hc=>?_
 have hk:t.kind=3\/t.kind=4:=by
   have h:=ht.2;unfold Df at h;cases h4:CV t.kind 4 with
   | true=>exact .inr (E8 h4)
   | false =>
     rw[h4] at h;exact .inl (E8 (QQ h).symm)
 obtain⟨z,h1,h2⟩:=ht.1.1.rH hk;rw[h1] at hc;cases hc;exact DM (λ_=>DM (λ_=>D0 h2) λ_=>Jb) λ_=>D0 h2
def aqX:Va (λs:Int=>s=1\/s=-1) (WN en):=BK Mz λt _=>DM (λ_=>D0 (.inr rfl)) λ_=>D0 (.inl rfl)
def axY{Az d g z:Int}(hc:1<=Az/\Az<=1000000)(hd:1<=d/\d<=1000000)(h1:acI Az d=some g)(h2:S6 Az g=some z):1<=BQ z d:=by
 obtain⟨g',e1,mX,⟨c1,h3⟩,_⟩:=acK hc.1 (show(0:Int)<=d by omega);rw[h1] at e1;cases e1;rw[Yd (by omega) (by omega) (by omega)] at h2;cases h2;have hq:Az / g=c1:=by rw[h3,Int.mul_ediv_cancel_left _ (by omega)]
 have hc1:1<=c1:=by
   by_cases h:1<=c1;exact h;have:=Int.mul_nonpos_of_nonneg_of_nonpos (show 0<=g by omega) (show c1<=0 by omega);omega
 have gK:c1<=1000000:=by
   have:=Int.mul_le_mul_of_nonneg_right mX (show 0<=c1 by omega);omega
 rw[hq];have a1:=Int.mul_le_mul gK hd.2 (by omega) (by omega);have a2:=Int.mul_nonneg (show 0<=c1 by omega) (show 0<=d by omega);rw[IQ (by omega)];have:=Int.mul_le_mul_of_nonneg_right hc1 (show 0<=d by omega);omega
def PtP(before:List Pt)(x:Pt×Int):Prop:=(0<=x.1.fr/\x.1.fr<=999999999999)/\(before=[]->x.1.fr=0)/\(∀q,before[before.length - 1]?=some q->q.fr < x.1.fr)/\before.length<=63/\(-999999999999<=x.1.AH/\x.1.AH<=999999999999)/\1<=x.2/\x.2<=1000000
def cB{Az:Int}(hc:1<=Az/\Az<=1000000)(from_ a:Int):Va (λx:Pt×Int=>x.1.fr=from_/\x.1.AH=a/\1<=x.2/\x.2<=1000000) (O0 en Az from_ a) :=
 BK aqX λs hs=>BK (Qv _) λm hm=>BK GU λ_ _=>BK (Qv _) λd hd=>OB λg hg=>OB λz hz=>DM (λ_=>Jb) λh5=>D0 ⟨rfl,rfl,axY hc hd hg hz,K2 h5⟩
def cA{Az:Int}(hc:1<=Az/\Az<=1000000)(from_:Int):Va (λx:Pt×Int=>x.1.fr=from_/\(-999999999999<=x.1.AH/\x.1.AH<=999999999999)/\1<=x.2/\x.2<=1000000) (NE en Az from_) :=
 BK GU λ_ _=>Wc (BK Zu λa ha=>(cB hc _ _).imp λx hx=>⟨hx.1,by rw[hx.2.1,IQ (by omega)];omega,hx.2.2⟩) (BK Zu λa ha=>(cB hc _ _).imp λx hx=>⟨hx.1,by rw[hx.2.1,IQ (by omega)];omega,hx.2.2⟩)
def aiS(before:List Pt){Az:Int}(hc:1<=Az/\Az<=1000000):Va (PtP before) (Sk en before Az):=by
 refine BK Zu λv hv=>DM (λh=>DM (λh0=>(cA hc _).imp λx hx=>?_) λ_=>Jb) λh=>OB λq hq=>DM (λ_=>Jb) λh1=>DM (λ_=>Jb) λh2=>(cA hc _).imp λx hx=>?_;have hn:before=[]:=List.eq_nil_of_length_eq_zero (by have:=E8 h;omega);have h0:=E8 h0;exact⟨by rw[hx.1];omega,λ_=>by rw[hx.1];exact h0,λq hq=>(by rw[hn] at hq;cases hq),by rw[hn];exact Nat.zero_le _,hx.2⟩;have h1:=aeH h1;have h2:=aeH h2;have hne:before≠[]:=λe=>UL h (by rw[e];rfl);exact⟨by rw[hx.1];omega,λe=>absurd e hne,λq' mZ=>(by rw[hq] at mZ;cases mZ;rw[hx.1];exact h1),by omega,hx.2⟩
def PLP(ps:List Pt):Prop:=(∀x,ps[0]?=some x->x.fr=0)/\∀(i:Nat) p,ps[i]?=some p->(0<=p.fr/\p.fr<=999999999999)/\(∀q,0 < i->ps[i - 1]?=some q->q.fr < p.fr)/\-999999999999<=p.AH/\p.AH<=999999999999
def tI{ps:List Pt}{x:Pt×Int}(h:PLP ps)(hx:PtP ps x):PLP (ps++[x.1]):=by
 obtain⟨a1,a2,a3,a4,a5,a6⟩:=hx
 have get:∀{i:Nat} {p:Pt},(ps++[x.1])[i]?=some p->(i < ps.length/\ps[i]?=some p)\/(i=ps.length/\p=x.1):=by
   intro i p hp;by_cases hi:i < ps.length;rw[List.getElem?_append_left hi] at hp;exact .inl ⟨hi,hp⟩;rw[List.getElem?_append_right (by omega)] at hp;cases hj:i - ps.length with
   | zero=>rw[hj] at hp;cases hp;exact .inr ⟨by omega,rfl⟩
   | succ j=>rw[hj] at hp;cases hp
 refine⟨λy hy=>?_,λi p hp=>?_⟩;rcases get hy with ⟨h1,h2⟩ | ⟨h1,rfl⟩
 exact h.1 y h2;exact a2 (List.eq_nil_of_length_eq_zero h1.symm);rcases get hp with ⟨h1,h2⟩ | ⟨rfl,rfl⟩
 obtain⟨b1,b2,b3⟩:=h.2 i p h2;refine⟨b1,λq hq ZH=>?_,b3⟩;rcases get ZH with ⟨_,h4⟩ | ⟨h3,_⟩
 exact b2 q hq h4;omega;refine⟨a1,λq hq ZH=>?_,a5⟩;rcases get ZH with ⟨_,h4⟩ | ⟨h3,_⟩
 exact a3 q h4;omega
def yW:∀(q:Nat) (ps:List Pt) (c:Int),1<=c/\c<=1000000->PLP ps->Va (λr:List Pt×Int=>PLP r.1/\(1<=r.1.length/\r.1.length<=64)/\1<=r.2/\r.2<=1000000) (Mp en q ps c):=by
 intro q
 induction q with
 | zero=>intro ps c _ _ _ _ _ _ h;cases h
 | succ q ih =>
   intro ps c hc hp;refine BK (aiS ps hc) λx hx=>Wb (Wc (ih _ _ hx.2.2.2.2.2 (tI hp hx)) (D0 ⟨tI hp hx,?_,hx.2.2.2.2.2⟩));have:=hx.2.2.2.1;simp only[List.length_append,List.length_singleton];omega
def yX{c p:Int}:∀(ps:List Pt) (acc:List Pc),Va (λr:List Pc=>∃out,r=acc++out/\out.length=ps.length/\∀(i:Nat) x,ps[i]?=some x->∃sl,out[i]?=some ⟨x.fr,BQ x.AH c,sl⟩/\-1000000<=sl/\sl<=1000000) (Mv c p ps acc):=by
 intro ps
 induction ps with
 | nil=>intro acc;exact D0 ⟨[],by simp,rfl,λi x h=>by cases h⟩
 | cons y ps ih =>
   intro acc;refine OB λz _=>DM (λ_=>Jb) λh1=>DM (λ_=>Jb) λh2=>Wb ((ih _).imp λr hr=>?_);obtain⟨out,rfl,h3,h4⟩:=hr;refine⟨⟨y.fr,BQ y.AH c,BQ y.num z⟩::out,by simp,by simp[h3],λi x hx=>?_⟩;cases i with
   | zero=>cases hx;exact⟨_,rfl,K2 h2,K2 h1⟩
   | succ i=>exact h4 i x hx
def aAA{ps:List Pt}{c:Int}{r:List Pc}(h:PLP ps)(hl:1<=ps.length/\ps.length<=64)(hc:1<=c/\c<=1000000)(h2:r.length=ps.length)(h3:∀(i:Nat) x,ps[i]?=some x->∃sl,r[i]?=some ⟨x.fr,BQ x.AH c,sl⟩/\-1000000<=sl/\sl<=1000000):lN ⟨c,r⟩:=by
 have back:∀{i:Nat} {y:Pc},r[i]?=some y->∃x sl,ps[i]?=some x/\y=⟨x.fr,BQ x.AH c,sl⟩/\-1000000<=sl/\sl<=1000000:=by
   intro i y hy;have hi:i < ps.length:=by have:=(List.getElem?_eq_some_iff.1 hy).1;omega
   obtain⟨sl,e,b⟩:=h3 i ps[i] (List.getElem?_eq_getElem hi);rw[hy] at e;exact⟨ps[i],sl,List.getElem?_eq_getElem hi,Option.some.inj e,b⟩
 refine⟨hc,by rw[h2];exact hl,λy hy=>?_,λi y hy=>?_⟩;obtain⟨x,sl,h4,rfl,_⟩:=back hy;exact h.1 x h4;obtain⟨x,sl,h4,rfl,h5,h6⟩:=back hy;obtain⟨a1,a2,a3,a4⟩:=h.2 i x h4;have m1:=Int.mul_le_mul_of_nonneg_right a4 (show 0<=c by omega);have m2:=Int.mul_le_mul_of_nonneg_right a3 (show 0<=c by omega);have e:BQ x.AH c=x.AH*c:=IQ (by omega);refine⟨a1.2,λq hq ZH=>?_,?_,?_,?_,h6,h5⟩;obtain⟨x',sl',h7,rfl,_⟩:=back ZH;exact a2 x' hq h7;dsimp only;unfold Ye mB;rw[if_neg (by omega),e,Int.mul_tmod_left];dsimp only;rw[e,IQ (by omega)];exact m1;dsimp only;rw[e,IQ (by omega)];exact m2
def aqW{P:Nd->Prop}{read:Rd Nd}(hr:Va P read):∀(q:Nat) (ns:List Nd),ns≠[]->(∀n∈ns,P n)->Va (λr:List Nd=>r≠[]/\∀n∈r,P n) (Ru read q ns):=by
 intro q
 induction q with
 | zero=>intro ns _ _ _ _ _ _ h;cases h
 | succ q ih =>
   intro ns h0 h;refine Wc (BK hr λn hn=>Wb (ih _ (by simp) λy hy=>?_)) (D0 ⟨h0,h⟩);rcases List.mem_append.1 hy with hy | hy
   exact h y hy;rw[List.mem_singleton.1 hy];exact hn
def uQ{P:Nd->Prop}{read:Rd Nd}(hr:Va P read):Va (λr:List Nd=>r≠[]/\∀n∈r,P n) (Sf read) :=
 BK hr λn hn _ _ _ hg h=>aqW hr _ [n] (by simp) (λy hy=>by rw[List.mem_singleton.1 hy];exact hn) hg h
def ayN{n p:Int}(h:1<=n/\n<=1000000):J5 (E9 11 bE EF n [] p)/\QV (E9 11 bE EF n [] p) :=
 ⟨(Jh _).2 ⟨.inl ⟨rfl,.inr (.inl rfl),by show 0<=n;omega,by show n<=_;omega,λe=>absurd e (show EF≠Ha by decide),rfl,rfl,rfl,rfl,rfl,rfl,rfl,rfl,rfl⟩,λk hk=>by cases hk⟩,rfl,rfl,h⟩
def Tw:Va (λn=>J5 n/\QV n) (Gs en):=BK (Qv _) λp hp=>D0 (ayN hp)
end
end Mo
end Go.Proofs.YtpbkhogolfegfaaGreatDoor
namespace Go.Proofs.YtpbkhogolfegfaaGreatDoor
open AI Go LexS
namespace Mo
set_option maxRecDepth 100000
def opQ{nm:ByteArray}{a b:Nd}{p:Int}(ho:YU nm)(ha:J5 a)(hb:J5 b)(hn:nm=EC->QV b):J5 ⟨16,nm,ByteArray.empty,0,0,0,0,⟨0,[]⟩,[a,b],p⟩:=by
 refine(Jh _).2 ⟨.inr (.inr (.inr (.inr (.inr (.inl ⟨rfl,⟨rfl,rfl,rfl,rfl,rfl,rfl,rfl,rfl⟩,rfl,ho,λe k hk=>?_⟩))))),λk hk=>?_⟩;cases hk;exact hn e;simp only[List.mem_cons,List.not_mem_nil,or_false] at hk;rcases hk with rfl | rfl
 exact ha;exact hb
def VC:List ByteArray:=[jW,PQ,GP,HH,JC,G9,IK,Fy,Oo,Lh,PD,EC,iA]
def tF(i:Nat):∀x∈opsOf i,x∈VC:=by
 unfold opsOf;split<;>(intro x hx;simp only[List.mem_cons,List.not_mem_nil,or_false] at hx)<;>(try (unfold VC;simp only[List.mem_cons]))
 exact .inl hx;exact .inr (.inl hx);rcases hx with h | h | h | h | h | h<;>simp[h]
 rcases hx with h | h<;>simp[h]
 rcases hx with h | h | h<;>simp[h]
def vP{op:ByteArray}{l r x:Nd}(ho:op∈VC)(hl:J5 l)(hr:J5 r)(hn:op=EC->QV r)(h:Bb op l r=some x):J5 x:=by
 unfold Bb at h;revert h;cases h1:BY op.data.toList IK.data.toList with
 | true =>
   rw[OT h1,show JX IK IK JC 1=some JC from rfl];intro h;cases h;exact opQ (by unfold YU;simp) hr hl λe=>absurd e (by decide)
 | false =>
   cases h2:BY op.data.toList Fy.data.toList with
   | true =>
     rw[OT h2,show JX Fy IK JC 1=some G9 from rfl];intro h;cases h;exact opQ (by unfold YU;simp) hr hl λe=>absurd e (by decide)
   | false =>
     intro h;cases h;refine opQ ?_ hl hr hn;unfold VC at ho;simp only[List.mem_cons,List.not_mem_nil,or_false] at ho;have n1:=abU h1;have n2:=abU h2;unfold YU;rcases ho with h | h | h | h | h | h | h | h | h | h | h | h | h
     all_goals first | exact absurd h n1 | exact absurd h n2 | simp[h]
section
variable {en:Int}
def auG{α:Type}{P:α->Prop}{yes:ByteArray->Rd α}{no:Rd α}(h2:Va P no):∀ops:List ByteArray,(∀x∈ops,Va P (yes x))->Va P (nA yes no ops):=by
 intro ops
 induction ops with
 | nil=>intro _;exact h2
 | cons x ops ih=>intro h;exact Wc (h x (List.mem_cons_self ..)) (ih λy hy=>h y (List.mem_cons_of_mem _ hy))
def lY{sub:Rd Nd}(h:Va J5 sub){op:ByteArray}(ho:op∈VC){l:Nd}(hl:J5 l):Va J5 (Q5 en sub op l):=by
 refine BK (P:=λr=>J5 r/\(op=EC->QV r)) (DM (λ_=>Tw.imp λn hn=>⟨hn.1,λ_=>hn.2⟩) λh1=>h.imp λn hn=>⟨hn,λe=>absurd e (abU h1)⟩) λr hr=>OB λx hx=>D0 (vP ho hl hr.1 hr.2 hx)
def aiQ{ops:List ByteArray}(aKP:∀x∈ops,x∈VC){sub:Rd Nd}(h:Va J5 sub):∀(q:Nat) (l:Nd),J5 l->Va J5 (Ln en ops sub q l):=by
 intro q
 induction q with
 | zero=>intro l _ _ _ _ _ h;cases h
 | succ q ih=>intro l hl;exact auG (D0 hl) ops λx hx=>BK (lY h (aKP x hx) hl) λb hb=>ih b hb
def azH{nm:ByteArray}{p:Int}(h:Rx nm):J5 (E9 12 nm bE 0 [] p):=(Jh _).2 ⟨.inr (.inl ⟨rfl,h,rfl,rfl,rfl,rfl,rfl,rfl,rfl,rfl,rfl⟩),λk hk=>by cases hk⟩
def YL{u:ByteArray}{n p:Int}(h:Vl u)(h0:0<=n/\n<=999999999999)(h1:u=Ha->n<=1):J5 (E9 11 bE u n [] p):=(Jh _).2 ⟨.inl ⟨rfl,h,h0.1,h0.2,h1,rfl,rfl,rfl,rfl,rfl,rfl,rfl,rfl,rfl⟩,λk hk=>by cases hk⟩
def eS{a:Nd}(h:J5 a):∀k∈[a],J5 k:=λk hk=>by rw[List.mem_singleton.1 hk];exact h
def ayI{k:Nd}{p:Int}(hk:J5 k):J5 (E9 15 bE bE 0 [k] p):=(Jh _).2 ⟨.inr (.inr (.inr (.inr (.inl ⟨rfl,rfl,rfl,rfl,rfl,rfl,rfl,rfl,rfl,rfl⟩)))),eS hk⟩
def auZ{n p:Int}(h:1<=n/\n<=1000000):J5 (E9 13 bE bE n [] p):=(Jh _).2 ⟨.inr (.inr (.inl ⟨rfl,h,rfl,rfl,rfl,rfl,rfl,rfl,rfl,rfl,rfl⟩)),λk hk=>(by cases hk)⟩
def anY:PLP []:=⟨λx h=>(by cases h),λi p h=>(by cases h)⟩
def alC{nm:ByteArray}{a:Nd}{l:List Nd}{p:Int}(hn:nm=KT\/nm=FR)(ha:J5 a)(hl:l≠[]/\∀n∈l,J5 n):J5 (E9 17 nm bE 0 (a::l) p):=by
 refine(Jh _).2 ⟨.inr (.inr (.inr (.inr (.inr (.inr (.inl ⟨rfl,hn,⟨rfl,rfl,rfl,rfl,rfl,rfl,rfl,rfl⟩,?_⟩)))))),λk hk=>?_⟩;have:=List.length_pos_iff.2 hl.1;show 2<=(a::l).length;rw[List.length_cons];omega;rcases List.mem_cons.1 hk with rfl | hk
 exact ha;exact hl.2 k hk
structure VaE(g:Ek->Rd Nd)(li:Rd (List Nd)):Prop where
 vg:∀e,e≠.ca->(∀t,e≠.wd t)->Va J5 (g e)
 vw:∀⦃t:Tk⦄ ⦃l s:List Tk⦄ ⦃a:Nd⦄,Gx (t::l)->g (.wd t) (t::l)=some (.inl a,s)->J5 a/\Gx s
 vc:∀⦃t:Tk⦄ ⦃l s:List Tk⦄ ⦃a:Nd⦄,Gx (t::l)->(t.text=KT\/t.text=FR)->g .ca (t::l)=some (.inl a,s)->J5 a/\Gx s
 vli:Va (λr:List Nd=>r≠[]/\∀n∈r,J5 n) li
def alI{u:ByteArray}(h:vX u):u≠Ha:=by
 rintro rfl;have:=h.1;revert this;decide
def aAK:∀q:Nat,VaE (gP en q).1 (gP en q).2:=by
 intro q
 induction q with
 | zero =>
   constructor;intro e _ _ _ _ _ _ h;cases h;intro _ _ _ _ _ h;cases h;intro _ _ _ _ _ _ h;cases h;intro _ _ _ _ h;cases h
 | succ q A =>
   have lv:∀i,Va J5 (N6 en (gP en q).1 i):=λi=>BK (A.vg _ (by simp) (by simp)) λN hN _ _ _ hg h=>aiQ (tF i) (A.vg _ (by simp) (by simp)) _ N hN hg h;refine⟨λe hc hw=>?_,λt l s a hg h=>?_,λt l s a hg ht h=>?_,uQ (A.vg .ex (by simp) (by simp))⟩
   · show Va J5 (O4 en (gP en q).1 (gP en q).2 e)
     unfold O4;split;exact A.vg _ (by simp) (by simp)
     · intro l a s hg h
       unfold YS at h;cases hx:Ju U3 l with
       | true =>
         rw[hx] at h;exact BK (P2:=J5) GU (λt _=>BK (A.vg _ (by simp) (by simp)) λk hk=>D0 (ayI hk)) hg h
       | false=>rw[hx] at h;exact A.vg _ (by simp) (by simp) hg h
     exact BK (A.vg _ (by simp) (by simp)) λN hN=>auG (D0 hN) _ λx hx=>lY (A.vg _ (by simp) (by simp)) (tF 3 x hx) hN;exact A.vg _ (by simp) (by simp);exact lv _
     · intro l a s hg h
       cases l with
       | nil=>cases h
       | cons t l =>
         have ht:=hg t (List.mem_cons_self ..);unfold X0 Vc at h;dsimp only at h;cases hk3:CV t.kind 3 with
         | true =>
           rw[hk3] at h;exact BK (P2:=J5) bZ (λn hn=>Wc (D0 (YL (.inr (.inr (.inl rfl))) hn λe=>absurd e (by decide))) (D0 (YL (.inr (.inl rfl)) hn λe=>absurd e (by decide)))) hg h
         | false =>
           rw[hk3] at h;dsimp only[cond] at h;cases hk:CV t.kind 2 with
           | true =>
             rw[hk] at h;refine Qu (P:=J5) (BK Mz λa ha=>OB λz hz=>D0 ?_) hg h;obtain⟨z',h1,h2⟩:=ha.1.1.rH (.inr (E8 (QQ ha.2).symm));rw[h1] at hz;cases hz;have hc:=ht.2.cur (E8 hk);exact YL (.inr (.inr (.inr hc))) h2 λe=>absurd e (alI hc)
           | false =>
             rw[hk] at h;obtain⟨b,hb,h⟩:=Jj h;cases b with
             | true=>exact Qu (P:=J5) (D0 (azH (Xp ht hb))) hg h
             | false=>exact A.vw hg h
     rename_i t;exact absurd rfl (hw t);exact absurd rfl hc;refine BK GU λt _=>BK GU λ_ _=>BK (A.vg _ (by simp) (by simp)) λa ha=>BK GU λ_ _=>BK (λ_ _ _ hg h=>yW _ [] 1 (by decide) anY hg h) λl hl=>BK GU λe _=>Wb (BK (yX _ _) λr hr=>D0 ?_);obtain⟨out,e,h3,h4⟩:=hr;rw[List.nil_append] at e;subst e;exact(Jh _).2 ⟨.inr (.inr (.inr (.inr (.inr (.inr (.inr ⟨rfl,⟨rfl,rfl,rfl,rfl,rfl,rfl,rfl,rfl⟩,aAA hl.1 hl.2.1 hl.2.2 h3 h4,rfl⟩)))))),eS ha⟩
   · have h:RC en (gP en q).1 t (t::l)=some (.inl a,s):=h
     have dt:dH t.text->Va J5 (UJ t):=λh=>Qu (D0 ((Jh _).2 ⟨.inr (.inr (.inr (.inl ⟨rfl,h,rfl,rfl,rfl,rfl,rfl,rfl,rfl,rfl,rfl⟩))),λk hk=>by cases hk⟩))
     have key:(t.text=KT\/t.text=FR)/\(gP en q).1 .ca (t::l)=some (.inl a,s)\/(J5 a/\Gx s):=by
       unfold RC at h;revert h;cases BY t.text.data.toList Zm.data.toList;rotate_left;exact λh=>.inr (Qu (P:=J5) (D0 (YL (.inl rfl) (by decide) λ_=>by decide)) hg h);cases BY t.text.data.toList TI.data.toList;rotate_left;exact λh=>.inr (Qu (P:=J5) (D0 (YL (.inl rfl) (by decide) λ_=>by decide)) hg h);cases BY t.text.data.toList cW.data.toList;rotate_left;exact λh=>.inr (Qu (P:=J5) (BK (Qv _) λp hp=>D0 (auZ hp)) hg h);cases h1:BY t.text.data.toList LL.data.toList;rotate_left;exact λh=>.inr (dt (.inl (OT h1)) hg h);cases h1:BY t.text.data.toList dF.data.toList;rotate_left;exact λh=>.inr (dt (.inr (.inl (OT h1))) hg h);cases h1:BY t.text.data.toList QT.data.toList;rotate_left;exact λh=>.inr (dt (.inr (.inr (.inl (OT h1)))) hg h);cases h1:BY t.text.data.toList Vy.data.toList;rotate_left;exact λh=>.inr (dt (.inr (.inr (.inr (OT h1)))) hg h);cases h1:BY t.text.data.toList KT.data.toList;rotate_left;exact λh=>.inl ⟨.inl (OT h1),h⟩;cases h1:BY t.text.data.toList FR.data.toList;rotate_left;exact λh=>.inl ⟨.inr (OT h1),h⟩;cases BY t.text.data.toList Ra.data.toList;rotate_left;exact λh=>.inr (A.vg _ (by simp) (by simp) hg h);cases BY t.text.data.toList T4.data.toList;rotate_left;exact λh=>.inr (Qu (P:=J5) (BK (A.vg _ (by simp) (by simp)) λa ha=>BK GU λ_ _=>D0 ha) hg h);exact λh=>.inr (Jb (P:=J5) hg h)
     rcases key with ⟨h1,h2⟩ | h1
     exact A.vc hg h1 h2;exact h1
   have h:X5 en (gP en q).1 (gP en q).2 (t::l)=some (.inl a,s):=h;unfold X5 Vc at h;dsimp only at h;exact Qu (P:=J5) (BK GU λ_ _=>BK (A.vg _ (by simp) (by simp)) λa ha=>BK GU λ_ _=>BK A.vli λl hl=>Wb (BK GU λ_ _=>D0 (alC ht ha hl))) hg h
def auF:Va J5 (M1 en):=λ_ _ _ hg h=>(aAK _).vg .ex (by simp) (by simp) hg h
def yU{kind:Int}:Va (λn=>KH n/\n.kind=kind) (IF en (M1 en) kind):=by
 refine lX λt _=>Qu (DM (λhk=>BK (uQ Tw) λl hl=>BK GU λ_ _=>D0 ⟨⟨⟨rfl,rfl,rfl,rfl,rfl,rfl,rfl,rfl⟩,λ_=>⟨?_,hl.2⟩,λh=>absurd (E8 hk) h⟩,rfl⟩) λhk=>BK auF λe he=>BK GU λ_ _=>D0 ⟨⟨⟨rfl,rfl,rfl,rfl,rfl,rfl,rfl,rfl⟩,λh=>absurd h (UL hk),λ_=>⟨rfl,eS he⟩⟩,rfl⟩);exact List.length_pos_iff.2 hl.1
def iG(k:Int)(l m:List Nd):Hf k (l++m)=Hf k l+Hf k m:=by
 induction l with
 | nil=>simp[Hf]
 | cons a l ih=>simp only[List.cons_append,Hf,ih];omega
def aiR{t1 t4:Tk}{n2:Int}(h4:Rx t4.text)(hn:1<=n2/\n2<=1000000){h:Nd}(hh:Ro h):∀(q:Nat) (cs:List Nd) (un am:Bool),kinds cs->(∀k∈cs,KH k)->Hf 8 cs=(if am then 1 else 0)->Hf 7 cs=(if un then 1 else 0) ->
   Va IC (Ir en (M1 en) (λl=>E9 4 t4.text bE n2 l t1.AH) q (h::cs) un am):=by
 intro q
 induction q with
 | zero=>intro cs un am _ _ _ _ _ _ _ _ h;cases h
 | succ q ih =>
   intro cs un am k1 k2 k3 k4
   have go:∀(kind:Int) (gQ gG:Bool),(6<=kind/\kind<=8)->(if am then 1 else 0)+(if kind=8 then 1 else 0)=(if gG then 1 else 0)->(if un then 1 else 0)+(if kind=7 then 1 else 0)=(if gQ then 1 else 0) ->
       Va IC (Cu (IF en (M1 en) kind) λc=>OP ((h::cs).length+1) (Ir en (M1 en) (λl=>E9 4 t4.text bE n2 l t1.AH) q (h::cs++[c]) gQ gG)):=by
     intro kind gQ gG hk h8 h7;refine BK yU λc hc=>Wb (ih (cs++[c]) gQ gG ?_ ?_ ?_ ?_);intro y hy;rcases List.mem_append.1 hy with hy | hy
     exact k1 y hy;rw[List.mem_singleton.1 hy,hc.2];exact hk;intro y hy;rcases List.mem_append.1 hy with hy | hy
     exact k2 y hy;rw[List.mem_singleton.1 hy];exact hc.1;rw[iG,k3];simp only[Hf,hc.2];omega;rw[iG,k4];simp only[Hf,hc.2];omega
   refine lX λt _=>DM (λ_=>go 6 un am (by decide) (by simp) (by simp)) λ_=>DM (λ_=>DM (λ_=>Jb) λhu=>go 7 true am (by decide) (by simp) (by simp[hu])) λ_ =>
     DM (λ_=>DM (λ_=>Jb) λha=>go 8 un true (by decide) (by simp[ha]) (by simp)) λ_=>DM (λ_=>DM (λha=>Qu (D0 (.inr (.inr ⟨rfl,hn,h4,⟨rfl,rfl,rfl,rfl,rfl,rfl,rfl,rfl⟩,h,cs,rfl,k1,by rw[k3,ha];rfl,?_,hh,k2⟩)))) λ_=>Jb) λ_=>Jb
   rw[k4];split<;>omega
def aqV:Va IC (P1 en (M1 en)):=by
 refine lX λt _=>DM (λ_=>uP) λ_=>DM (λ_=>uP) λ_=>DM (λ_=>?_) λ_=>Jb
 exact BK GU λt _=>BK (Qv _) λn hn=>BK GU λ_ _=>BK Mz λm hm=>BK aqU λh hh=>BK GU λ_ _ _ _ _ hg e =>
   aiR (Xp hm.1 hm.2) hn hh _ [] false false (λk hk=>by cases hk) (λk hk=>by cases hk) rfl rfl hg e
end
end Mo
end Go.Proofs.YtpbkhogolfegfaaGreatDoor
namespace Go.Proofs.YtpbkhogolfegfaaGreatDoor
open AI Go
namespace Mo
set_option maxRecDepth 100000
set_option maxHeartbeats 4000000
section
variable (n:Nd)
def O3:(KO n).kind=n.kind:=by rw[Mf]
def Xy:(KO n).name=n.name:=by rw[Mf]
def Xz:(KO n).unit=n.unit:=by rw[Mf]
def yD:(KO n).n=n.n:=by rw[Mf]
def atW:(KO n).fr=n.fr:=by rw[Mf]
def atX:(KO n).to=n.to:=by rw[Mf]
def lJ:(KO n).known=n.known:=by rw[Mf]
def qK:(KO n).Cz=n.Cz:=by rw[Mf]
def Mw:(KO n).kids=n.kids.map KO:=by rw[Mf]
end
def ahW:∀{l:List Nd},(∀k∈l,DB (KO k)=DB k/\M3 (KO k)=M3 k)->Ge (l.map KO)=Ge l/\Uq (l.map KO)=Uq l
 | [],_=>⟨rfl,rfl⟩
 | a::l,h=>by
   obtain⟨h1,h2⟩:=h a (by simp);obtain⟨h3,h4⟩:=ahW (l:=l) λk hk=>h k (by simp[hk]);simp only[List.map_cons,Ge,Uq,h1,h2,h3,h4,and_self]
def ayH{p:Nd->Prop}(h:∀n,(∀k∈n.kids,p k)->p n):∀(m:Nat) (n:Nd),DB n<=m->p n:=by
 intro m
 induction m with
 | zero=>intro n h;have:=EY n;omega
 | succ m ih =>
   intro n hn;have hsz:=EY n;exact h n λk hk=>ih k (by have:=LJ hk;omega)
def VR{p:Nd->Prop}(h:∀n,(∀k∈n.kids,p k)->p n)(n:Nd):p n:=ayH h (DB n) n (Nat.le_refl _)
def ahX(n:Nd):DB (KO n)=DB n/\M3 (KO n)=M3 n:=by
 refine VR (p:=λn=>DB (KO n)=DB n/\M3 (KO n)=M3 n) (λn ih=>?_) n;obtain⟨h1,h2⟩:=ahW (l:=n.kids) ih;rw[EY (KO n),NW (KO n),NW n,EY n,Mw,h1,h2];exact⟨rfl,rfl⟩
def aDV{n:Nd}:KU n->KU (KO n):=by
 refine VR (p:=λn=>KU n->KU (KO n)) (λn ih Xm=>?_) n;obtain⟨p1,p2,p3⟩:=(P8 n).1 Xm;rw[Mf];refine(P8 _).2 ⟨p1,by simpa using p2,λy hy=>?_⟩
 obtain⟨k,hk,rfl⟩:=List.mem_map.1 hy;exact ih k hk (p3 k hk)
def aAZ{n:Nd}{i:Nat}{q:Nd->Prop}(hq:∀k,q (KO k)↔q k):(∀k,(KO n).kids[i]?=some k->q k)↔∀k,n.kids[i]?=some k->q k:=by
 rw[Mw];constructor;intro h k hk;exact(hq k).1 (h _ (by rw[List.getElem?_map,hk];rfl));intro h k hk;rw[List.getElem?_map] at hk;obtain⟨y,hy,rfl⟩:=Option.map_eq_some_iff.1 hk;exact(hq y).2 (h y hy)
def TC{l:List Nd}{q:Nd->Prop}(hq:∀k∈l,q (KO k)↔q k):(∀k∈l.map KO,q k)↔∀k∈l,q k:=by
 constructor;intro h k hk;exact(hq k hk).1 (h _ (List.mem_map_of_mem hk));intro h k hk;obtain⟨y,hy,rfl⟩:=List.mem_map.1 hk;exact(hq y hy).2 (h y hy)
def afC(k:Nd):QV (KO k)↔QV k:=by unfold QV;rw[O3,Xz,yD]
def SI(n f:Nd):Gq (KO n) f↔Gq n f:=by unfold Gq;rw[Xy,Xz,yD,atW,atX,lJ,qK]
def avT(n:Nd):S7 (KO n)↔S7 n:=by
 unfold S7;rw[aAZ afC];simp only[SI,O3,Xz,yD,Xy,qK,Mw,List.length_map]
def nY(n:Nd):J5 (KO n)↔J5 n:=by
 refine VR (p:=λn=>J5 (KO n)↔J5 n) (λn ih=>?_) n;rw[Jh,Jh,avT,Mw,TC ih]
def UI(k:Int):∀l:List Nd,Hf k (l.map KO)=Hf k l
 | []=>rfl
 | a::l=>by rw[List.map_cons,Hf,Hf,O3,UI k l]
def aC(x:Nd):KH (KO x)↔KH x:=by
 unfold KH;rw[SI,O3,Mw,List.length_map,TC (λk _=>and_congr (nY k) (afC k)),TC (λk _=>nY k)]
def sF(x:Nd):Ro (KO x)↔Ro x:=by
 unfold Ro;simp only[SI,O3,yD,atW,atX,lJ,Mw,List.length_map]
def avA(n:Nd):vI (KO n)↔vI n:=by
 unfold vI;rw[SI,Xy,yD,Mw];refine and_congr_right λ_=>and_congr_right λ_=>and_congr_right λ_=>?_;cases n.kids with
 | nil=>exact⟨λ⟨h,cs,e,_⟩=>(nomatch e),λ⟨h,cs,e,_⟩=>(nomatch e)⟩
 | cons a l =>
   have hk:kinds (l.map KO)↔kinds l:=by unfold kinds;exact TC λk _=>by rw[O3]
   constructor;rintro⟨h,cs,e,h1,h2,h3,h4,h5⟩;rw[List.map_cons] at e;cases e;exact⟨a,l,rfl,hk.1 h1,by rwa[UI] at h2,by rwa[UI] at h3,(sF a).1 h4,(TC λk _=>aC k).1 h5⟩;rintro⟨h,cs,e,h1,h2,h3,h4,h5⟩;cases e;exact⟨KO a,l.map KO,rfl,hk.2 h1,by rwa[UI],by rwa[UI],(sF a).2 h4,(TC λk _=>aC k).2 h5⟩
def amV(n:Nd):IC (KO n)↔IC n:=by
 unfold IC;rw[avA];simp only[SI,O3,yD,Xy,Xz,Mw,List.length_map]
def ayS(n:Nd):okV (KO n)↔okV n:=by
 unfold okV;rw[SI,O3,nY,(ahX n).1,(ahX n).2,Mw,TC λk _=>amV k]
end Mo
end Go.Proofs.YtpbkhogolfegfaaGreatDoor
namespace Go.Proofs.YtpbkhogolfegfaaGreatDoor
open AI Go
namespace Mo
set_option maxRecDepth 100000
set_option maxHeartbeats 4000000
def sW{α:Type}{l:List α}{body:Nat->α->Unit->Option (Lp Unit Unit Bool)}{x:Option Bool}(hl:l.length<=9223372036854775807)(hb:∀i y,l[i]?=some y->body i y ()=some (.nx ())):(Rt l.length (CL body (λ_=>()) (l.drop 0) 0 ())).bind (LZ (λ(_:Unit)=>x) (λv=>some v))=x:=by
 have key:∀(m:List α) (i:Nat),(∀j y,m[j]?=some y->body (i+j) y ()=some (.nx ()))->CL body (λ_=>()) m i ()=some (.inl ()):=by
   intro m
   induction m with
   | nil=>intro i _;rfl
   | cons y m ih =>
     intro i h;rw[CL,show body i y ()=some (.nx ()) from h 0 y rfl,Option.bind_some];exact ih (i+1) λj z hz=>by rw[Nat.add_assoc,Nat.add_comm 1 j];exact h (j+1) z hz
 rw[show Rt l.length=λy:Option (Unit⊕Bool)=>y from funext λy=>if_pos hl,List.drop_zero,key l 0 (λj y hy=>by rw[Nat.zero_add];exact hb j y hy)];rfl
def kZ(x:Pc):PG x x=true:=by unfold PG;simp
def qF(f:Fn)(h:f.ps.length<=9223372036854775807):It f f=some true:=by
 rw[It,JK rfl,JK rfl];refine sW h (λi y hy=>?_);rw[Js,hy,Option.bind_some,kZ,cond_true]
def iP(x:ByteArray):BY x.data.toList x.data.toList=true:=by rw[TG];simp
def azM:∀(q:Nat) (e:Nd),DB e<=q->DB e<=1000000->ZY e->Hr q e e=some true:=by
 intro q
 induction q with
 | zero=>intro e h;have:=EY e;omega
 | succ q ih =>
   intro e hq hz ho;have he:=EY e;have hl:=My e.kids;obtain⟨h1,h2⟩:=(SR e).1 ho;rw[Hr,NG,JK rfl,iP,iP,JK rfl,JK rfl,JK rfl,JK rfl,JK rfl,qF _ (by omega),Option.bind_some,JK rfl];dsimp only[cond];refine sW (by omega) (λi y hy=>?_);have hm:=List.mem_of_getElem? hy;have:=LJ hm;rw[Mr,hy,Option.bind_some,ih y (by omega) (by omega) (h2 y hm),Option.bind_some,cond_true]
def agK{e:Nd}(hz:DB e<=1000000)(ho:ZY e):Gp e e=some true:=TH (DB e) λq hq=>azM q e hq hz ho
def agH:∀(q:Nat) (n:Nd),DB n<=q->DB n<=100000->FI q n=some (KO n):=by
 intro q
 induction q with
 | zero=>intro n h;have:=EY n;omega
 | succ q ih =>
   intro n hq hz;have hsz:=EY n;have hl:=My n.kids
   have key:∀(m:List Nd) (i:Nat) (acc:List Nd),(∀k∈m,k∈n.kids)->acc.length+m.length<=100000->CL (ρ:=Nd) (λi y x=>JW (FI q) i y x) (λx=>x) m i acc=some (.inl (acc++m.map KO)):=by
     intro m
     induction m with
     | nil=>intro i acc _ _;simp[CL]
     | cons y m ihm =>
       intro i acc hm hc;simp only[List.length_cons] at hc;have hy:=LJ (hm y (List.mem_cons_self ..));rw[CL,JW,ih y (by omega) (by omega),Option.bind_some,Ff (by omega),Option.bind_some];have:=ihm (i+1) (acc++[KO y]) (λk hk=>hm k (List.mem_cons_of_mem _ hk)) (by simp only[List.length_append,List.length_singleton];omega);dsimp only[PW];rw[this,List.append_assoc];rfl
   rw[FI,Ms,show Rt n.kids.length=λy:Option (List Nd⊕Nd)=>y from funext λy=>if_pos (by omega),List.drop_zero,key n.kids 0 [] (λ_ h=>h) (by simp only[List.length_nil];omega),Mf];rfl
def agI{n:Nd}(hz:DB n<=100000):Mt n=some (KO n):=TH (DB n) λq hq=>agH q n hq hz
end Mo
end Go.Proofs.YtpbkhogolfegfaaGreatDoor
namespace Go.Proofs.YtpbkhogolfegfaaGreatDoor
open AI Go
namespace Mo
set_option maxRecDepth 100000
set_option maxHeartbeats 4000000
def azZ{f:Fn}(h:lN f):∀(i:Nat) p,f.ps[i]?=some p->0<=p.fr:=by
 intro i
 induction i with
 | zero=>intro p hp;rw[h.2.2.1 p hp];omega
 | succ i ih =>
   intro p hp;have hi:i < f.ps.length:=by have:=(List.getElem?_eq_some_iff.1 hp).1;omega
   have h1:=(h.2.2.2 (i+1) p hp).2.1 f.ps[i] (by omega) (List.getElem?_eq_getElem hi);have:=ih _ (List.getElem?_eq_getElem hi);omega
def ahY{f:Fn}(h:lN f):pL f/\f.ps.length<=64:=by
 refine⟨⟨by have:=h.2.1;omega,λy hy=>?_⟩,h.2.1.2⟩;obtain⟨i,hi⟩:=List.getElem?_of_mem hy;have h0:=azZ h i y hi;obtain⟨a1,_,_,a4,a5,a6,a7⟩:=h.2.2.2 i y hi;have hr:=h.1;unfold PE at hr;rw[IQ (by omega)] at a4;rw[IQ (by omega)] at a5;exact⟨⟨by omega,by omega⟩,⟨by omega,by omega⟩,by omega,by omega⟩
def Lw{f:Fn}(h:f.ps=[]):pL f/\f.ps.length<=64:=by
 unfold pL;rw[h];exact⟨⟨by simp,λy hy=>(by cases hy)⟩,by simp⟩
def alO{n:Nd}(h:S7 n):pL n.Cz/\n.Cz.ps.length<=64:=by
 unfold S7 at h;rcases h with h | h | h | h | h | h | h | h
 exact Lw h.2.2.2.2.2.2.2.2.2.2.2.2.2;exact Lw h.2.2.2.2.2.2.2.2.2.2;exact Lw h.2.2.2.2.2.2.2.2.2.2;exact Lw h.2.2.2.2.2.2.2.2.2.2;exact Lw h.2.2.2.2.2.2.2.2.2;exact Lw h.2.1.2.2.2.2.2.2.2;exact Lw h.2.2.1.2.2.2.2.2.2.2;exact ahY h.2.2.1
def rN(n:Nd):J5 n->DB n<=1000000->KU n/\ZY n:=by
 refine VR (p:=λn=>J5 n->DB n<=1000000->KU n/\ZY n) (λn ih h hz=>?_) n;obtain⟨h1,h2⟩:=(Jh n).1 h;obtain⟨t1,t2⟩:=alO h1;have hs:=EY n;have hl:=My n.kids;exact⟨(P8 n).2 ⟨t1,by omega,λk hk=>(ih k hk (h2 k hk) (by have:=SW hk;omega)).1⟩,(SR n).2 ⟨by omega,λk hk=>(ih k hk (h2 k hk) (by have:=SW hk;omega)).2⟩⟩
def SQ{n:Nd}(ht:n.Cz.ps=[])(hk:n.kids.length=0):KU n/\ZY n:=by
 have:=List.eq_nil_of_length_eq_zero hk;obtain⟨t1,t2⟩:=Lw ht;exact⟨(P8 n).2 ⟨t1,by omega,by rw[this];exact λk hk=>(by cases hk)⟩,(SR n).2 ⟨by omega,by rw[this];exact λk hk=>(by cases hk)⟩⟩
def VS{n:Nd}(ht:n.Cz.ps=[])(hz:DB n<=1000000)(hk:∀k∈n.kids,KU k/\ZY k):KU n/\ZY n:=by
 obtain⟨t1,t2⟩:=Lw ht;have hs:=EY n;have hl:=My n.kids;exact⟨(P8 n).2 ⟨t1,by omega,λk h=>(hk k h).1⟩,(SR n).2 ⟨by omega,λk h=>(hk k h).2⟩⟩
def iE{n:Nd}(h:KH n)(hz:DB n<=1000000):KU n/\ZY n:=by
 refine VS h.1.2.2.2.2.2.2.2 hz λk hk=>rN k ?_ (by have:=SW hk;omega);by_cases h7:n.kind=7;exact((h.2.1 h7).2 k hk).1;exact(h.2.2 h7).2 k hk
def wR{n:Nd}(h:IC n)(hz:DB n<=1000000):KU n/\ZY n:=by
 rcases h with h | h | h
 exact SQ h.2.2.2.2.2.2.2.2.2.2.2 h.2.2.2.1;exact SQ h.2.2.2.2.2.2.2.2.2.2.2.2.2 h.2.2.2.2.2.1;obtain⟨_,_,hb,hd,cs,hk,_,_,_,hh,hc⟩:=h.2;refine VS hb.2.2.2.2.2.2.2 hz λk hm=>?_;have:=SW hm;rw[hk] at hm;rcases List.mem_cons.1 hm with rfl | hm
 exact SQ hh.2.2.2.2.2.2.2.2.2.2.2.2.2 hh.2.2.1;exact iE (hc k hm) (by omega)
def bC{ks:List Nd}(h:∀k∈ks,IC k)(hz:Ge ks<=10000):KU (Gw ks)/\ZY (Gw ks):=by
 refine VS rfl (by have:=EY (Gw ks);rw[show DB (Gw ks)=1+Ge ks from rfl];omega) λk hk=>wR (h k hk) (by have:=LJ (show k∈ks from hk);omega)
def qB{ks:List Nd}(h:∀k∈ks,IC k)(hz:DB (Gw ks)<=2000)(hd:M3 (Gw ks)<=40):okV (Gw ks):=⟨.inl ⟨rfl,⟨rfl,rfl,rfl,rfl,rfl,rfl,rfl,rfl⟩,h⟩,hz,hd⟩
def sA{l:List Tk}(h:Gx l)(k:Nat):Gx (l.drop k):=λt ht=>h t (List.mem_of_mem_drop ht)
def aiD{en:Int}:∀(q:Nat) (l:List Tk) (ks:List Nd) (ds:List Dg) (r:List Nd×List Dg),Gx l->l.length<=10000->(∀k∈ks,IC k)->I9 en q l ks ds=some r->∀k∈r.1,IC k:=by
 intro q
 induction q with
 | zero=>intro l ks ds r _ _ _ h;cases h
 | succ q ih =>
   intro l ks ds r hg hl hk h;cases l with
   | nil=>cases h;exact hk
   | cons t l =>
     unfold I9 at h;cases hd:Et ((ds.length:Nat):Int) 20 with
     | false=>rw[hd] at h;cases h;exact hk
     | true =>
       rw[hd] at h;dsimp only[cond] at h;split at h;cases h;rename_i n s hi;obtain⟨hn,hs⟩:=aqV hg hi;obtain⟨⟨j,rfl⟩,_⟩:=L9 (λt ht=>(hg t ht).1) hl hi;refine ih _ _ _ _ hs (by rw[List.length_drop];omega) (λk hm=>?_) h;rcases List.mem_append.1 hm with hm | hm
       exact hk k hm;rw[List.mem_singleton.1 hm];exact hn;rename_i d s hi;obtain⟨⟨k,rfl⟩,_⟩:=L9 (λt ht=>(hg t ht).1) hl hi;obtain⟨j,hj⟩:=Qm ((t::l).drop k);rw[hj] at h;exact ih _ _ _ _ (sA (sA hg k) j) (by simp only[List.length_drop];omega) hk h
def U7{s:ByteArray}{n:Nd}{ds:List Dg}(h:Cf s=some (n,ds)) :
   (ds≠[]/\n=z0/\ds.length<=20)\/(ds=[]/\∃ks,Pp s=0/\I9 ((s.data.toList.length:Nat):Int) ((DY s).length+1) (DY s) [] []=some (ks,[])/\n=Gw ks/\(∀k∈ks,IC k)/\DB n<=2000/\M3 n<=40):=by
 by_cases he:Pp s=0
 · obtain⟨ks,ds',h1,h2,h3,h4⟩:=Xt he
   rw[h] at h2;have hv:=aiD _ _ _ _ _ (fQ s) (by have:=(Mg s).2;omega) (λk hk=>by cases hk) h1;cases ds' with
   | nil =>
     unfold vH aeR at h2;by_cases hc:2000 < DB (Gw ks)\/40 < M3 (Gw ks);rw[if_pos hc] at h2;simp only[Option.some.injEq,Prod.mk.injEq] at h2;obtain⟨rfl,rfl⟩:=h2;exact .inl ⟨by simp,rfl,by simp⟩;rw[if_neg hc] at h2;simp only[Option.some.injEq,Prod.mk.injEq] at h2;obtain⟨rfl,rfl⟩:=h2;exact .inr ⟨rfl,ks,he,h1,rfl,hv,by omega,by omega⟩
   | cons d ds'=>cases h2;exact .inl ⟨by simp,rfl,h4⟩
 rw[aY he] at h;cases h;exact .inl ⟨by simp,rfl,by simp⟩
def aX(s:ByteArray):∃n ds,Cf s=some (n,ds):=by
 by_cases he:Pp s=0;obtain⟨ks,ds',h1,h2,_⟩:=Xt he;exact⟨_,_,h2⟩;exact⟨_,_,aY he⟩
end Mo
end Go.Proofs.YtpbkhogolfegfaaGreatDoor
namespace Go.Proofs.YtpbkhogolfegfaaGreatDoor
open AI Go
namespace Mo
set_option maxRecDepth 100000
mutual
def Ur(hi:Int):Nd->Prop
 | ⟨_,_,_,_,_,_,_,_,kids,AH⟩=>AH<=hi/\orL hi AH kids
def orL(hi lo:Int):List Nd->Prop
 | []=>True
 | k::ks=>(lo<=k.AH/\Ur hi k)/\orL hi lo ks
end
def anQ{hi lo:Int}{l:List Nd}:orL hi lo l↔∀k∈l,lo<=k.AH/\Ur hi k:=by
 induction l with
 | nil=>simp[orL]
 | cons k l ih=>simp[orL,ih]
def J9{hi:Int}(n:Nd):Ur hi n↔n.AH<=hi/\∀k∈n.kids,n.AH<=k.AH/\Ur hi k:=by cases n;rw[Ur,anQ]
def So(hi:Int):List Tk->Prop
 | []=>True
 | t::s=>t.AH<=hi/\(∀u∈s,t.AH<=u.AH)/\So hi s
def Lo(l:List Tk)(x:Int):Prop:=∀t∈l,x<=t.AH
section
variable {α β:Type} {hi x y:Int} {P:α->List Tk->Prop} {P2:β->List Tk->Prop}
def Vo(hi x:Int)(P:α->List Tk->Prop)(m:Rd α):Prop:=∀⦃l:List Tk⦄ ⦃a:α⦄ ⦃s:List Tk⦄,So hi l->Lo l x->m l=some (.inl a,s)->P a s/\So hi s/\Lo s x
def Ca{m:Rd α}{K:α->Rd β}(h1:Vo hi x P m)(h2:∀a,(∃l,P a l)->Vo hi x P2 (K a)):Vo hi x P2 (Cu m K):=by
 intro l b s hs hl h;rcases Jg h with ⟨a,s',e1,e2⟩ | ⟨d,_,h⟩
 obtain⟨p,a1,a2⟩:=h1 hs hl e1;exact h2 a ⟨_,p⟩ a1 a2 e2;cases h
def SC(key:α->Int){m:Rd α}{K:α->Rd β}(h1:Vo hi x P m)(hk:∀a l,P a l->x<=key a/\Lo l (key a))(h2:∀a,(∃l,P a l)->Vo hi (key a) P2 (K a)):Vo hi x P2 (Cu m K):=by
 intro l b s hs hl h;rcases Jg h with ⟨a,s',e1,e2⟩ | ⟨d,_,h⟩
 obtain⟨p,a1,_⟩:=h1 hs hl e1;obtain⟨k1,k2⟩:=hk a _ p;obtain⟨q,b1,b2⟩:=h2 a ⟨_,p⟩ a1 k2 e2;exact⟨q,b1,λt ht=>Int.le_trans k1 (b2 t ht)⟩;cases h
def D9{a:α}(h:∀s,Lo s x->P a s):Vo hi x P (FQ a):=by
 intro l b s hs hl e;obtain⟨e1,rfl⟩:=LG e;cases e1;exact⟨h _ hl,hs,hl⟩
def Jc{e p:Int}:Vo hi x P (MW e p):=by
 intro l b s _ _ h;obtain⟨h,_⟩:=Ng h;cases h
def OD{X:Option β}{K:β->Rd α}(h:∀b,X=some b->Vo hi x P (K b)):Vo hi x P (LU X K):=by
 intro l a s hs hl e;obtain⟨b,hb,e⟩:=Jj e;exact h b hb hs hl e
def uV{en:Int}{K:Tk->Rd α}(h:∀t,x<=t.AH->t.AH<=hi->Vo hi t.AH P (K t)):Vo hi x P (Vc en K):=by
 intro l a s hs hl e;cases l with
 | nil=>cases e
 | cons t l =>
   have hx:=hl t (List.mem_cons_self ..)
   obtain⟨p,b1,b2⟩:=h t hx hs.1 hs (λu hu=>by
     rcases List.mem_cons.1 hu with rfl | hu
     exact Int.le_refl _;exact hs.2.1 u hu) e
   exact⟨p,b1,λu hu=>Int.le_trans hx (b2 u hu)⟩
def RB{K:Rd α}(h:Vo hi x P K):Vo hi x P (Vz K):=by
 intro l a s hs hl e;cases l with
 | nil=>cases e
 | cons t l=>exact h hs.2.2 (λu hu=>hl u (List.mem_cons_of_mem _ hu)) e
def Cs{b:Bool}{A B:Rd α}(h1:Vo hi x P A)(h2:Vo hi x P B):Vo hi x P (cond b A B):=by cases b;exact h2;exact h1
def We{t:ByteArray}{A B:Rd α}(h1:Vo hi x P A)(h2:Vo hi x P B):Vo hi x P (Ot t A B):=by
 intro l a s hs hl e;unfold Ot at e;cases hx:Ju t l with
 | true=>rw[hx] at e;exact RB h1 hs hl e
 | false=>rw[hx] at e;exact h2 hs hl e
def Wd{n:Nat}{m:Rd α}(h:Vo hi x P m):Vo hi x P (OP n m):=λ_ _ _ hs hl e=>h hs hl (N7 e).2
end
section
variable {hi x y en:Int}
abbrev PT(hi x:Int):Tk->List Tk->Prop:=λt s=>x<=t.AH/\t.AH<=hi/\Lo s t.AH
abbrev PA(hi x:Int):Int×Int->List Tk->Prop:=λp s=>x<=p.2/\p.2<=hi/\Lo s p.2
abbrev PN(hi x:Int):Nd->List Tk->Prop:=λn s=>Ur hi n/\x<=n.AH/\Lo s n.AH
abbrev T2{α:Type}:α->List Tk->Prop:=λ_ _=>True
def MA{f:Tk->Option Bool}:Vo hi x (PT hi x) (LK en f):=uV λt h1 h2=>OD λb _=>Cs (RB (D9 λs hs=>⟨h1,h2,hs⟩)) Jc
def GV{b:ByteArray}:Vo hi x (PT hi x) (JL en b):=MA
def cD:Vo hi x (PA hi x) (Ny en):=SC (λt=>t.AH) MA (λt l h=>⟨h.1,h.2.2⟩) λt ⟨_,h1,h2,_⟩=>OD λn _=>D9 λs hs=>⟨h1,h2,hs⟩
def Qy{least:Int}:Vo hi x (PA hi x) (Me en least):=SC (λp=>p.2) cD (λp l h=>⟨h.1,h.2.2⟩) λp ⟨_,h1,h2,_⟩=>Cs Jc (Cs Jc (D9 λs hs=>⟨h1,h2,hs⟩))
def XH{least:Int}:Vo hi x T2 (R6 en least):=Ca MA λt _=>OD λd _=>Cs (Cs Jc (D9 λ_ _=>trivial)) Jc
def Jk{k n p:Int}{nm u:ByteArray}{ks:List Nd}(hp:p<=hi)(h:∀a∈ks,p<=a.AH/\Ur hi a):Ur hi (E9 k nm u n ks p):=(J9 _).2 ⟨hp,h⟩
def KL{p:Int}:∀a∈([]:List Nd),p<=a.AH/\Ur hi a:=λa ha=>(by cases ha)
def aeF{p:Int}{k:Nd}(h:p<=k.AH/\Ur hi k):∀a∈[k],p<=a.AH/\Ur hi a:=λa ha=>by rw[List.mem_singleton.1 ha];exact h
def arA:Vo hi x (PN hi x) (Wt en) :=
 SC (λt=>t.AH) GV (λt l h=>⟨h.1,h.2.2⟩) λt ⟨_,h1,h2,_⟩=>Ca Qy λn _=>Ca GV λ_ _=>Ca XH λf _ =>
   We (Ca XH λu _=>Ca GV λ_ _=>Ca XH λk _=>D9 λs hs=>⟨(J9 _).2 ⟨h2,KL⟩,h1,hs⟩) (Ca GV λ_ _=>Ca XH λk _=>D9 λs hs=>⟨(J9 _).2 ⟨h2,KL⟩,h1,hs⟩)
def uT:Vo hi x (PN hi x) (R7 en) :=
 uV λt h1 h2=>RB (Ca MA λm _=>Ca GV λ_ _=>Ca MA λu _=>Cs (Ca MA λr _=>OD λn _=>Ca GV λ_ _=>D9 λs hs=>⟨Jk h2 KL,h1,hs⟩) (Ca GV λ_ _=>D9 λs hs=>⟨Jk h2 KL,h1,hs⟩))
def Tx:Vo hi x (PN hi x) (Gs en):=SC (λp=>p.2) Qy (λp l h=>⟨h.1,h.2.2⟩) λp ⟨_,h1,h2,_⟩=>D9 λs hs=>⟨Jk h2 KL,h1,hs⟩
abbrev PL(hi x:Int):List Nd->List Tk->Prop:=λl _=>∀a∈l,x<=a.AH/\Ur hi a
def arC{read:Rd Nd}(hr:Vo hi x (PN hi x) read):∀(q:Nat) (ns:List Nd),(∀a∈ns,x<=a.AH/\Ur hi a)->Vo hi x (PL hi x) (Ru read q ns):=by
 intro q
 induction q with
 | zero=>intro ns _ _ _ _ _ _ h;cases h
 | succ q ih =>
   intro ns h;refine We (Ca hr λn ⟨_,h1,h2,_⟩=>Wd (ih _ λa ha=>?_)) (D9 λ_ _=>h);rcases List.mem_append.1 ha with ha | ha
   exact h a ha;rw[List.mem_singleton.1 ha];exact⟨h2,h1⟩
def uU{read:Rd Nd}(hr:Vo hi x (PN hi x) read):Vo hi x (PL hi x) (Sf read) :=
 Ca hr λn ⟨_,h1,h2,_⟩ _ _ _ hs hl h=>arC hr _ [n] (aeF ⟨h2,h1⟩) hs hl h
def Zw:Vo hi x T2 (OC en):=Ca MA λt _=>OD λc _=>Cs (Cs (D9 λ_ _=>trivial) Jc) (D9 λ_ _=>trivial)
def arD:Vo hi x T2 (WN en):=Ca MA λt _=>Cs (D9 λ_ _=>trivial) (D9 λ_ _=>trivial)
def cF{c a b:Int}:Vo hi x T2 (O0 en c a b):=Ca arD λs _=>Ca Qy λm _=>Ca GV λ_ _=>Ca Qy λd _=>OD λg _=>OD λz _=>Cs Jc (D9 λ_ _=>trivial)
def cE{c a:Int}:Vo hi x T2 (NE en c a):=Ca GV λ_ _=>We (Ca Zw λa _=>cF) (Ca Zw λa _=>cF)
def aiV{b:List Pt}{c:Int}:Vo hi x T2 (Sk en b c):=Ca Zw λv _=>Cs (Cs cE Jc) (OD λq _=>Cs Jc (Cs Jc cE))
def zD:∀(q:Nat) (l:List Pt) (c:Int),Vo hi x T2 (Mp en q l c):=by
 intro q
 induction q with
 | zero=>intro l c _ _ _ _ _ h;cases h
 | succ q ih=>intro l c;exact Ca aiV λp _=>Wd (We (ih _ _) (D9 λ_ _=>trivial))
def zE{c p:Int}:∀(l:List Pt) (acc:List Pc),Vo hi x T2 (Mv c p l acc):=by
 intro l
 induction l with
 | nil=>intro acc;exact D9 λ_ _=>trivial
 | cons a l ih=>intro acc;exact OD λz _=>Cs Jc (Cs Jc (Wd (ih _)))
def vQ{op:ByteArray}{l r b:Nd}(hl:Ur hi l)(hr:Ur hi r)(h:l.AH<=r.AH)(e:Bb op l r=some b):Ur hi b/\b.AH=l.AH:=by
 have ha:=((J9 l).1 hl).1
 have two:∀a∈[l,r],l.AH<=a.AH/\Ur hi a:=λa ha=>by
   simp only[List.mem_cons,List.not_mem_nil,or_false] at ha;rcases ha with rfl | rfl
   exact⟨Int.le_refl _,hl⟩;exact⟨h,hr⟩
 have aEY:∀a∈[r,l],l.AH<=a.AH/\Ur hi a:=λa ha=>two a (by simp only[List.mem_cons,List.not_mem_nil,or_false] at ha ⊢;exact ha.symm);unfold Bb at e;revert e;cases BY op.data.toList IK.data.toList;cases BY op.data.toList Fy.data.toList;intro h;cases h;exact⟨(J9 _).2 ⟨ha,two⟩,rfl⟩;cases JX op IK JC 1 with
 | none=>intro h;cases h
 | some y=>intro h;cases h;exact⟨(J9 _).2 ⟨ha,aEY⟩,rfl⟩
 cases JX op IK JC 1 with
 | none=>intro h;cases h
 | some y=>intro h;cases h;exact⟨(J9 _).2 ⟨ha,aEY⟩,rfl⟩
def auH{α:Type}{P:α->List Tk->Prop}{yes:ByteArray->Rd α}{no:Rd α}(h1:∀t,Vo hi x P (yes t))(h2:Vo hi x P no):∀ops:List ByteArray,Vo hi x P (nA yes no ops):=by
 intro ops
 induction ops with
 | nil=>exact h2
 | cons t ops ih=>exact We (h1 t) ih
def Vx(hi:Int)(m:Rd Nd):Prop:=∀x,Vo hi x (PN hi x) m
def mA{sub:Rd Nd}(h:Vx hi sub)(op:ByteArray){l:Nd}(hl:Ur hi l):Vo hi l.AH (λb _=>Ur hi b/\b.AH=l.AH) (Q5 en sub op l) :=
 Ca (P:=PN hi l.AH) (Cs Tx (h _)) λr ⟨_,h1,h2,_⟩=>OD λb hb=>D9 λ_ _=>vQ hl h1 h2 hb
def aiT{ops:List ByteArray}{sub:Rd Nd}(h:Vx hi sub):∀(q:Nat) (l:Nd),Ur hi l->x<=l.AH->Vo hi l.AH (PN hi x) (Ln en ops sub q l):=by
 intro q
 induction q with
 | zero=>intro l _ _ _ _ _ _ _ h;cases h
 | succ q ih =>
   intro l hl hx;refine auH (λt=>Ca (mA h t hl) λb ⟨_,h1,h2⟩=>?_) (D9 λs hs=>⟨hl,hx,hs⟩) ops;rw[<- h2];exact ih b h1 (by omega)
structure VoE(hi:Int)(g:Ek->Rd Nd)(li:Rd (List Nd)):Prop where
 og:∀e,(∀t,e≠.wd t)->Vx hi (g e)
 ow:∀⦃t:Tk⦄ ⦃l s:List Tk⦄ ⦃a:Nd⦄ (x:Int),So hi (t::l)->x<=t.AH->g (.wd t) (t::l)=some (.inl a,s)->PN hi x a s/\So hi s/\Lo s x
 oli:∀x,Vo hi x (PL hi x) li
def aAM:∀q:Nat,VoE hi (gP en q).1 (gP en q).2:=by
 intro q
 induction q with
 | zero =>
   constructor;intro e _ x _ _ _ _ _ h;cases h;intro _ _ _ _ x _ _ h;cases h;intro x _ _ _ _ _ h;cases h
 | succ q A =>
   have lo1:∀{t:Tk} {l:List Tk},So hi (t::l)->Lo (t::l) t.AH:=λ{t l} hs u hu=>by
     rcases List.mem_cons.1 hu with rfl | hu
     exact Int.le_refl _;exact hs.2.1 u hu
   have down:∀{x y:Int} {a:Nd} {s:List Tk},x<=y->PN hi y a s/\So hi s/\Lo s y->PN hi x a s/\So hi s/\Lo s x:=λhxy ⟨⟨a1,a2,a3⟩,a4,a5⟩=>⟨⟨a1,Int.le_trans hxy a2,a3⟩,a4,λu hu=>Int.le_trans hxy (a5 u hu)⟩;refine⟨λe hw x=>?_,λt l s a x hs hx h=>?_,λx=>uU (A.og .ex (by simp) x)⟩;rotate_left;have h:RC en (gP en q).1 t (t::l)=some (.inl a,s):=h;have ht:=hs.1;have dt:Vo hi t.AH (PN hi t.AH) (UJ t):=RB (D9 λs hs=>⟨Jk ht KL,Int.le_refl _,hs⟩);have nd:∀(k n:Int) (nm u:ByteArray),Vo hi t.AH (PN hi t.AH) (Vz (FQ (E9 k nm u n [] t.AH))):=λ_ _ _ _=>RB (D9 λs hs=>⟨Jk ht KL,Int.le_refl _,hs⟩);refine down hx ((show Vo hi t.AH (PN hi t.AH) (RC en (gP en q).1 t) from ?_) hs (lo1 hs) h)
   exact Cs (nd _ _ _ _) (Cs (nd _ _ _ _) (Cs (RB (Ca Qy λp _=>D9 λs hs=>⟨Jk ht KL,Int.le_refl _,hs⟩)) (Cs dt (Cs dt (Cs dt (Cs dt (Cs (A.og .ca (by simp) _) (Cs (A.og .ca (by simp) _) (Cs (A.og .ta (by simp) _)
     (Cs (RB (SC (λn=>n.AH) (A.og .ex (by simp) _) (λn l h=>h.2) λn ⟨_,h1,h2,_⟩=>Ca GV λ_ _=>D9 λs hs=>⟨h1,h2,hs⟩)) Jc))))))))))
   show Vo hi x (PN hi x) (O4 en (gP en q).1 (gP en q).2 e);have lv:∀i,Vo hi x (PN hi x) (N6 en (gP en q).1 i):=λi=>SC (λn=>n.AH) (A.og (.lv _) (by simp) x) (λn l h=>h.2) λN ⟨_,h1,h2,_⟩ _ _ _ hs hl h=>aiT (A.og (.lv _) (by simp)) _ N h1 h2 hs hl h;unfold O4;split;exact A.og (.lv _) (by simp) x
   · intro l a s hs hl h
     unfold YS at h;cases hx:Ju U3 l with
     | true =>
       rw[hx] at h;exact SC (P2:=PN hi x) (λt=>t.AH) GV (λt l h=>⟨h.1,h.2.2⟩) (λt ⟨_,h1,h2,_⟩=>Ca (A.og (.lv _) (by simp) _) λk ⟨_,h3,h4,_⟩=>D9 λs hs=>⟨Jk h2 (aeF ⟨h4,h3⟩),h1,hs⟩) hs hl h
     | false=>rw[hx] at h;exact A.og (.lv _) (by simp) x hs hl h
   refine SC (λn=>n.AH) (A.og (.lv _) (by simp) x) (λn l h=>h.2) λN ⟨_,h1,h2,_⟩=>auH (λt=>?_) (D9 λs hs=>⟨h1,h2,hs⟩) _;intro l b s hs hl h;obtain⟨⟨a1,a2⟩,a3,a4⟩:=mA (A.og (.lv _) (by simp)) t h1 hs hl h;exact⟨⟨a1,by omega,by rw[a2];exact a4⟩,a3,a4⟩;exact A.og .at_ (by simp) x;exact lv _
   · intro l b s hs hl h
     cases l with
     | nil=>cases h
     | cons t l =>
       have h1:=hl t (List.mem_cons_self ..);have h2:=hs.1;unfold X0 Vc at h;dsimp only at h;cases hk3:CV t.kind 3 with
       | true =>
         rw[hk3] at h;exact SC (P2:=PN hi x) (λp=>p.2) cD (λp l h=>⟨h.1,h.2.2⟩) (λn ⟨_,h3,h4,_⟩=>We (D9 λs hs=>⟨Jk h4 KL,h3,hs⟩) (D9 λs hs=>⟨Jk h4 KL,h3,hs⟩)) hs hl h
       | false =>
         rw[hk3] at h;dsimp only[cond] at h;cases hk:CV t.kind 2 with
         | true =>
           rw[hk] at h;dsimp only at h;have hv:Vo hi t.AH (PN hi t.AH) (Vz (Cu (LK en D4) λa=>LU (Cr a) λc=>FQ (E9 11 bE t.text c [] t.AH))):=RB (Ca MA λa _=>OD λz _=>D9 λs hs=>⟨Jk h2 KL,Int.le_refl _,hs⟩);exact down h1 (hv hs (lo1 hs) h)
         | false =>
           rw[hk] at h;obtain⟨c,hc,h⟩:=Jj h;cases c with
           | true=>exact down h1 (RB (P:=PN hi t.AH) (D9 λs hs=>⟨Jk h2 KL,Int.le_refl _,hs⟩) hs (lo1 hs) h)
           | false=>exact A.ow x hs h1 h
   rename_i t;exact absurd rfl (hw t)
   exact uV λt h1 h2=>RB (Ca GV λ_ _=>Ca (A.og .ex (by simp) _) λa ⟨_,h3,h4,_⟩=>Ca GV λ_ _=>Ca (A.oli _) λl ⟨_,hl⟩=>Wd (Ca GV λ_ _=>D9 λs hs=>⟨Jk h2 (λk hk=>by
     rcases List.mem_cons.1 hk with rfl | hk
     exact⟨h4,h3⟩;exact hl k hk),h1,hs⟩))
   exact SC (λt=>t.AH) GV (λt l h=>⟨h.1,h.2.2⟩) λt ⟨_,h1,h2,_⟩=>Ca GV λ_ _=>Ca (A.og .ex (by simp) _) λa ⟨_,h3,h4,_⟩=>Ca GV λ_ _=>Ca (P:=T2) (λ_ _ _ hs hl h=>zD _ _ _ hs hl h) λl _=>Ca GV λe _=>Wd (Ca (zE _ _) λr _=>D9 λs hs=>⟨(J9 _).2 ⟨h2,aeF ⟨h4,h3⟩⟩,h1,hs⟩)
end
end Mo
end Go.Proofs.YtpbkhogolfegfaaGreatDoor
namespace Go.Proofs.YtpbkhogolfegfaaGreatDoor
open AI Go LexS
namespace Mo
set_option maxRecDepth 100000
set_option maxHeartbeats 4000000
section
variable {hi x en:Int}
def aEZ:Vx hi (M1 en):=λx _ _ _ hs hl h=>(aAM _).og .ex (by simp) x hs hl h
def zA{kind:Int}:Vo hi x (PN hi x) (IF en (M1 en) kind) :=
 uV λt h1 h2=>RB (Cs (Ca (uU Tx) λl ⟨_,hl⟩=>Ca GV λ_ _=>D9 λs hs=>⟨Jk h2 hl,h1,hs⟩) (Ca (aEZ _) λe ⟨_,h3,h4,_⟩=>Ca GV λ_ _=>D9 λs hs=>⟨Jk h2 (aeF ⟨h4,h3⟩),h1,hs⟩))
def aiU{y:Int}{mk:List Nd->Nd}(hy:x<=y)(hm:∀l,(mk l).AH=y/\(mk l).kids=l)(hh:y<=hi):∀(q:Nat) (ns:List Nd) (un am:Bool),(∀a∈ns,y<=a.AH/\Ur hi a)->Vo hi y (PN hi x) (Ir en (M1 en) mk q ns un am):=by
 intro q
 induction q with
 | zero=>intro ns un am _ _ _ _ _ _ h;cases h
 | succ q ih =>
   intro ns un am hn
   have go:∀(kind:Int) (gQ gG:Bool),Vo hi y (PN hi x) (Cu (IF en (M1 en) kind) λc=>OP (ns.length+1) (Ir en (M1 en) mk q (ns++[c]) gQ gG)):=λkind gQ gG =>
     Ca zA λc ⟨_,h1,h2,_⟩=>Wd (ih _ _ _ λa ha=>by
       rcases List.mem_append.1 ha with ha | ha
       exact hn a ha;rw[List.mem_singleton.1 ha];exact⟨h2,h1⟩)
   have fin:Vo hi y (PN hi x) (Vz (FQ (mk ns))):=RB (D9 λs hs=>⟨(J9 _).2 ⟨by rw[(hm ns).1];exact hh,by rw[(hm ns).1,(hm ns).2];exact hn⟩,by rw[(hm ns).1];exact hy,by rw[(hm ns).1];exact hs⟩);intro l a s hs hl h;cases l with
   | nil=>cases h
   | cons t l =>
     unfold Ir Vc at h;dsimp only at h;exact Cs (go _ _ _) (Cs (Cs Jc (go _ _ _)) (Cs (Cs Jc (go _ _ _)) (Cs (Cs fin Jc) Jc))) hs hl h
def arB:Vo hi x (PN hi x) (P1 en (M1 en)):=by
 intro l a s hs hl h;cases l with
 | nil=>cases h
 | cons t l =>
   unfold P1 Vc at h;dsimp only at h
   have art:Vo hi x (PN hi x) (MD en (M1 en)):=SC (λt=>t.AH) GV (λt l h=>⟨h.1,h.2.2⟩) λt ⟨_,h1,h2,_⟩=>Ca Qy λn _=>Ca GV λ_ _=>Ca MA λm _=>Ca arA λhd ⟨_,h3,h4,_⟩=>Ca GV λ_ _ =>
     λ_ _ _ hs hl h=>aiU h1 (λl=>⟨rfl,rfl⟩) h2 _ [hd] false false (aeF ⟨h4,h3⟩) hs hl h
   exact Cs uT (Cs uT (Cs art Jc)) hs hl h
end
def akO:∀(n o:Nat) (t:List UInt8) (hi:Int),((o+t.length:Nat):Int)<=hi->So hi ((Iz n o t).map IH)/\∀u∈(Iz n o t).map IH,(o:Int)<=u.AH:=by
 intro n
 induction n with
 | zero=>intro o t hi _;exact⟨trivial,λu hu=>(by cases hu)⟩
 | succ n ih =>
   intro o t hi h;unfold Iz;split;exact⟨trivial,λu hu=>(by cases hu)⟩;split;refine⟨⟨by show((o:Nat):Int)<=hi;omega,λu hu=>(by cases hu),trivial⟩,λu hu=>?_⟩;rw[List.mem_singleton.1 hu];exact Int.le_refl _
   obtain⟨h1,h2⟩:=ih (o+(A2 t).2+DX (t.drop (A2 t).2)) ((t.drop (A2 t).2).drop (DX (t.drop (A2 t).2))) hi (by
     have a1:=O2 (t.drop (A2 t).2);have a2:=(Ou t ‹_›).2;simp only[List.length_drop] at a1 ⊢;omega)
   refine⟨⟨by show((o:Nat):Int)<=hi;omega,λu hu=>?_,h1⟩,λu hu=>?_⟩;have:=h2 u hu;show((o:Nat):Int)<=u.AH;omega;rcases List.mem_cons.1 hu with rfl | hu
   exact Int.le_refl _;have:=h2 u hu;omega
def wT:∀(l acc:List LexS.Tok),(DQ acc l).1=[]\/(DQ acc l).1=acc++l:=by
 intro l
 induction l with
 | nil=>intro acc;right;simp[DQ]
 | cons y l ih =>
   intro acc;unfold DQ;split;exact .inl rfl;split;exact .inl rfl;rcases ih (acc++[y]) with h | h
   exact .inl h;right;rw[h,List.append_assoc];rfl
def aqH(s:ByteArray):So ((s.data.toList.length:Nat):Int) (DY s)/\Lo (DY s) 0:=by
 unfold DY Lg;split;exact⟨trivial,λu hu=>(by cases hu)⟩;rcases wT (Dh s.data.toList) [] with h | h
 rw[h];exact⟨trivial,λu hu=>(by cases hu)⟩;rw[h,List.nil_append];obtain⟨h1,h2⟩:=akO s.data.toList.length (DX s.data.toList) (s.data.toList.drop (DX s.data.toList)) ((s.data.toList.length:Nat):Int) (by have:=O2 s.data.toList;rw[List.length_drop];omega);exact⟨h1,λu hu=>by have:=h2 u hu;omega⟩
def aAF{en hi:Int}:∀(q:Nat) (l:List Tk) (ks:List Nd) (r:List Nd×List Dg),So hi l->Lo l 0->(∀k∈ks,0<=k.AH/\Ur hi k)->I9 en q l ks []=some r->r.2=[]->Gl l->l.length<=10000->∀k∈r.1,0<=k.AH/\Ur hi k:=by
 intro q
 induction q with
 | zero=>intro l ks r _ _ _ h;cases h
 | succ q ih =>
   intro l ks r hs hl hk h hr hg hn;cases l with
   | nil=>cases h;exact hk
   | cons t l =>
     unfold I9 at h;rw[Ij (by simp)] at h;dsimp only[cond] at h;split at h;cases h;rename_i n s hi;obtain⟨⟨a1,a2,a3⟩,a4,a5⟩:=arB hs hl hi;obtain⟨⟨j,rfl⟩,_⟩:=L9 hg hn hi;refine ih _ _ _ a4 a5 (λk hm=>?_) h hr (hg.drop j) (by rw[List.length_drop];omega);rcases List.mem_append.1 hm with hm | hm
     exact hk k hm;rw[List.mem_singleton.1 hm];exact⟨a2,a1⟩
     · exfalso
       have:∀(q:Nat) (l:List Tk) (ks:List Nd) (ds:List Dg) (r:List Nd×List Dg),I9 en q l ks ds=some r->ds.length<=r.2.length:=by
         intro q
         induction q with
         | zero=>intro l ks ds r h;cases h
         | succ q ih =>
           intro l ks ds r h;cases l with
           | nil=>cases h;exact Nat.le_refl _
           | cons t l =>
             unfold I9 at h;cases hd:Et ((ds.length:Nat):Int) 20 with
             | false=>rw[hd] at h;cases h;exact Nat.le_refl _
             | true =>
               rw[hd] at h;dsimp only[cond] at h;split at h;cases h;exact ih _ _ _ _ h;have:=ih _ _ _ _ h;simp only[List.length_append,List.length_singleton] at this;omega
       have:=this _ _ _ _ _ h;rw[hr] at this;simp at this
def aEA(n:Nd):ZY n->ZY (KO n):=by
 refine VR (p:=λn=>ZY n->ZY (KO n)) (λn ih h=>?_) n;obtain⟨h1,h2⟩:=(SR n).1 h;refine(SR _).2 ⟨by rw[qK];exact h1,λk hk=>?_⟩;rw[Mw] at hk;obtain⟨y,hy,rfl⟩:=List.mem_map.1 hk;exact ih y hy (h2 y hy)
end Mo
end Go.Proofs.YtpbkhogolfegfaaGreatDoor
namespace Go.Proofs.YtpbkhogolfegfaaGreatDoor
open AI Go
namespace Mo
set_option maxRecDepth 100000
set_option maxHeartbeats 4000000
@[irreducible] def pQ(s:ByteArray):Nd×List Dg:=match M1 ((s.data.toList.length:Nat):Int) (DY s) with
 | some x=>auY x
 | none=>(z0,[])
@[irreducible] def ppV(s:ByteArray):Nd×List Dg:=match I9 ((s.data.toList.length:Nat):Int) ((DY s).length+1) (DY s) [] [] with
 | some x=>vH x.1 x.2
 | none=>(z0,[])
def afN{s:ByteArray}(h:Pp s=0):Dl s=some (pQ s):=by
 obtain⟨r,l,h1,h2⟩:=tG h;unfold pQ;rw[h1];exact h2
def ayZ{s:ByteArray}(h:Pp s=0):Cf s=some (ppV s):=by
 obtain⟨ks,ds,h1,h2,_⟩:=Xt h;unfold ppV;rw[h1];exact h2
abbrev t1:=EV
abbrev t6:=Av
def aER:J5 (pQ t1).1/\(pQ t1).1.kind=16/\DB (pQ t1).1<=100/\M3 (pQ t1).1<=30:=by
 obtain⟨r,l,h1,h2⟩:=tG (s:=t1) (by kernel_rfl);rw[afN (by kernel_rfl)] at h2;refine⟨?_,by kernel_rfl,Nat.le_of_ble_eq_true (by kernel_rfl),Nat.le_of_ble_eq_true (by kernel_rfl)⟩;have h2:=Option.some.inj h2;have hd:(pQ t1).2.length=0:=by kernel_rfl
 rw[h2] at hd ⊢;cases r with
 | inr d=>cases hd
 | inl n =>
   cases l with
   | cons t l=>cases hd
   | nil =>
     have hv:=(auF (fQ t1) h1).1;unfold auY aeR at hd ⊢;dsimp only at hd ⊢;by_cases hc:2000 < DB n\/40 < M3 n;rw[if_pos hc] at hd;cases hd;rw[if_neg hc];exact hv
def wM:J8=some true:=by
 obtain⟨e1,k1,z1,d1⟩:=aER;obtain⟨ok1,ps1⟩:=rN _ e1 (by omega);have v1:okV (pQ t1).1:=⟨.inr ⟨by omega,e1⟩,by omega,by omega⟩
 have v6:KU (ppV t6).1/\okV (ppV t6).1:=by
   have hp:=ayZ (s:=t6) (by kernel_rfl);have hd:(ppV t6).2.length=0:=by kernel_rfl
   rcases U7 (n:=(ppV t6).1) (ds:=(ppV t6).2) hp with ⟨h,_⟩ | ⟨_,ks,_,_,h3,h4,h5,h6⟩
   exact absurd (List.eq_nil_of_length_eq_zero hd) h;rw[h3] at h5 h6 ⊢;have hz:DB (Gw ks)=1+Ge ks:=rfl;exact⟨(bC h4 (by omega)).1,qB h4 h5 h6⟩
 have Gr:Mt (pQ t1).1=some (KO (pQ t1).1):=agI (by omega);have hsm:Gp (KO (pQ t1).1) (KO (pQ t1).1)=some true:=agK (by have:=ahX (pQ t1).1;omega) (aEA _ ps1);have hv6:Em (ppV t6).1=some true:=by rw[fS v6.1,C4.2 v6.2]
 have hv1:Em (KO (pQ t1).1)=some true:=by rw[fS (aDV ok1),C4.2 ((ayS _).2 v1)]
 have hva:Em ⟨12,cW,ByteArray.empty,0,0,0,0,⟨0,[]⟩,[],0⟩=some false:=by
   rw[fS ((SQ rfl rfl).1),YP];rintro⟨⟨h,_⟩ | ⟨_,h⟩,_⟩;exact absurd h (by decide)
   · have:=((Jh _).1 h).1
     unfold S7 at this;rcases this with h | h | h | h | h | h | h | h
     exact absurd h.1 (by decide);exact h.2.1.2.2.1 (by unfold sP;simp)
     all_goals exact absurd h.1 (by decide)
 have h7:(⟨16,PQ,ByteArray.empty,0,0,0,0,⟨0,[]⟩,[⟨16,JC,ByteArray.empty,0,0,0,0,⟨0,[]⟩,[⟨11,ByteArray.empty,EF,3,0,0,0,⟨0,[]⟩,[],0⟩,⟨12,aS,ByteArray.empty,0,0,0,0,⟨0,[]⟩,[],0⟩],0⟩,⟨15,ByteArray.empty,ByteArray.empty,0,0,0,0,⟨0,[]⟩,[⟨16,GP,ByteArray.empty,0,0,0,0,⟨0,[]⟩,[⟨12,bS,ByteArray.empty,0,0,0,0,⟨0,[]⟩,[],0⟩,⟨12,cS,ByteArray.empty,0,0,0,0,⟨0,[]⟩,[],0⟩],0⟩],0⟩],0⟩:Nd)=KO (pQ t1).1:=by kernel_rfl
 unfold J8;rw[afN (s:=t1) (by kernel_rfl)];simp only[afN (s:=ED) (by kernel_rfl),afN (s:=MV) (by kernel_rfl),afN (s:=BE) (by kernel_rfl),ayZ (s:=Ep) (by kernel_rfl),ayZ (s:=t6) (by kernel_rfl),JN,K0,Option.bind_some];rw[h7];simp only[Gr,hsm,hv6,hv1,hva,Option.bind_some];show(_:Option Bool)=some true
 kernel_rfl
end Mo
end Go.Proofs.YtpbkhogolfegfaaGreatDoor
namespace Go.Proofs.YtpbkhogolfegfaaGreatDoor
open AI Go LexS
namespace Mo
set_option maxRecDepth 100000
set_option maxHeartbeats 4000000
theorem byt{p:Nat->Bool}(h:(List.range 256).all p=true)(c:UInt8):p c.toNat=true:=List.all_eq_true.1 h _ (List.mem_range.2 c.toNat_lt)
theorem afJ{o:Option Bool}{b:Bool}(h:(match o with | some x=>x == b | none=>false)=true):o=some b:=by
 cases o with
 | none=>cases h
 | some x=>rw[eq_of_beq h]
theorem aoC(c:UInt8):KA ((c.toNat:Nat):Int)=some (cin 1 c):=afJ (byt (p:=λn=>match KA ((n:Nat):Int) with | some x=>x == ((LY n &&& 1) != 0) | none=>false) (by kernel_rfl) c)
theorem fA(c:UInt8):Gt ((c.toNat:Nat):Int)=some (cin 8 c):=afJ (byt (p:=λn=>match Gt ((n:Nat):Int) with | some x=>x == ((LY n &&& 8) != 0) | none=>false) (by kernel_rfl) c)
theorem aoA(c:UInt8):I0 ((c.toNat:Nat):Int)=some (cin 2 c):=afJ (byt (p:=λn=>match I0 ((n:Nat):Int) with | some x=>x == ((LY n &&& 2) != 0) | none=>false) (by kernel_rfl) c)
theorem fB(c:UInt8):Gu ((c.toNat:Nat):Int)=some (cin 4 c):=afJ (byt (p:=λn=>match Gu ((n:Nat):Int) with | some x=>x == ((LY n &&& 4) != 0) | none=>false) (by kernel_rfl) c)
theorem afT(c:UInt8):Ke ((c.toNat:Nat):Int)=some (cin 30 c):=afJ (byt (p:=λn=>match Ke ((n:Nat):Int) with | some x=>x == ((LY n &&& 30) != 0) | none=>false) (by kernel_rfl) c)
theorem abC(c:UInt8):cin 30 c=(cin 2 c||(cin 4 c||(cin 8 c||cin 16 c))):=by
 have:=byt (p:=λn=>((LY n &&& 30) != 0) == (((LY n &&& 2) != 0)||(((LY n &&& 4) != 0)||(((LY n &&& 8) != 0)||((LY n &&& 16) != 0))))) (by kernel_rfl) c;exact eq_of_beq this
theorem abB(c:UInt8):cin 26 c=(cin 30 c&&!cin 4 c):=by
 have:=byt (p:=λn=>((LY n &&& 26) != 0) == (((LY n &&& 30) != 0)&&!((LY n &&& 4) != 0))) (by kernel_rfl) c;exact eq_of_beq this
theorem avG(c:UInt8)(h:cin 8 c=true):cin 2 c=false/\cin 4 c=false:=by
 have:=byt (p:=λn=>!((LY n &&& 8) != 0)||(!((LY n &&& 2) != 0)&&!((LY n &&& 4) != 0))) (by kernel_rfl) c;have h':((LY c.toNat &&& 8) != 0)=true:=h;rw[h'] at this;simp only[Bool.not_true,Bool.false_or,Bool.and_eq_true,Bool.not_eq_true'] at this;exact this
theorem UM(c d:UInt8):CV ((c.toNat:Nat):Int) ((d.toNat:Nat):Int)=(c == d):=by
 rw[Bool.eq_iff_iff,NY,beq_iff_eq,beq_iff_eq];constructor;intro h;exact UInt8.toNat_inj.1 (by omega);intro h;rw[h]
theorem avL(c:UInt8):CV ((c.toNat:Nat):Int) 10=(c == 10):=UM c 10
theorem abV(c:UInt8):CV ((c.toNat:Nat):Int) 46=(c == 46):=UM c 46
theorem avM(c:UInt8):CV ((c.toNat:Nat):Int) 45=(c == 45):=UM c 45
theorem avN(c:UInt8):CV ((c.toNat:Nat):Int) 48=(c == 48):=UM c 48
section
variable {s:ByteArray} (hs:s.data.toList.length<=100000)
theorem Sa{α:Type}{l:List α}{i:Nat}:Hu l ((i:Nat):Int)=l[i]?:=by
 unfold Hu;rw[if_pos (by omega)];rfl
theorem Ma{α:Type}(l:List α)(k:Nat):(l.length<=k/\l.drop k=[])\/∃x,k < l.length/\l[k]?=some x/\l.drop k=x::l.drop (k+1):=by
 rcases Nat.lt_or_ge k l.length with h | h
 exact .inr ⟨l[k],h,List.getElem?_eq_getElem h,List.drop_eq_getElem_cons h⟩;exact .inl ⟨h,List.drop_eq_nil_of_le h⟩
theorem Qs{a b:Nat}(h1:a<=b)(h2:b<=s.data.toList.length):Qq s (a:Int) (b:Int)=some ⟨((s.data.toList.drop a).take (b - a)).toArray⟩:=by
 unfold Qq;rw[if_pos ⟨by omega,by omega,by omega⟩];rfl
theorem lI{b:Int->Option (Lp Int Int Int)}{m:Nat}(hb:∀(k:Nat) c,s.data.toList[k]?=some c->b (k:Int)=if cin m c then some (.nx ((k+1:Nat):Int)) else some (.ex (k:Int)))(he:∀k:Nat,s.data.toList.length<=k->b (k:Int)=some (.ex (k:Int))) :
   ∀(j k:Nat),s.data.toList.length - k<=j->EK b (j+1) (k:Int)=some (.inl ((k+Be m (s.data.toList.drop k):Nat):Int)):=by
 intro j
 induction j with
 | zero =>
   intro k hk;show(b (k:Int)).bind _=_;rw[he k (by omega),List.drop_eq_nil_of_le (by omega)];rfl
 | succ j ih =>
   intro k hk;show(b (k:Int)).bind _=_;rcases Ma s.data.toList k with ⟨h1,h2⟩ | ⟨c,h1,h2,h3⟩
   rw[he k h1,h2];rfl;rw[hb k c h2,h3,Dp];by_cases hc:cin m c=true;rw[if_pos hc,if_pos hc];show EK b (j+1) ((k+1:Nat):Int)=_;rw[ih (k+1) (by omega)];congr 2;omega;rw[if_neg hc,if_neg hc];rfl
include hs
theorem atQ{k:Nat}(hk:k<=100000):La s (k:Int)=some ((k+Be 30 (s.data.toList.drop k):Nat):Int):=by
 unfold La;rw[Fc (lI (s:=s) (m:=30) (b:=λx=>Kg s x) (λk c hc=>?_) (λk hk=>?_) _ k (Nat.le_refl _)),Option.bind_some];rfl;have hlt:=(List.getElem?_eq_some_iff.1 hc).1;unfold Kg;rw[Ij (by omega),Sa,hc];dsimp only[cond,Option.bind];rw[afT,CJ (by omega)];cases cin 30 c<;>rfl
 unfold Kg;rw[H5 (by omega)];rfl
theorem kN{k:Nat}(hk:k<=100000):EX s (k:Int)=some ((k+Be 8 (s.data.toList.drop k):Nat):Int):=by
 unfold EX;rw[Fc (lI (s:=s) (m:=8) (b:=λx=>He s x) (λk c hc=>?_) (λk hk=>?_) _ k (Nat.le_refl _)),Option.bind_some];rfl;have hlt:=(List.getElem?_eq_some_iff.1 hc).1;unfold He;rw[Ij (by omega),Sa,hc];dsimp only[cond,Option.bind];rw[fA,CJ (by omega)];cases cin 8 c<;>rfl
 unfold He;rw[H5 (by omega)];rfl
theorem kM{k:Nat}{t:ByteArray}(hk:k<=s.data.toList.length)(ht:t.data.toList.length<=100000):Is s (k:Int) t=some (t.data.toList.isPrefixOf (s.data.toList.drop k)):=by
 unfold Is;rw[M4,KP (by omega)];by_cases h:k+t.data.toList.length<=s.data.toList.length;rw[YJ (by omega),CJ (by omega)];dsimp only[cond];rw[show(k:Int)+((t.data.toList.length:Nat):Int)=((k+t.data.toList.length:Nat):Int) by omega,Qs (by omega) h,Option.bind_some,show k+t.data.toList.length - k=t.data.toList.length by omega,TG];dsimp only;rw[List.toList_toArray];cases List.take t.data.toList.length (List.drop k s.data.toList) == t.data.toList<;>rfl
 rw[U0 (by omega)];dsimp only[cond];congr 1;symm;apply beq_false_of_ne;intro e;have:=congrArg List.length e;rw[List.length_take,List.length_drop] at this;omega
omit hs in
theorem pV{k:Nat}(hk:k<=s.data.toList.length):D7 s (k:Int)=some (free (s.data.toList.drop k)):=by
 unfold D7 free;rcases Ma s.data.toList k with ⟨h1,h2⟩ | ⟨c,h1,h2,h3⟩
 rw[YJ (by omega),h2];rfl;rw[U0 (by omega),Sa,h2,h3];dsimp only[cond,Option.bind,GJ,List.head?_cons];rw[afT,abV];dsimp only;have:(some c == some (46:UInt8))=(c == 46):=rfl;rw[this];cases cin 30 c<;>cases c == 46<;>rfl
def P6(t:List UInt8):Nat:=(t.takeWhile (λc=>c != 10)).length
omit hs in
theorem VP(c:UInt8)(t:List UInt8):P6 (c::t)=if c == 10 then 0 else 1+P6 t:=by
 unfold P6;rw[List.takeWhile_cons,bne];cases c == 10;simp only[Bool.not_false,if_true,List.length_cons,Bool.false_eq_true,if_false];omega;rfl
omit hs in
theorem wD(t:List UInt8):F5 true t=P6 t+F5 false (t.drop (P6 t)):=by
 induction t with
 | nil=>rfl
 | cons c t ih =>
   rw[VP];by_cases hc:c=10;subst hc;exact(iV t).trans (by simp);have:(c == 10)=false:=beq_false_of_ne hc;rw[this,acH c t hc,ih,if_neg (by simp),Nat.add_comm 1 (P6 t),List.drop_succ_cons];omega
theorem azE:∀(j k:Nat),s.data.toList.length - k<=j->k<=s.data.toList.length->EK (λx=>Er s x) (j+1) (k:Int)=some (.inl ((k+P6 (s.data.toList.drop k):Nat):Int)):=by
 have stop:∀k:Nat,s.data.toList.length<=k->Er s (k:Int)=some (.ex (k:Int)):=λk h=>by
   unfold Er;rw[H5 (by omega)];rfl
 intro j
 induction j with
 | zero =>
   intro k hk hl;show(Er s (k:Int)).bind _=_;rw[stop k (by omega),List.drop_eq_nil_of_le (by omega)];rfl
 | succ j ih =>
   intro k hk hl;show(Er s (k:Int)).bind _=_;rcases Ma s.data.toList k with ⟨h1,h2⟩ | ⟨c,h1,h2,h3⟩
   · rw[stop k h1,h2];rfl
   have:Er s (k:Int)=if (c == 10)=true then some (.ex (k:Int)) else some (.nx ((k+1:Nat):Int)):=by
     unfold Er;rw[Ij (by omega),Sa,h2];dsimp only[cond,Option.bind];rw[avL,CJ (by omega)];cases c == 10<;>rfl
   rw[this,h3,VP];cases c == 10;show EK (λx=>Er s x) (j+1) ((k+1:Nat):Int)=_;rw[ih (k+1) (by omega) (by omega)];congr 2;simp only[Bool.false_eq_true,if_false];omega;rfl
omit hs in
theorem aeS(t:List UInt8):P6 t<=t.length:=(List.takeWhile_sublist _).length_le
theorem xK:∀(j k:Nat),s.data.toList.length - k<=j->k<=s.data.toList.length->∃r,EK (λx=>Dt s x) (j+1) (k:Int)=some r/\(r=.inl ((k+F5 false (s.data.toList.drop k):Nat):Int)\/r=.inr ((k+F5 false (s.data.toList.drop k):Nat):Int)):=by
 have stop:∀k:Nat,s.data.toList.length<=k->Dt s (k:Int)=some (.ex (k:Int)):=λk h=>by
   unfold Dt;rw[H5 (by omega)];rfl
 intro j
 induction j with
 | zero =>
   intro k hk hl;refine⟨.inl (k:Int),?_,.inl ?_⟩
   · show(Dt s (k:Int)).bind _=_
     rw[stop k (by omega)];rfl
   rw[List.drop_eq_nil_of_le (by omega)];rfl
 | succ j ih =>
   intro k hk hl;rcases Ma s.data.toList k with ⟨h1,h2⟩ | ⟨c,h1,h2,h3⟩
   · refine⟨.inl (k:Int),?_,.inl ?_⟩
     · show(Dt s (k:Int)).bind _=_
       rw[stop k h1];rfl
     rw[h2];rfl
   · have e:Dt s (k:Int)=cond (cin 1 c) (some (.nx ((k+1:Nat):Int))) (cond (([47,47]:List UInt8).isPrefixOf (s.data.toList.drop k)) (some (.nx ((k+P6 (s.data.toList.drop k):Nat):Int))) (some (.rt (k:Int)))):=by
       unfold Dt;rw[Ij (by omega),Sa,h2];dsimp only[cond,Option.bind];rw[aoC,CJ (by omega)];dsimp only;rw[kM hs hl (show(pU).data.toList.length<=100000 by decide)];rw[show(pU).data.toList=[47,47] from rfl];dsimp only;rw[Fc (azE hs _ k (Nat.le_refl _) hl)];rfl
     cases hw:cin 1 c with
     | true =>
       obtain⟨r,h4,h5⟩:=ih (k+1) (by omega) (by omega);refine⟨r,?_,?_⟩;show(Dt s (k:Int)).bind _=_;rw[e,hw];exact h4
       have:k+F5 false (s.data.toList.drop k)=k+1+F5 false (s.data.toList.drop (k+1)):=by
         rw[h3];show k+(if false=true then _ else if cin 1 c=true then 1+F5 false (s.data.toList.drop (k+1)) else _)=_
         rw[if_neg (by simp),if_pos hw];omega
       rw[this];exact h5
     | false =>
       cases hp:([47,47]:List UInt8).isPrefixOf (s.data.toList.drop k) with
       | false =>
         refine⟨.inr (k:Int),?_,.inr ?_⟩;show(Dt s (k:Int)).bind _=_;rw[e,hw,hp];rfl;rw[iW _ (by rw[h3];exact hw) hp];rfl
       | true =>
         have hl2:1<=P6 (s.data.toList.drop k):=by
           rw[h3] at hp ⊢;rw[VP]
           have:c=47:=by
             have:=hp;simp only[List.isPrefixOf,Bool.and_eq_true] at this;exact(eq_of_beq this.1).symm
           rw[this,if_neg (by decide)];omega
         have hl3:=aeS (s.data.toList.drop k);rw[List.length_drop] at hl3;obtain⟨r,h4,h5⟩:=ih (k+P6 (s.data.toList.drop k)) (by omega) (by omega);refine⟨r,?_,?_⟩;show(Dt s (k:Int)).bind _=_;rw[e,hw,hp];exact h4
         have:k+F5 false (s.data.toList.drop k)=k+P6 (s.data.toList.drop k)+F5 false (s.data.toList.drop (k+P6 (s.data.toList.drop k))):=by
           rw[Ws _ hp,wD,List.drop_drop];omega
         rw[this];exact h5
theorem afS{k:Nat}(hk:k<=s.data.toList.length):Kd s (k:Int)=some ((k+DX (s.data.toList.drop k):Nat):Int):=by
 obtain⟨r,h1,h2⟩:=xK hs _ k (Nat.le_refl _) hk;unfold Kd;rw[Fc h1,Option.bind_some];rcases h2 with rfl | rfl<;>rfl
omit hs in
theorem avI(t:List UInt8):EJ t=(decide (10<=t.length)&&(List.range' 0 10).all (FJ t)):=by
 unfold EJ;rw[List.range_eq_range']
theorem azD{k:Nat}(hk:k<=s.data.toList.length):LB s (k:Int)=some (EJ (s.data.toList.drop k)):=by
 rw[avI];unfold LB;rw[KP (by omega),List.length_drop];by_cases hl:10<=s.data.toList.length - k
 · rw[H5 (by omega),decide_eq_true hl]
   dsimp only[cond];rw[Bool.true_and]
   have Gb:∀i:Nat,i < 10->FH s (k:Int) (i:Int)=if FJ (s.data.toList.drop k) i=true then some (.nx ((i+1:Nat):Int)) else some (.rt false):=by
     intro i hi;obtain⟨c,hc⟩:∃c,s.data.toList[k+i]?=some c:=⟨_,List.getElem?_eq_getElem (by omega)⟩;have gK:(s.data.toList.drop k)[i]?=some c:=by rw[List.getElem?_drop];exact hc
     unfold FH;rw[Ij (by omega),CJ (by omega),show(k:Int)+(i:Int)=((k+i:Nat):Int) by omega,Sa,hc];dsimp only[cond,Option.bind];rw[avM,fA,CJ (by omega)];have e:(some c == some (45:UInt8))=(c == 45):=rfl
     have aBJ:i=4\/i=7->FJ (s.data.toList.drop k) i=(c == 45):=λh=>by
       unfold FJ;rw[if_pos h,gK,e]
     by_cases h4:i=4;rw[JK (by omega),aBJ (Or.inl h4)];cases c == 45<;>rfl
     rw[KZ (by omega)];by_cases h7:i=7;rw[JK (by omega),aBJ (Or.inr h7)];cases c == 45<;>rfl
     rw[KZ (by omega)]
     have dg:FJ (s.data.toList.drop k) i=cin 8 c:=by
       unfold FJ;rw[if_neg (by omega)];rw[<- List.head?_drop] at gK;cases hd:(s.data.toList.drop k).drop i with
       | nil=>rw[hd] at gK;cases gK
       | cons a l=>rw[hd] at gK;cases gK;rfl
     rw[dg];cases cin 8 c<;>rfl
   have key:∀d i:Nat,i+d=10->EK (λx=>FH s (k:Int) x) (d+1) (i:Int)=some (if (List.range' i d).all (FJ (s.data.toList.drop k))=true then .inl () else .inr false):=by
     intro d
     induction d with
     | zero =>
       intro i hi;show(FH s (k:Int) (i:Int)).bind _=_;unfold FH;rw[H5 (by omega)];rfl
     | succ d ih =>
       intro i hi;show(FH s (k:Int) (i:Int)).bind _=_;rw[Gb i (by omega),List.range'_succ,List.all_cons];by_cases hd:FJ (s.data.toList.drop k) i=true;rw[if_pos hd,hd,Bool.true_and];exact ih (i+1) (by omega);rw[if_neg hd,Bool.eq_false_iff.2 hd];rfl
   have:=key 10 0 rfl;rw[show((0:Nat):Int)=0 from rfl] at this;rw[Fc this,Option.bind_some];cases (List.range' 0 10).all (FJ (s.data.toList.drop k))<;>rfl
 rw[Ij (by omega),decide_eq_false hl];rfl
end
end Mo
end Go.Proofs.YtpbkhogolfegfaaGreatDoor
namespace Go.Proofs.YtpbkhogolfegfaaGreatDoor
open AI Go LexS
namespace Mo
set_option maxRecDepth 100000
set_option maxHeartbeats 4000000
theorem xR(t:List UInt8)(h:GJ 8 t=false):Be 8 t=0:=by
 cases t with
 | nil=>rfl
 | cons c t=>rw[Dp,if_neg (by have:cin 8 c=false:=h;simp[this])]
theorem ahD(u:List UInt8)(hf:free (u.drop 2)=true)(h1:GJ 8 u=true)(h2:GJ 8 (u.drop 1)=true):Be 8 u=2:=by
 match u,h1,h2 with
 | [c],_,h2=>simp[GJ] at h2
 | c::d::v,h1,h2 =>
   have e1:cin 8 c=true:=h1;have e2:cin 8 d=true:=h2;rw[Dp,if_pos e1,Dp,if_pos e2]
   have e3:Be 8 v=0:=by
     apply xR;cases v with
     | nil=>rfl
     | cons x v =>
       have Yv:free (x::v)=true:=hf;unfold free GJ at Yv;dsimp only at Yv;rw[abC] at Yv;show cin 8 x=false;cases hx:cin 8 x with
       | false=>rfl
       | true=>rw[hx] at Yv;simp at Yv
   omega
theorem aiK(u:List UInt8)(h:Be 8 u=2):GJ 8 u=true/\GJ 8 (u.drop 1)=true:=by
 match u,h with
 | [],h=>simp[SS] at h
 | [c],h =>
   rw[Dp] at h;split at h;rw[SS] at h;omega;omega
 | c::d::v,h =>
   rw[Dp] at h;by_cases hc:cin 8 c=true;rw[if_pos hc,Dp] at h;by_cases hd:cin 8 d=true;exact⟨hc,hd⟩;rw[if_neg hd] at h;omega;rw[if_neg hc] at h;omega
theorem nZ(t:List UInt8)(d e:Nat)(hd:d=Be 8 t)(he:e=Be 8 (t.drop (d+1)))(hn:EJ t=false)(ZR:(t.drop d).head?=some 46) :
   GB t=if ¬(t.head?=some 48/\1 < d)/\d<=10/\e=2/\free (t.drop (d+3))=true then (4,d+3) else (0,0):=by
 unfold GB;simp only[hn,Bool.false_eq_true,if_false,<- hd];by_cases h1:t.head?=some 48/\1 < d;rw[if_pos h1,if_neg (λh=>h.1 h1)];rw[if_neg h1,if_pos ZR];by_cases h2:10 < d\/GJ 8 (t.drop (d+1))=false\/GJ 8 (t.drop (d+2))=false;rw[if_pos h2,if_neg];rintro⟨_,h3,h4,_⟩;rw[he] at h4;have:=aiK _ h4;rw[List.drop_drop] at this;rcases h2 with h | h | h
 omega;rw[h] at this;simp at this;rw[show d+1+1=d+2 from rfl,h] at this;simp at this;rw[if_neg h2]
 have i1:GJ 8 (t.drop (d+1))=true:=by
   cases hh:GJ 8 (t.drop (d+1)) with
   | true=>rfl
   | false=>exact absurd (.inr (.inl hh)) h2
 have i2:GJ 8 (t.drop (d+2))=true:=by
   cases hh:GJ 8 (t.drop (d+2)) with
   | true=>rfl
   | false=>exact absurd (.inr (.inr hh)) h2
 by_cases h3:free (t.drop (d+3))=true
 have h5:e=2:=by
   rw[he];refine ahD _ ?_ i1 ?_;rw[List.drop_drop];exact h3;rw[List.drop_drop];exact i2
 rw[if_pos h3,if_pos ⟨h1,by omega,h5,h3⟩];rw[if_neg h3,if_neg (λh=>h3 h.2.2.2)]
theorem oA(t:List UInt8)(d:Nat)(hd:d=Be 8 t)(hn:EJ t=false)(ZR:¬(t.drop d).head?=some 46) :
   GB t=if ¬(t.head?=some 48/\1 < d)/\d<=12/\free (t.drop d)=true then (3,d) else (0,0):=by
 unfold GB;simp only[hn,Bool.false_eq_true,if_false,<- hd];by_cases h1:t.head?=some 48/\1 < d;rw[if_pos h1,if_neg (λh=>h.1 h1)];rw[if_neg h1,if_neg ZR];by_cases h2:12 < d;rw[if_pos h2,if_neg (λh=>by omega)];rw[if_neg h2];by_cases h3:free (t.drop d)=true;rw[if_pos h3,if_pos ⟨h1,by omega,h3⟩];rw[if_neg h3,if_neg (λh=>h3 h.2.2)]
def LO(r:Nat×Nat)(t:List UInt8)(k:Nat)(x:Tk×Bool):Prop:=(x.2=true->r.1≠0/\x.1=IH (r.1,t.take r.2,k))/\(x.2=false->r.1=0)
theorem LO.no{t:List UInt8}{k:Nat}{x:Tk}:LO (0,0) t k (x,false):=⟨λh=>(by cases h),λ_=>rfl⟩
theorem LO.yes{q n:Nat}(hq:q≠0){t:List UInt8}{k:Nat}:LO (q,n) t k (IH (q,t.take n,k),true):=⟨λ_=>⟨hq,rfl⟩,λh=>(by cases h)⟩
theorem LO.if{p:Prop}[Decidable p]{b:Bool}(hp:p↔b=true){q n:Nat}(hq:q≠0){t:List UInt8}{k:Nat}:LO (if p then (q,n) else (0,0)) t k (IH (q,t.take n,k),b):=by
 cases b;rw[if_neg (λh=>by cases hp.1 h)];exact LO.no;rw[if_pos (hp.2 rfl)];exact LO.yes hq
section
variable {s:ByteArray} (hs:s.data.toList.length<=100000)
include hs
theorem afD{k d e:Nat}(hk:k+d<=s.data.toList.length)(he:e=Be 8 ((s.data.toList.drop k).drop (d+1)))(A:Int->ByteArray->Option (Tk×Bool))(B:ByteArray->Option (Tk×Bool)) :
   cond (Et ((k+d:Nat):Int) ((s.data.toList.length:Nat):Int)) ((Hu s.data.toList ((k+d:Nat):Int)).bind λc=>cond (CV ((c.toNat:Nat):Int) 46) ((EX s (Bt ((k+d:Nat):Int) 1)).bind λy6=>(Qq s (k:Int) y6).bind λs7=>A y6 s7) ((Qq s (k:Int) ((k+d:Nat):Int)).bind λs9=>B s9)) ((Qq s (k:Int) ((k+d:Nat):Int)).bind λs11=>B s11)
     = if ((s.data.toList.drop k).drop d).head?=some 46 then A ((k+(d+1+e):Nat):Int) ⟨((s.data.toList.drop k).take (d+1+e)).toArray⟩ else B ⟨((s.data.toList.drop k).take d).toArray⟩:=by
 rw[Qs (by omega) hk,show k+d - k=d by omega];rcases Ma s.data.toList (k+d) with ⟨h1,h2⟩ | ⟨c,h1,h2,h3⟩
 rw[H5 (by omega),List.drop_drop,h2,if_neg (by simp)];rfl;rw[Ij (by omega),Sa,h2,List.drop_drop,h3,List.head?_cons];dsimp only[cond,Option.bind];rw[abV];by_cases hc:c=46;subst hc;rw[if_pos rfl,CJ (by omega),show((k+d:Nat):Int)+1=((k+d+1:Nat):Int) by omega,kN hs (by omega)];have e1:k+d+1+Be 8 (s.data.toList.drop (k+d+1))=k+(d+1+e):=by rw[he,List.drop_drop,Nat.add_assoc k d 1];omega
 rw[e1];have e2:=LI 8 ((s.data.toList.drop k).drop (d+1));rw[<- he,List.drop_drop,List.length_drop] at e2;dsimp only;rw[Qs (by omega) (by omega),show k+(d+1+e) - k=d+1+e by omega];rfl;rw[if_neg (by simpa using hc)]
 have:(c == 46)=false:=beq_false_of_ne hc;rw[this]
theorem xJ{k:Nat}(hk:k < s.data.toList.length)(h8:GJ 8 (s.data.toList.drop k)=true):∃x,IV s (k:Int)=some x/\LO (GB (s.data.toList.drop k)) (s.data.toList.drop k) k x:=by
 unfold IV;rw[azD hs (by omega),Option.bind_some];generalize ht:s.data.toList.drop k=t at *;have hlt:t.length=s.data.toList.length - k:=by rw[<- ht,List.length_drop]
 cases hd:EJ t with
 | true =>
   have hl10:10<=t.length:=by
     unfold EJ at hd;rw[Bool.and_eq_true] at hd;exact of_decide_eq_true hd.1
   dsimp only[cond];rw[CJ (by omega),show(k:Int)+10=((k+10:Nat):Int) by omega,Qs (by omega) (by omega),Option.bind_some,pV (by omega),Option.bind_some,show k+10 - k=10 by omega,ht];refine⟨_,rfl,?_⟩;unfold GB;rw[if_pos hd,<- List.drop_drop,ht];exact LO.if Iff.rfl (by decide)
 | false =>
   rw[cond_false,kN hs (by omega),Option.bind_some,ht];generalize hde:Be 8 t=d at *;have hd1:1<=d:=by rw[<- hde];exact Se 8 t h8
   have hdl:d<=t.length:=by rw[<- hde];exact LI 8 t
   obtain⟨e,he⟩:∃e,e=Be 8 ((s.data.toList.drop k).drop (d+1)):=⟨_,rfl⟩;have tail:=afD hs (k:=k) (d:=d) (e:=e) (by omega) he;rw[ht] at tail he;have hel:=LI 8 (t.drop (d+1));rw[<- he,List.length_drop] at hel;rw[CJ (a:=(k:Int)) (by omega)];obtain⟨c,hc⟩:∃c,s.data.toList[k]?=some c:=⟨_,List.getElem?_eq_getElem hk⟩;have hh:t.head?=some c:=by rw[<- ht,List.head?_drop];exact hc
   have aBR:¬(t.head?=some 48/\1 < d)->∃x,(if (t.drop d).head?=some 46 then
       (cond (Nv (LV ((k+d:Nat):Int) (k:Int)) 10) (cond (CV ((k+(d+1+e):Nat):Int) (Bt ((k+d:Nat):Int) 3)) ((D7 s ((k+(d+1+e):Nat):Int)).bind λy8=>some ((⟨4,⟨(t.take (d+1+e)).toArray⟩,(k:Int)⟩:Tk),y8)) (some ((⟨4,⟨(t.take (d+1+e)).toArray⟩,(k:Int)⟩:Tk),false))) (some ((⟨4,⟨(t.take (d+1+e)).toArray⟩,(k:Int)⟩:Tk),false)))
       else (cond (Nv (LV ((k+d:Nat):Int) (k:Int)) 12) ((D7 s ((k+d:Nat):Int)).bind λzG=>some ((⟨3,⟨(t.take d).toArray⟩,(k:Int)⟩:Tk),zG)) (some ((⟨3,⟨(t.take d).toArray⟩,(k:Int)⟩:Tk),false))))=some x/\LO (GB t) t k x:=by
     intro h0;rw[KP (by omega),show((k+d:Nat):Int) - (k:Int)=(d:Int) by omega];by_cases ZR:(t.drop d).head?=some 46;rw[if_pos ZR,nZ t d e hde.symm he hd ZR]
     have aNR:d < t.length:=by
       rcases Nat.lt_or_ge d t.length with h | h
       exact h;rw[List.drop_eq_nil_of_le h] at ZR;cases ZR
     by_cases h1:d<=10;rw[YJ (by omega),CJ (by omega)];dsimp only[cond];by_cases h2:e=2;subst h2;rw[JK (by omega)];dsimp only;rw[pV (by omega),Option.bind_some,<- List.drop_drop,ht];refine⟨_,rfl,?_⟩;exact LO.if (n:=d+3) ⟨λh=>h.2.2.2,λh=>⟨h0,h1,rfl,h⟩⟩ (by decide)
     rw[KZ (by omega),if_neg (λh=>h2 h.2.2.1)];exact⟨_,rfl,LO.no⟩;rw[U0 (by omega),if_neg (λh=>h1 h.2.1)];exact⟨_,rfl,LO.no⟩;rw[if_neg ZR,oA t d hde.symm hd ZR];by_cases h1:d<=12;rw[YJ (by omega)];dsimp only[cond];rw[pV (by omega),Option.bind_some,<- List.drop_drop,ht];refine⟨_,rfl,?_⟩;exact LO.if ⟨λh=>h.2.2,λh=>⟨h0,h1,h⟩⟩ (by decide)
     rw[U0 (by omega),if_neg (λh=>h1 h.2.1)];exact⟨_,rfl,LO.no⟩
   by_cases h1:d=1;rw[JK (by omega),cond_true,tail];exact aBR (λh=>by omega);rw[KZ (by omega),cond_false,Sa,hc,Option.bind_some,avN];by_cases h2:c=48;have e2:(c == 48)=true:=by rw[h2];rfl
   rw[e2,cond_true,tail (λ_ s16=>some ((⟨4,s16,(k:Int)⟩:Tk),false)) (λs17=>some ((⟨3,s17,(k:Int)⟩:Tk),false))];have h3:t.head?=some 48/\1 < d:=⟨by rw[hh,h2],by omega⟩
   have hf:GB t=(0,0):=by
     unfold GB;simp only[hd,Bool.false_eq_true,if_false];rw[hde,if_pos h3]
   rw[hf];split<;>exact⟨_,rfl,LO.no⟩
   have e2:(c == 48)=false:=beq_false_of_ne h2;rw[e2,cond_false,tail];exact aBR (λh=>by rw[hh] at h;exact h2 (Option.some.inj h.1))
omit hs in
theorem jZ{p:UInt8->Bool}{v:Tk×Bool}{B:Nat}{b:Int->Option (Lp Int Unit (Tk×Bool))}(hB:B<=s.data.toList.length)(hb:∀(i:Nat) c,i < B->s.data.toList[i]?=some c->b (i:Int)=if p c then some (.nx ((i+1:Nat):Int)) else some (.rt v))(he:b (B:Int)=some (.ex ())) :
   ∀(n i:Nat),i+n=B->EK b (n+1) (i:Int)=some (if ((s.data.toList.drop i).take n).all p then .inl () else .inr v):=by
 intro n
 induction n with
 | zero =>
   intro i hi;rw[show i=B by omega];show(b (B:Int)).bind _=_;rw[he];rfl
 | succ n ih =>
   intro i hi;obtain⟨c,hc⟩:∃c,s.data.toList[i]?=some c:=⟨_,List.getElem?_eq_getElem (by omega)⟩;show(b (i:Int)).bind _=_;rw[hb i c (by omega) hc];rcases Ma s.data.toList i with ⟨h1,h2⟩ | ⟨c',h1,h2,h3⟩
   omega;rw[hc] at h2;cases h2;rw[h3,List.take_succ_cons,List.all_cons];cases hp:p c;rfl;rw[Bool.true_and];exact ih (i+1) (by omega)
omit hs in
theorem lF{m:Nat}(hm:∀c,cin m c=true->cin 30 c=true)(t:List UInt8):(Be m t=Be 30 t)↔(t.take (Be 30 t)).all (cin m)=true:=by
 induction t with
 | nil=>simp[SS]
 | cons c t ih =>
   rw[Dp,Dp];by_cases hc:cin 30 c=true;rw[if_pos hc,Nat.add_comm 1 (Be 30 t),List.take_succ_cons,List.all_cons];by_cases hcm:cin m c=true;rw[if_pos hcm,hcm,Bool.true_and,<- ih];omega;rw[if_neg hcm,Bool.eq_false_iff.2 hcm,Bool.false_and];simp;rw[if_neg hc,if_neg (λh=>hc (hm c h))];simp
omit hs in
theorem auW(t:List UInt8)(h:∀c∈t,cin 30 c=true):t.all (cin 26)=t.all (λc=>!cin 4 c):=by
 induction t with
 | nil=>rfl
 | cons c t ih=>rw[List.all_cons,List.all_cons,abB,h c (by simp),ih (λx hx=>h x (by simp[hx]))];rfl
omit hs in
theorem yL(m:Nat)(t:List UInt8):∀c∈t.take (Be m t),cin m c=true:=by
 induction t with
 | nil=>intro c hc;simp at hc
 | cons x t ih =>
   intro c hc;rw[Dp] at hc;by_cases hx:cin m x=true;rw[if_pos hx,Nat.add_comm,List.take_succ_cons] at hc;rcases List.mem_cons.1 hc with rfl | hc
   exact hx;exact ih c hc;rw[if_neg hx] at hc;simp at hc
theorem azF{k:Nat}(hk:k < s.data.toList.length)(h2:GJ 2 (s.data.toList.drop k)=true):∃x,LC s (k:Int)=some x/\LO (A2 (s.data.toList.drop k)) (s.data.toList.drop k) k x:=by
 unfold LC A2;rw[if_pos h2,atQ hs (by omega),Option.bind_some];generalize hw:Be 30 (s.data.toList.drop k)=w at *;have hwl:w<=s.data.toList.length - k:=by rw[<- hw,<- List.length_drop];exact LI 30 _
 rw[Fc (jZ (s:=s) (p:=λc=>!cin 4 c) (v:=((⟨0,ByteArray.empty,0⟩:Tk),false)) (B:=k+w) (b:=λx=>I1 s ((k+w:Nat):Int) x) (by omega) (λi c hi hc=>?_) ?_ w k rfl),Option.bind_some]
 · have Hv:(Be 26 (s.data.toList.drop k)=w)↔((s.data.toList.drop k).take w).all (λc=>!cin 4 c)=true:=by
     rw[<- auW _ (λc hc=>by rw[<- hw] at hc;exact yL 30 _ c hc),<- hw];exact lF (m:=26) (λc hc=>by rw[abB,Bool.and_eq_true] at hc;exact hc.1) _
   cases ha:((s.data.toList.drop k).take w).all (λc=>!cin 4 c) with
   | false =>
     rw[ha] at Hv;rw[if_neg (show ¬(false=true) by simp),if_neg (show ¬(w<=16/\Be 26 (s.data.toList.drop k)=w) from λh=>by cases Hv.1 h.2)];exact⟨_,rfl,LO.no⟩
   | true =>
     rw[ha] at Hv;rw[if_pos rfl];dsimp only[LZ];rw[Qs (by omega) (by omega),Option.bind_some,KP (by omega),show((k+w:Nat):Int) - (k:Int)=(w:Int) by omega,show k+w - k=w by omega];by_cases h16:w<=16;rw[YJ (by omega),if_pos ⟨h16,Hv.2 rfl⟩];exact⟨_,rfl,LO.yes (by decide)⟩;rw[U0 (by omega),if_neg (λh=>h16 h.1)];exact⟨_,rfl,LO.no⟩
 unfold I1;rw[H5 (by omega)];rfl;unfold I1;rw[Ij (by omega),Sa,hc];dsimp only[cond,Option.bind];rw[fB,CJ (by omega)];cases cin 4 c<;>rfl
theorem aEB{k:Nat}(hk:k < s.data.toList.length)(h2:GJ 2 (s.data.toList.drop k)=false)(h4:GJ 4 (s.data.toList.drop k)=true):∃x,MX s (k:Int)=some x/\LO (A2 (s.data.toList.drop k)) (s.data.toList.drop k) k x:=by
 unfold MX A2;rw[if_neg (by rw[h2];simp),if_pos h4,atQ hs (by omega),Option.bind_some];generalize hw:Be 30 (s.data.toList.drop k)=w at *;have hwl:w<=s.data.toList.length - k:=by rw[<- hw,<- List.length_drop];exact LI 30 _
 rw[Fc (jZ (s:=s) (p:=λc=>cin 4 c) (v:=((⟨0,ByteArray.empty,0⟩:Tk),false)) (B:=k+w) (b:=λx=>Kf s ((k+w:Nat):Int) x) (by omega) (λi c hi hc=>?_) ?_ w k rfl),Option.bind_some]
 · have Hv:(Be 4 (s.data.toList.drop k)=w)↔((s.data.toList.drop k).take w).all (λc=>cin 4 c)=true:=by
     rw[<- hw];exact lF (m:=4) (λc hc=>by rw[abC,hc];simp) _
   cases ha:((s.data.toList.drop k).take w).all (λc=>cin 4 c) with
   | false =>
     rw[ha] at Hv;rw[if_neg (show ¬(false=true) by simp),if_neg (show ¬(w=3/\Be 4 (s.data.toList.drop k)=w) from λh=>by cases Hv.1 h.2)];exact⟨_,rfl,LO.no⟩
   | true =>
     rw[ha] at Hv;rw[if_pos rfl];dsimp only[LZ];rw[Qs (by omega) (by omega),Option.bind_some,KP (by omega),show((k+w:Nat):Int) - (k:Int)=(w:Int) by omega,show k+w - k=w by omega];by_cases h3:w=3;rw[JK (by omega),if_pos ⟨h3,Hv.2 rfl⟩];exact⟨_,rfl,LO.yes (by decide)⟩;rw[KZ (by omega),if_neg (λh=>h3 h.1)];exact⟨_,rfl,LO.no⟩
 unfold Kf;rw[H5 (by omega)];rfl;unfold Kf;rw[Ij (by omega),Sa,hc];dsimp only[cond,Option.bind];rw[fB,CJ (by omega)];cases cin 4 c<;>rfl
omit hs in
theorem afP{y t:List UInt8}(h:y.isPrefixOf t=true):t.take y.length=y:=by
 rw[M4] at h;exact eq_of_beq h
theorem azG{k:Nat}(hk:k<=s.data.toList.length):∀(ys:List ByteArray) (i:Nat),(∀y∈ys,y.data.toList.length<=100000)->∃r,CL (λi y x=>JV s (k:Int) i y) (λx=>()) ys i ()=some r /\
   ((r=.inl ()/\(Li (s.data.toList.drop k) (ys.map λy=>y.data.toList)).1=0)\/∃x,r=.inr x/\LO (Li (s.data.toList.drop k) (ys.map λy=>y.data.toList)) (s.data.toList.drop k) k x):=by
 intro ys
 induction ys with
 | nil=>intro i _;exact⟨.inl (),rfl,.inl ⟨rfl,rfl⟩⟩
 | cons y ys ih =>
   intro i hy;rw[CL,List.map_cons];unfold JV Li;rw[kM hs hk (hy y (by simp)),Option.bind_some];cases hp:y.data.toList.isPrefixOf (s.data.toList.drop k) with
   | true =>
     refine⟨_,rfl,.inr ⟨_,rfl,?_⟩⟩;rw[if_pos rfl];have:=LO.yes (q:=6) (n:=y.data.toList.length) (by decide) (t:=s.data.toList.drop k) (k:=k);rw[afP hp] at this;exact this
   | false =>
     rw[if_neg (by simp)];exact ih (i+1) (λz hz=>hy z (by simp[hz]))
theorem aoB{k:Nat}(hk:k < s.data.toList.length):∃x,KB s (k:Int)=some x/\LO (A2 (s.data.toList.drop k)) (s.data.toList.drop k) k x:=by
 obtain⟨c,hc⟩:∃c,s.data.toList[k]?=some c:=⟨_,List.getElem?_eq_getElem hk⟩
 have hB:∀m,GJ m (s.data.toList.drop k)=cin m c:=by
   intro m;rcases Ma s.data.toList k with ⟨h1,h2⟩ | ⟨c',h1,h2,h3⟩
   omega;rw[hc] at h2;cases h2;rw[h3];rfl
 unfold KB;rw[Sa,hc,Option.bind_some,fA,Option.bind_some];cases h8:cin 8 c with
 | true =>
   obtain⟨x,h1,h2⟩:=xJ hs hk (by rw[hB];exact h8);obtain⟨e2,e4⟩:=avG c h8
   have:A2 (s.data.toList.drop k)=GB (s.data.toList.drop k):=by
     unfold A2;rw[hB,hB,hB,e2,e4,h8];rfl
   dsimp only[cond];rw[h1,this];exact⟨x,rfl,h2⟩
 | false =>
   dsimp only[cond];rw[aoA,Option.bind_some];cases h2:cin 2 c with
   | true =>
     obtain⟨x,e1,e2⟩:=azF hs hk (by rw[hB];exact h2);dsimp only;rw[e1];exact⟨x,rfl,e2⟩
   | false =>
     dsimp only;rw[fB,Option.bind_some];cases h4:cin 4 c with
     | true =>
       obtain⟨x,e1,e2⟩:=aEB hs hk (by rw[hB];exact h2) (by rw[hB];exact h4);dsimp only;rw[e1];exact⟨x,rfl,e2⟩
     | false =>
       have:A2 (s.data.toList.drop k)=Li (s.data.toList.drop k) Gc:=by
         unfold A2;rw[hB,hB,hB,h2,h4,h8];rfl
       obtain⟨r,e1,e2⟩:=azG hs (k:=k) (by omega) [GP,HH,G9,Fy,JC,IK,Oo,Lh,PD,EC,T4,VW,eZ,Z0,Vb,RL,T5] 0 (by decide);have e3:(([GP,HH,G9,Fy,JC,IK,Oo,Lh,PD,EC,T4,VW,eZ,Z0,Vb,RL,T5]:List ByteArray).map λy=>y.data.toList)=Gc:=rfl;rw[e3] at e2;rw[this];dsimp only;unfold KN;rw[Option.bind_some,List.drop_zero,Pq (by decide),e1,Option.bind_some];rcases e2 with ⟨rfl,e2⟩ | ⟨x,rfl,e2⟩
       exact⟨_,rfl,⟨λh=>(by cases h),λ_=>e2⟩⟩;exact⟨x,rfl,e2⟩
end
theorem afL(s:List UInt8)(k:Nat)(pre:List LexS.Tok)(h:k < s.length)(hp:pre.length=2000):DQ pre (DN s k)=([],2,k):=by
 by_cases hz:(A2 (s.drop k)).1=0;rw[Pe s k h hz,DQ,if_pos hp];rw[Lc s k h hz,DQ,if_pos hp]
theorem anR(s:List UInt8)(k:Nat)(pre:List LexS.Tok)(h:k < s.length)(hp:¬pre.length=2000)(hz:(A2 (s.drop k)).1=0):DQ pre (DN s k)=([],61,k):=by
 rw[Pe s k h hz,DQ,if_neg hp,if_pos rfl]
theorem anT(s:List UInt8)(k:Nat)(pre:List LexS.Tok)(h:k < s.length)(hp:¬pre.length=2000)(hz:(A2 (s.drop k)).1≠0):DQ pre (DN s k)=DQ (pre++[((A2 (s.drop k)).1,(s.drop k).take (A2 (s.drop k)).2,k)]) (DN s (k+(A2 (s.drop k)).2+DX (s.drop (k+(A2 (s.drop k)).2)))):=by
 rw[Lc s k h hz,DQ,if_neg hp,if_neg hz]
theorem anS(s:List UInt8)(k:Nat)(pre:List LexS.Tok)(h:s.length<=k):DQ pre (DN s k)=(pre,0,0):=by
 rw[Pd s k h,DQ]
def aDM(x:List LexS.Tok×Nat×Nat):List Tk×Int×Int:=(x.1.map IH,(x.2.1:Int),(x.2.2:Int))
theorem afR{s:ByteArray}(hs:s.data.toList.length<=6000):∀(j k:Nat) (pre:List LexS.Tok),s.data.toList.length - k<=j->k<=s.data.toList.length->pre.length<=2000->∃r:List Tk⊕(List Tk×Int×Int),EK (λx:List Tk×Int=>CS s x.1 x.2) (j+1) (pre.map IH,(k:Int))=some r /\
   LZ (λ(o:List Tk)=>some (o,(0:Int),(0:Int))) (λv=>some v) r=some (aDM (DQ pre (DN s.data.toList k))):=by
 have fin:∀(j k:Nat) (pre:List LexS.Tok),s.data.toList.length<=k->∃r:List Tk⊕(List Tk×Int×Int),EK (λx:List Tk×Int=>CS s x.1 x.2) (j+1) (pre.map IH,(k:Int))=some r /\
   LZ (λ(o:List Tk)=>some (o,(0:Int),(0:Int))) (λv=>some v) r=some (aDM (DQ pre (DN s.data.toList k))):=by
   intro j k pre h;refine⟨.inl (pre.map IH),?_,?_⟩;show(CS s (pre.map IH) (k:Int)).bind _=_;unfold CS;rw[H5 (by omega)];rfl;rw[anS _ _ _ h];rfl
 intro j
 induction j with
 | zero=>intro k pre hk hl hp;exact fin 0 k pre (by omega)
 | succ j ih =>
   intro k pre hk hl hp;rcases Nat.lt_or_ge k s.data.toList.length with h | h
   rotate_left;exact fin _ k pre h
   have go:∀{y:Lp (List Tk×Int) (List Tk) (List Tk×Int×Int)},CS s (pre.map IH) (k:Int)=some y->EK (λx:List Tk×Int=>CS s x.1 x.2) (j+1+1) (pre.map IH,(k:Int))=PW (EK (λx:List Tk×Int=>CS s x.1 x.2) (j+1)) y:=by
     intro y hy;show(CS s (pre.map IH) (k:Int)).bind _=_;rw[hy];rfl
   by_cases hf:pre.length=2000
   have:CS s (pre.map IH) (k:Int)=some (.rt ([],2,(k:Int))):=by
     unfold CS;rw[Ij (by omega),List.length_map,JK (by omega)];rfl
   refine⟨.inr ([],2,(k:Int)),(go this).trans rfl,?_⟩;rw[afL _ _ _ h hf];rfl;obtain⟨x,h1,h2,h3⟩:=aoB (s:=s) (by omega) h;cases hx:x.2 with
   | false =>
     have:CS s (pre.map IH) (k:Int)=some (.rt ([],61,(k:Int))):=by
       unfold CS;rw[Ij (by omega),List.length_map,KZ (by omega),h1];dsimp only[cond,Option.bind];rw[hx]
     refine⟨.inr ([],61,(k:Int)),(go this).trans rfl,?_⟩;rw[anR _ _ _ h hf (h3 hx)];rfl
   | true =>
     obtain⟨h4,h5⟩:=h2 hx;have hrp:=Ou _ h4;have hle:(s.data.toList.drop k).length=s.data.toList.length - k:=List.length_drop ..;generalize hn:(A2 (s.data.toList.drop k)).2=n at *;have hsk:=O2 (s.data.toList.drop (k+n));rw[List.length_drop] at hsk
     have htl:x.1.text.data.toList.length=n:=by
       rw[h5];show((s.data.toList.drop k).take n).length=n;rw[List.length_take];omega
     have:CS s (pre.map IH) (k:Int)=some (.nx ((pre++[((A2 (s.data.toList.drop k)).1,(s.data.toList.drop k).take n,k)]).map IH,((k+n+DX (s.data.toList.drop (k+n)):Nat):Int))):=by
       unfold CS;rw[Ij (by omega),List.length_map,KZ (by omega),h1];dsimp only[cond,Option.bind];rw[hx];dsimp only;rw[htl,CJ (by omega),show(k:Int)+(n:Int)=((k+n:Nat):Int) by omega,Ff (by omega),afS (by omega) (by omega)];dsimp only;rw[h5,List.map_append];rfl
     obtain⟨r,e1,e2⟩:=ih (k+n+DX (s.data.toList.drop (k+n))) (pre++[((A2 (s.data.toList.drop k)).1,(s.data.toList.drop k).take n,k)]) (by omega) (by omega) (by simp only[List.length_append,List.length_singleton];omega);refine⟨r,(go this).trans e1,?_⟩;rw[e2,anT _ _ _ h hf h4,hn]
theorem azJ(s:ByteArray):K9 s=ID s:=by
 unfold K9 ID Lg;by_cases h:6000 < s.data.toList.length;rw[Ij (by omega),if_pos h];rfl;rw[H5 (by omega),if_neg h];dsimp only[cond];have h0:=afS (s:=s) (k:=0) (by omega) (Nat.zero_le _);rw[show((0:Nat):Int)=0 from rfl,List.drop_zero,Nat.zero_add] at h0;have:=O2 s.data.toList;obtain⟨r,e1,e2⟩:=afR (s:=s) (by omega) s.data.toList.length (DX s.data.toList) [] (by omega) (by omega) (by simp);rw[List.map_nil] at e1;rw[h0,Option.bind_some,Mh,Fc e1,Option.bind_some];exact e2
theorem aoK(s:ByteArray):K9 s=some (DY s,(Pp s:Int),(aDL s:Int)):=azJ s
theorem aiM(s:ByteArray):JO s=some (mb (Pp s=0)):=by
 unfold JO;rw[aoK,Option.bind_some];dsimp only;rw[aJA];by_cases h:Pp s=0;rw[Cv (by omega),C4.2 h];rw[Cy (by omega),YP h]
end Mo
end Go.Proofs.YtpbkhogolfegfaaGreatDoor
namespace Go.Proofs.YtpbkhogolfegfaaGreatDoor
open AI Go LexS
namespace Mo
set_option maxRecDepth 100000
set_option maxHeartbeats 4000000
section
variable {S:Int->Int->Prop} {en en':Int}
def alS{l l':List Tk}(h:F2 S l l'):F2 S (Ox l) (Ox l'):=by
 induction h with
 | nil=>exact .nil
 | cons ht f ih =>
   rename_i t t' l l';unfold Ox;have:N3 t=N3 t':=by unfold N3;rw[ht.2.1]
   rw[<- this];cases N3 t;exact ih;exact .cons ht f
def aDT{n n':Nd}(h:NR S n n'):DB n=DB n'/\M3 n=M3 n'/\KO n=KO n':=by
 refine NR.rec (S:=S) (motive_1:=λa b _=>DB a=DB b/\M3 a=M3 b/\KO a=KO b) (motive_2:=λa b _=>Ge a=Ge b/\Uq a=Uq b/\a.map KO=b.map KO) ?_ ⟨rfl,rfl,rfl⟩ ?_ h;intro k nm u n f t kn tb ks ks' a a' _ _ ih;refine⟨by simp only[DB,ih.1],by simp only[M3,ih.2.1],?_⟩;rw[Mf,Mf,ih.2.2];intro n n' l l' _ _ h1 h2;exact⟨by simp only[Ge,h1.1,h2.1],by simp only[Uq,h1.2.1,h2.2.1],by rw[List.map_cons,List.map_cons,h1.2.2,h2.2.2]⟩
def ayK{l l':List Nd}(h:cJ S l l'):Ge l=Ge l'/\Uq l=Uq l'/\l.map KO=l'.map KO:=by
 induction l generalizing l' with
 | nil=>cases h;exact⟨rfl,rfl,rfl⟩
 | cons n l ih =>
   cases h with
   | cons h1 h2 =>
     have a:=aDT h1;have b:=ih h2;exact⟨by simp only[Ge,a.1,b.1],by simp only[Uq,a.2.1,b.2.1],by rw[List.map_cons,List.map_cons,a.2.2,b.2.2]⟩
def uF:∀(q q':Nat) {l l':List Tk} {ks ks':List Nd} {ds ds':List Dg} {r r':List Nd×List Dg},F2 S l l'->cJ S ks ks'->ds.map Dg.err=ds'.map Dg.err->I9 en q l ks ds=some r->I9 en' q' l' ks' ds'=some r'->cJ S r.1 r'.1/\r.2.map Dg.err=r'.2.map Dg.err:=by
 intro q
 induction q with
 | zero=>intro q' l l' ks ks' ds ds' r r' _ _ _ h;cases h
 | succ q ih =>
   intro q' l l' ks ks' ds ds' r r' f hk hd h h';cases q' with
   | zero=>cases h'
   | succ q' =>
     cases f with
     | nil=>cases h;cases h';exact⟨hk,hd⟩
     | cons ht f =>
       rename_i t t' l l';unfold I9 at h h';have hl:ds.length=ds'.length:=by have:=congrArg List.length hd;simpa using this
       rw[<- hl] at h';cases hc:Et ((ds.length:Nat):Int) 20 with
       | false=>rw[hc] at h h';cases h;cases h';exact⟨hk,hd⟩
       | true =>
         rw[hc] at h h';dsimp only[cond] at h h';split at h;cases h;rename_i n s hi;split at h';cases h';rename_i n' s' Nt;rcases Vd (S:=S) (en:=en) (en':=en') (w:=[]) (b:=true) (.cons ht f) hi (by rw[List.append_nil];exact Nt) with ⟨s1,rfl,f1,q⟩ | ⟨hw,_⟩
         cases q with
         | l q=>exact ih q' (by rw[List.append_nil];exact f1) (U4 hk (.cons q .nil)) hd h h'
         exact absurd rfl hw;rename_i d' s' Nt;rcases Vd (S:=S) (en:=en) (en':=en') (w:=[]) (b:=true) (.cons ht f) hi (by rw[List.append_nil];exact Nt) with ⟨s1,rfl,f1,q⟩ | ⟨hw,_⟩
         cases q;exact absurd rfl hw
         · rename_i d s hi
           split at h';cases h';rename_i n' s' Nt;rcases Vd (S:=S) (en:=en) (en':=en') (w:=[]) (b:=true) (.cons ht f) hi (by rw[List.append_nil];exact Nt) with ⟨s1,rfl,f1,q⟩ | ⟨hw,_⟩
           cases q;exact absurd rfl hw
           · rename_i d' s' Nt
             rcases Vd (S:=S) (en:=en) (en':=en') (w:=[]) (b:=true) (.cons ht f) hi (by rw[List.append_nil];exact Nt) with ⟨s1,rfl,f1,q⟩ | ⟨hw,_⟩
             · cases q with
               | r q =>
                 refine ih q' (by rw[List.append_nil];exact alS f1) hk ?_ h h';rw[List.map_append,List.map_append,hd];simp only[List.map_cons,List.map_nil,q.1]
             exact absurd rfl hw
end
def pP{s:ByteArray}(h:Pp s=0):∃ks ds,I9 ((s.data.toList.length:Nat):Int) ((DY s).length+1) (DY s) [] []=some (ks,ds)/\Cf s=some (vH ks ds)/\Ge ks<=2000/\ds.length<=20/\KU (Gw ks)/\ZY (Gw ks):=by
 obtain⟨ks,ds,h1,h2,h3,h4⟩:=Xt h;have hv:=aiD _ _ _ _ _ (fQ s) (by have:=(Mg s).2;omega) (λk hk=>by cases hk) h1;dsimp only at hv;have:=bC hv (by omega);exact⟨ks,ds,h1,h2,h3,h4,this.1,this.2⟩
end Mo
end Go.Proofs.YtpbkhogolfegfaaGreatDoor
