/- Part of a proof: see the last text. -/
import Derived.Test.YtpbkhogolfegfaaGreatDoorPts
set_option linter.unusedVariables false
set_option linter.unusedSimpArgs false
set_option linter.defProp false
noncomputable section
namespace Go.Proofs.YtpbkhogolfegfaaGreatDoor
open AI Go
namespace Mo
set_option maxRecDepth 100000
def tL{x:Int}(h:-9223372036854775808<=x/\x<=9223372036854775807):IntKind.i64.wrap x=x:=by
 unfold IntKind.wrap;simp[IntKind.bits,IntKind.signed];omega
def Xx{a b:Int}(ha:0<=a)(hb:0 < b)(h:a<=9223372036854775807):Si a b=some (a / b):=by
 unfold Si xC;rw[if_neg (by omega),Int.tdiv_eq_ediv_of_nonneg ha,tL];exact⟨by have:=Int.ediv_nonneg ha (Int.le_of_lt hb);omega,by have:=Int.ediv_le_self b ha;omega⟩
structure Gd(t:Tk):Prop where
 num:t.kind=3->∃z,Rk t.text=some (z,())/\0<=z/\z<=999999999999
 pU:t.kind=3\/t.kind=4->∃z,Cp t=some z/\0<=z/\z<=999999999999
 date:t.kind=5->∃d e,Fc t.text=some (d,e)/\(e=0->0<=d/\d<=36524)
 len:t.text.data.toList.length<=6000
def Gl(l:List Tk):Prop:=∀t∈l,Gd t
section
variable {α β:Type} {n:Nat} {st:Bool} {P:α->Prop} {P2:β->Prop}
def UT(n:Nat)(st:Bool)(P:α->Prop)(m:Rd α):Prop:=∀⦃l:List Tk⦄,Gl l->l.length<=n->∃r s,m l=some (r,s)/\(∃k,s=l.drop k)/\∀a,r=.inl a->P a/\(st=true->s.length < l.length)
def Gl.drop{l:List Tk}(h:Gl l)(k:Nat):Gl (l.drop k):=λt ht=>h t (List.mem_of_mem_drop ht)
def Xz{l:List Tk}{k j:Nat}:(l.drop k).drop j=l.drop (k+j):=by rw[List.drop_drop]
def Bw{m:Rd α}{K:α->Rd β}(h1:UT n true P m)(h2:∀a,P a->1<=n->UT (n - 1) false P2 (K a)):UT n st P2 (Ct m K):=by
 intro l hg hl;obtain⟨r,s,e,⟨k,rfl⟩,hr⟩:=h1 hg hl;cases r with
 | inr d=>exact⟨.inr d,_,by unfold Ct;rw[e],⟨k,rfl⟩,λa h=>by cases h⟩
 | inl a =>
   obtain⟨pa,hs⟩:=hr a rfl;have hs:=hs rfl;obtain⟨r2,s2,e2,⟨j,rfl⟩,Y2⟩:=h2 a pa (by omega) (hg.drop k) (by omega);refine⟨r2,_,by unfold Ct;rw[e];exact e2,⟨k+j,Xz⟩,λb hb=>⟨(Y2 b hb).1,λ_=>?_⟩⟩;simp only[List.length_drop] at hs ⊢;omega
def agz{m:Rd α}{K:α->Rd β}(h1:UT n false P m)(h2:∀a,P a->UT n st P2 (K a)):UT n st P2 (Ct m K):=by
 intro l hg hl;obtain⟨r,s,e,⟨k,rfl⟩,hr⟩:=h1 hg hl;cases r with
 | inr d=>exact⟨.inr d,_,by unfold Ct;rw[e],⟨k,rfl⟩,λa h=>by cases h⟩
 | inl a =>
   obtain⟨pa,_⟩:=hr a rfl;obtain⟨r2,s2,e2,⟨j,rfl⟩,Y2⟩:=h2 a pa (hg.drop k) (by rw[List.length_drop];omega);refine⟨r2,_,by unfold Ct;rw[e];exact e2,⟨k+j,Xz⟩,λb hb=>⟨(Y2 b hb).1,λh=>?_⟩⟩;have:=(Y2 b hb).2 h;simp only[List.length_drop] at this ⊢;omega
def UT.YR{m:Rd α}(h:UT n st P m):UT n false P m:=λl hg hl=>by
 obtain⟨r,s,e,h1,h2⟩:=h hg hl;exact⟨r,s,e,h1,λa ha=>⟨(h2 a ha).1,λh=>by cases h⟩⟩
def UT.imp{Q:α->Prop}{m:Rd α}(h:UT n st P m)(f:∀a,P a->Q a):UT n st Q m:=λl hg hl=>by
 obtain⟨r,s,e,h1,h2⟩:=h hg hl;exact⟨r,s,e,h1,λa ha=>⟨f a (h2 a ha).1,(h2 a ha).2⟩⟩
def UT.le{n':Nat}{m:Rd α}(h:UT n st P m)(hn:n'<=n):UT n' st P m:=λ_ hg hl=>h hg (by omega)
def DO{a:α}(h:P a):UT n false P (FE a):=λl _ _=>⟨.inl a,l,rfl,⟨0,rfl⟩,λb hb=>by cases hb;exact⟨h,λh=>by cases h⟩⟩
def IR{e p:Int}:UT n st P (Mf e p):=λl _ _=>⟨_,l,rfl,⟨0,rfl⟩,λb hb=>by cases hb⟩
def N0{X:Option β}{K:β->Rd α}(h:∃b,X=some b/\UT n st P (K b)):UT n st P (Li X K):=by
 obtain⟨b,rfl,h⟩:=h;exact h
def YM{en:Int}{K:Tk->Rd α}(h:∀t,Gd t->∀s,Gl (t::s)->(t::s).length<=n->∃r s',K t (t::s)=some (r,s')/\(∃k,s'=(t::s).drop k)/\∀a,r=.inl a->P a/\(st=true->s'.length < (t::s).length)):UT n st P (Uw en K):=by
 intro l hg hl;cases l with
 | nil=>exact⟨_,[],rfl,⟨0,rfl⟩,λa h=>by cases h⟩
 | cons t s=>exact h t (hg t (List.mem_cons_self ..)) s hg hl
def RS{K:Rd α}(h:UT (n - 1) false P K){t:Tk}{s:List Tk}(hg:Gl (t::s))(hl:(t::s).length<=n) :
   ∃r s',U0 K (t::s)=some (r,s')/\(∃k,s'=(t::s).drop k)/\∀a,r=.inl a->P a/\(st=true->s'.length < (t::s).length):=by
 have xM:s.length+1<=n:=hl;obtain⟨r,s2,e,⟨k,rfl⟩,hr⟩:=h (l:=s) (λt ht=>hg t (List.mem_cons_of_mem _ ht)) (by omega);refine⟨r,_,e,⟨k+1,rfl⟩,λa ha=>⟨(hr a ha).1,λ_=>?_⟩⟩;rw[List.length_drop,List.length_cons];omega
def VD{x:ByteArray}{A B:Rd α}(h1:1<=n->UT (n - 1) false P A)(h2:UT n st P B):UT n st P (NT x A B):=by
 intro l hg hl;unfold NT;cases hx:I6 x l with
 | false=>exact h2 hg hl
 | true =>
   cases l with
   | nil=>cases hx
   | cons t s=>exact RS (h1 (by simp only[List.length_cons] at hl;omega)) hg hl
def VC{c:Nat}{m:Rd α}(hc:c<=100000000)(h:UT n st P m):UT n st P (Od c m):=by
 intro l hg hl;unfold Od;rw[GV hc];exact h hg hl
def FX{c:Bool}{A B:Rd α}(h1:c=true->UT n st P A)(h2:c=false->UT n st P B):UT n st P (cond c A B):=by
 cases c;exact h2 rfl;exact h1 rfl
end
section
variable {n:Nat} {en:Int} {st:Bool}
def M8{f:Tk->Option Bool}(hf:∀t,∃b,f t=some b):UT n st (λt=>Gd t/\f t=some true) (Lc en f):=by
 refine YM λt hg s ZP hl=>?_;obtain⟨b,hb⟩:=hf t;unfold Li;rw[hb];cases b with
 | true=>exact RS (DO ⟨hg,hb⟩) ZP hl
 | false=>exact IR ZP hl
def DX{c:Bool}{α:Type}{x y:Option α}(h1:∃z,x=some z)(h2:∃z,y=some z):∃z,cond c x y=some z:=by cases c;exact h2;exact h1
def EY(x:ByteArray):UT n st (λ_=>True) (Jl en x):=(M8 λt=>DX ⟨_,rfl⟩ ⟨_,rfl⟩).imp λ_ _=>trivial
def VU(t:Tk):∃b,Cu t=some b:=by
 unfold Cu;rw[abf];exact DX (DX ⟨_,rfl⟩ ⟨_,rfl⟩) ⟨_,rfl⟩
def RM(x:ByteArray):∃b,El x=some b:=DX ⟨_,rfl⟩ (DX ⟨_,rfl⟩ (DX ⟨_,rfl⟩ (DX ⟨_,rfl⟩ ⟨_,rfl⟩)))
def W2:UT n st (λt=>Gd t/\Cu t=some true) (rK en):=M8 VU
def tA:UT n st (λt=>Gd t/\EX t=some true) (ac1 en):=M8 λt=>DX ⟨_,rfl⟩ (DX ⟨_,rfl⟩ (DX ⟨_,rfl⟩ (DX ⟨_,rfl⟩ ⟨_,rfl⟩)))
def s9:UT n st (λt=>Gd t/\BT t=some true) (sG en):=M8 λt=>by
 unfold BT;obtain⟨b,hb⟩:=RM t.text;rw[hb];exact DX ⟨_,rfl⟩ ⟨_,rfl⟩
def Qe{a b:Int}{x:Bool}(h:cond (DZ a b) (some true) (some false)=some x):x=DZ a b:=by
 revert h;cases DZ a b<;>exact λh=>(Option.some.inj h).symm
def aO:UT n st (λp:Int×Int=>0<=p.1/\p.1<=999999999999) (MT en):=by
 refine Bw (M8 λt=>DX ⟨_,rfl⟩ ⟨_,rfl⟩) λt ht _=>?_;obtain⟨z,h1,h2⟩:=ht.1.num (Fw (Qe ht.2).symm);exact N0 ⟨_,h1,DO h2⟩
def N1(least:Int):UT n st (λp:Int×Int=>least<=p.1/\p.1<=1000000) (LB en least) :=
 Bw aO λp hp _=>FX (λ_=>IR) λh1=>FX (λ_=>IR) λh2=>DO ⟨Ku h1,Ku h2⟩
def W1(least:Int):UT n st (λd:Int=>least<=d/\0<=d/\d<=36524) (Uf en least):=by
 refine Bw (M8 λt=>DX ⟨_,rfl⟩ ⟨_,rfl⟩) λt ht _=>?_;obtain⟨d,e,h1,h2⟩:=ht.1.date (Fw (Qe ht.2).symm);exact N0 ⟨_,h1,FX (λh=>FX (λ_=>IR) λh3=>DO ⟨Ku h3,h2 (Fw h)⟩) λ_=>IR⟩
def s6:UT n st (λ_=>True) (ZO en) :=
 Bw (EY _) λ_ _ _=>Bw (N1 _) λ_ _ _=>Bw (EY _) λ_ _ _=>Bw (W1 _) λ_ _ _ =>
   VD (λ_=>Bw (W1 _) λ_ _ _=>Bw (EY _) λ_ _ _=>Bw (W1 _) λ_ _ _=>DO trivial) (Bw (EY _) λ_ _ _=>Bw (W1 _) λ_ _ _=>DO trivial)
def s5:UT n st (λ_=>True) (Ug en):=by
 refine YM λt hg s ZP hl=>RS ((Bw W2 λm _ _=>Bw (EY _) λ_ _ _=>Bw tA λu _ _=>FX (λ_=>Bw s9 λr _ _=>?_) λ_=>Bw (EY _) λ_ _ _=>DO trivial)) ZP hl;obtain⟨b,hb⟩:=RM r.text;exact N0 ⟨b,hb,Bw (EY _) λ_ _ _=>DO trivial⟩
def SW:UT n st (λ_=>True) (Ge en):=Bw (N1 _) λ_ _ _=>DO trivial
def YN:UT n st (λp:Int×Int=>0<=p.1/\p.1<=999999999999) (N3 en):=by
 refine Bw (M8 λt=>DX ⟨_,rfl⟩ (DX ⟨_,rfl⟩ ⟨_,rfl⟩)) λt ht _=>?_
 have hk:t.kind=3\/t.kind=4:=by
   have h:=ht.2;unfold Da at h;cases h4:DZ t.kind 4 with
   | true=>exact .inr (Fw h4)
   | false =>
     rw[h4] at h;exact .inl (Fw (Qe h).symm)
 obtain⟨z,h1,h2⟩:=ht.1.pU hk;exact N0 ⟨_,h1,FX (λ_=>FX (λ_=>DO h2) λ_=>IR) λ_=>DO h2⟩
def agD:UT n st (λs:Int=>s=1\/s=-1) (V8 en) :=
 Bw (M8 λt=>DX ⟨_,rfl⟩ (DX ⟨_,rfl⟩ ⟨_,rfl⟩)) λt _ _=>FX (λ_=>DO (.inr rfl)) λ_=>DO (.inl rfl)
def PcP(x:Pt×Int):Prop:=1<=x.2/\x.2<=1000000/\1<=x.1.den/\x.1.den<=1000000/\-1000000<=x.1.num/\x.1.num<=1000000
def aQ{Ax:Int}(hc:1<=Ax/\Ax<=1000000)(from_ a:Int):UT n st PcP (OA en Ax from_ a):=by
 refine Bw agD λs hs _=>Bw (N1 _) λm hm _=>Bw (EY _) λ_ _ _=>Bw (N1 _) λd hd _=>?_;obtain⟨g,h1,h2,⟨c1,h3⟩,⟨c2,h4⟩⟩:=aav hc.1 (show(0:Int)<=d.1 by omega);refine N0 ⟨g,h1,N0 ⟨_,Xx (by omega) (by omega) (by omega),FX (λ_=>IR) λh5=>DO ?_⟩⟩;have hq:Ax / g=c1:=by rw[h3,Int.mul_ediv_cancel_left _ (by omega)]
 have ZM:1<=c1:=by
   by_cases h:1<=c1;exact h;have:=Int.mul_nonpos_of_nonneg_of_nonpos (show 0<=g by omega) (show c1<=0 by omega);omega
 have hc2:c1<=1000000:=by
   have:=Int.mul_le_mul_of_nonneg_right h2 (show 0<=c1 by omega);omega
 have hw:BN (Ax / g) d.1=c1*d.1:=by
   rw[hq];have a1:=Int.mul_le_mul hc2 hd.2 (by omega) (by omega);have a2:=Int.mul_nonneg (show 0<=c1 by omega) (show 0<=d.1 by omega);exact Iz (by omega)
 have h6:=Ku h5
 have a1:1<=c1*d.1:=by
   have:=Int.mul_le_mul_of_nonneg_right ZM (show 0<=d.1 by omega);omega
 refine⟨by rw[hw];exact a1,h6,hd.1,hd.2,?_⟩;dsimp only;rcases hs with rfl | rfl
 rw[Iz (by omega)];omega;rw[Iz (by omega)];omega
def aP{Ax:Int}(hc:1<=Ax/\Ax<=1000000)(from_:Int):UT n st PcP (MY en Ax from_) :=
 Bw (EY _) λ_ _ _=>VD (λ_=>Bw YN λ_ _ _=>aQ hc _ _) (Bw YN λ_ _ _=>aQ hc _ _)
def ac4(before:List Pt){Ax:Int}(hc:1<=Ax/\Ax<=1000000):UT n st (λx=>PcP x/\before.length<=63) (RH en before Ax):=by
 refine Bw YN λv hv _=>FX (λh=>FX (λ_=>(aP hc _).imp λx hx=>⟨hx,?_⟩) λ_=>IR) λh=>?_;have:=Fw h;omega;have hb:before.length≠0:=λe=>ZD h (by rw[e];rfl);refine N0 ⟨before[before.length - 1]'(by omega),List.getElem?_eq_getElem (by omega),FX (λ_=>IR) λ_=>FX (λ_=>IR) λh2=>(aP hc _).imp λx hx=>⟨hx,?_⟩⟩;have:=abj h2;omega
end
end Mo
end Go.Proofs.YtpbkhogolfegfaaGreatDoor
namespace Go.Proofs.YtpbkhogolfegfaaGreatDoor
open AI Go
namespace Mo
set_option maxRecDepth 100000
section
variable {α β:Type} {n:Nat} {en:Int} {st:Bool} {P:α->Prop}
abbrev TT{α:Type}:α->Prop:=λ_=>True
def kJ{K:Nat->Rd α}(h:∀k,k<=n->UT k st P (K (k+1))):UT n st P (λs=>K (s.length+1) s):=λl hg hl=>h l.length hl hg (Nat.le_refl _)
def agC{read:Rd Nd}:∀(q n:Nat) (ns:List Nd),n < q->ns.length+n<=100000->UT n true TT read->UT n false (λr:List Nd=>r.length<=ns.length+n) (QQ read q ns):=by
 intro q
 induction q with
 | zero=>intro n ns h;omega
 | succ q ih =>
   intro n ns hn hl hr;refine VD (λh1=>Bw (hr.le (by omega)) λx _ h2=>VC (by omega) ?_) (DO (by omega));refine(ih (n - 1 - 1) (ns++[x]) (by omega) (by simp only[List.length_append,List.length_singleton];omega) (hr.le (by omega))).imp λr hr=>?_;simp only[List.length_append,List.length_singleton] at hr;omega
def s8{read:Rd Nd}(hn:n<=10000)(hr:UT n true TT read):UT n st (λr:List Nd=>r.length<=n+1) (RD read) :=
 Bw hr λx _ h1=>kJ (K:=λq=>QQ read q [x]) λk hk=>(agC (k+1) k [x] (by omega) (by simp only[List.length_singleton];omega) (hr.le (by omega))).imp λr h=>by simp only[List.length_singleton] at h;omega
def afG:∃y,Jw JZ JZ KJ 1=some y:=⟨_,rfl⟩
def afF:∃y,Jw Hk JZ KJ 1=some y:=⟨_,rfl⟩
def fT(op:ByteArray)(l r:Nd):∃x,A7 op l r=some x:=by
 unfold A7;cases h1:BZ op.data.toList JZ.data.toList with
 | true =>
   obtain⟨y,hy⟩:=afG;rw[Oj h1,hy];exact⟨_,rfl⟩
 | false =>
   cases h2:BZ op.data.toList Hk.data.toList with
   | true =>
     obtain⟨y,hy⟩:=afF;rw[Oj h2,hy];exact⟨_,rfl⟩
   | false=>exact⟨_,rfl⟩
def ah4{yes:ByteArray->Rd α}{no:Rd α}(h1:∀x,1<=n->UT (n - 1) false P (yes x))(h2:UT n st P no):∀ops:List ByteArray,UT n st P (lV yes no ops):=by
 intro ops
 induction ops with
 | nil=>exact h2
 | cons x ops ih=>exact VD (h1 x) ih
def kL{sub:Rd Nd}(h:UT n true TT sub)(op:ByteArray)(l:Nd):UT n st TT (Qq en sub op l) :=
 Bw (FX (λ_=>SW) λ_=>h) λr _ _=>by
   obtain⟨x,hx⟩:=fT op l r;exact N0 ⟨x,hx,DO trivial⟩
def ac3{ops:List ByteArray}{sub:Rd Nd}:∀(q n:Nat) (l:Nd),n < q->UT n true TT sub->UT n false TT (KQ en ops sub q l):=by
 intro q
 induction q with
 | zero=>intro n l h;omega
 | succ q ih =>
   intro n l hn hs;exact ah4 (λx h1=>Bw (kL (hs.le (by omega)) x l) λb _ h2=>ih (n - 1 - 1) b (by omega) (hs.le (by omega))) (DO trivial) ops
def PsP(r:List Pt×Int):Prop:=r.1.length<=64/\1<=r.2/\r.2<=1000000/\∀x∈r.1,1<=x.den/\-1000000<=x.num/\x.num<=1000000
def wU:∀(q n:Nat) (ps:List Pt) (c:Int),n < q->1<=c->c<=1000000->(∀x∈ps,1<=x.den/\-1000000<=x.num/\x.num<=1000000)->UT n st PsP (LL en q ps c):=by
 intro q
 induction q generalizing st with
 | zero=>intro n ps c h;omega
 | succ q ih =>
   intro n ps c hn h1 h2 h3;refine Bw (ac4 ps ⟨h1,h2⟩) λx hx h4=>?_;obtain⟨⟨a1,a2,a3,a4,a5,a6⟩,hb⟩:=hx
   have h5:∀y∈ps++[x.1],1<=y.den/\-1000000<=y.num/\y.num<=1000000:=by
     intro y hy;rcases List.mem_append.1 hy with hy | hy
     exact h3 y hy;rw[List.mem_singleton.1 hy];exact⟨a3,a5,a6⟩
   exact VC (by omega) (VD (λh6=>ih (n - 1 - 1) _ _ (by omega) a1 a2 h5) (DO ⟨by simp only[List.length_append,List.length_singleton];omega,a1,a2,h5⟩))
def wV{c:Int}(hc:1<=c/\c<=1000000)(p:Int):∀(ps:List Pt) (acc:List Pc),(∀x∈ps,1<=x.den)->acc.length+ps.length<=1000->UT n false TT (LR c p ps acc):=by
 intro ps
 induction ps with
 | nil=>intro acc _ _;exact DO trivial
 | cons x ps ih =>
   intro acc h1 h2;have:=h1 x (List.mem_cons_self ..);simp only[List.length_cons] at h2;exact N0 ⟨_,Xx (by omega) (by omega) (by omega),FX (λ_=>IR) λ_=>FX (λ_=>IR) λ_=>VC (by omega) (ih _ (λy hy=>h1 y (List.mem_cons_of_mem _ hy)) (by simp only[List.length_append,List.length_singleton];omega))⟩
def UW(n:Nat)(m:Rd Nd):Prop:=∀t s,Gl (t::s)->(t::s).length<=n->∃r s',m (t::s)=some (r,s')/\(∃k,s'=(t::s).drop k)/\∀a,r=.inl a->True/\(true=true->s'.length < (t::s).length)
structure Tot(q:Nat)(g:Ek->Rd Nd)(li:Rd (List Nd)):Prop where
 ex:∀n,n<=10000->10*n+11<=q->UT n true TT (g .ex)
 lv:∀i n,i<=6->n<=10000->10*n+10 - i<=q->UT n true TT (g (.lv i))
 at_:∀n,n<=10000->10*n+3<=q->UT n true TT (g .at_)
 wd:∀t n,n<=10000->10*n+2<=q->UW n (g (.wd t))
 ca:∀n,n<=10000->10*n+1<=q->UT n true TT (g .ca)
 ta:∀n,n<=10000->10*n+1<=q->UT n true TT (g .ta)
 li:∀n,n<=10000->10*n+12<=q->UT n true (λr:List Nd=>r.length<=n+1) li
section
variable {q:Nat} {g:Ek->Rd Nd} {li:Rd (List Nd)} (A:Tot q g li)
include A
def UL{i:Nat}(hi:i<=5)(hn:n<=10000)(hq:10*n+9 - i<=q):UT n true TT (Ny en g i) :=
 Bw (A.lv (i+1) n (by omega) hn (by omega)) λl _ h1=>kJ (K:=λq=>KQ en (opsOf i) (g (.lv (i+1))) q l) λk hk=>ac3 (k+1) k l (by omega) (A.lv (i+1) k (by omega) (by omega) (by omega))
def agB(hn:n<=10000)(hq:10*n+6<=q):UT n true TT (gF en g) :=
 Bw (A.lv 4 n (by omega) hn (by omega)) λl _ h1=>ah4 (λx h2=>kL (A.lv 4 _ (by omega) (by omega) (by omega)) x l) (DO trivial) _
def akC(hn:n<=10000)(hq:10*n+7<=q):UT n true TT (Ye en g):=by
 intro l hg hl;unfold Ye;cases hx:I6 Ur l with
 | false=>exact A.lv 3 n (by omega) hn (by omega) hg hl
 | true=>exact Bw (EY _) (λt _ h1=>Bw (A.lv 2 (n - 1) (by omega) (by omega) (by omega)) λk _ _=>DO trivial) hg hl
def agA(hn:n<=10000)(hq:10*n<=q):UT n true TT (Xr en g li):=by
 refine YM λt hg s ZP hl=>RS (Bw (EY _) λ_ _ h1=>Bw (A.ex _ (by omega) (by omega)) λa _ h2=>Bw (EY _) λ_ _ h3=>Bw (A.li _ (by omega) (by omega)) λl hl h4=>VC (by omega) (Bw (EY _) λ_ _ _=>DO trivial)) ZP hl
def ac5(hn:n<=10000)(hq:10*n<=q):UT n true TT (YC en g):=by
 refine Bw (EY _) λt _ h1=>Bw (EY _) λ_ _ h2=>Bw (A.ex _ (by omega) (by omega)) λa _ h3=>Bw (EY _) λ_ _ h4=>Bw (P:=PsP) (kJ (K:=λq=>LL en q [] 1) λk hk=>wU (k+1) k [] 1 (by omega) (by omega) (by omega) (λx hx=>by cases hx)) λr hr h5=>Bw (EY _) λe _ h6=>?_;exact VC (by have:=hr.1;omega) (agz (wV ⟨hr.2.1,hr.2.2.1⟩ _ _ _ (λx hx=>(hr.2.2.2 x hx).1) (by have:=hr.1;simp only[List.length_nil];omega)) λ_ _=>DO trivial)
def agE(t:Tk)(hn:n<=10000)(hq:10*n+1<=q):UW n (QW en g t):=by
 intro t' s hg hl;have one:∀{x:Nd},∃r s',U0 (FE x) (t'::s)=some (r,s')/\(∃k,s'=(t'::s).drop k)/\∀a,r=.inl a->True/\(true=true->s'.length < (t'::s).length):=λ{x}=>RS (DO trivial) hg hl;have h1:1<=n:=by simp only[List.length_cons] at hl;omega
 unfold QW;cases BZ t.text.data.toList YH.data.toList;rotate_left;exact one;cases BZ t.text.data.toList Ta.data.toList;rotate_left;exact one;cases BZ t.text.data.toList bM.data.toList;rotate_left;exact RS (Bw (N1 _) λ_ _ _=>DO trivial) hg hl;cases BZ t.text.data.toList Ld.data.toList;rotate_left;exact one;cases BZ t.text.data.toList bW.data.toList;rotate_left;exact one;cases BZ t.text.data.toList Qh.data.toList;rotate_left;exact one;cases BZ t.text.data.toList UZ.data.toList;rotate_left;exact one;cases BZ t.text.data.toList Kn.data.toList;rotate_left;exact A.ca n hn hq hg hl;cases BZ t.text.data.toList FF.data.toList;rotate_left;exact A.ca n hn hq hg hl;cases BZ t.text.data.toList Qz.data.toList;rotate_left;exact A.ta n hn hq hg hl;cases BZ t.text.data.toList dH.data.toList;rotate_left;exact RS (UT.YR (Bw (st:=true) (A.ex (n - 1) (by omega) (by omega)) λ_ _ _=>Bw (EY _) λ_ _ _=>DO trivial)) hg hl;exact IR (st:=true) (P:=TT) hg hl
def agy(hn:n<=10000)(hq:10*n+2<=q):UT n true TT (Xm en g):=by
 refine YM λt ht s hg hl=>?_;cases DZ t.kind 3;rotate_left;exact Bw (st:=true) (P2:=TT) aO (λ_ _ _=>VD (λ_=>DO trivial) (DO trivial)) hg hl;cases DZ t.kind 2;rotate_left;refine RS (Bw (M8 λt=>DX ⟨_,rfl⟩ ⟨_,rfl⟩) λa ha _=>?_) hg hl;obtain⟨z,h1,_⟩:=ha.1.pU (.inr (Fw (Qe ha.2).symm));exact N0 ⟨z,h1,DO trivial⟩;obtain⟨b,hb⟩:=VU t;unfold cond Li;dsimp only;rw[hb];cases b;exact A.wd t n hn hq t s hg hl;exact RS (DO trivial) hg hl
end
def sX:∀q:Nat,Tot q (gP en q).1 (gP en q).2:=by
 intro q
 induction q with
 | zero=>constructor<;>intros<;>omega
 | succ q A =>
   constructor
   case ex=>intro n hn hq;exact A.lv 0 n (by omega) hn (by omega)
   case lv =>
     intro i n hi hn hq;show UT n true TT (OD en (gP en q).1 (gP en q).2 (.lv i));have:i=0\/i=1\/i=2\/i=3\/i=4\/i=5\/i=6:=by omega
     rcases this with rfl | rfl | rfl | rfl | rfl | rfl | rfl
     exact UL A (by omega) hn (by omega);exact UL A (by omega) hn (by omega);exact akC A hn (by omega);exact agB A hn (by omega);exact UL A (by omega) hn (by omega);exact UL A (by omega) hn (by omega);exact A.at_ n hn (by omega)
   case at_=>intro n hn hq;exact agy A hn (by omega)
   case wd=>intro t n hn hq;exact agE A t hn (by omega)
   case ca=>intro n hn hq;exact agA A hn (by omega)
   case ta=>intro n hn hq;exact ac5 A hn (by omega)
   case li=>intro n hn hq;exact s8 hn (A.ex n hn (by omega))
end
end Mo
end Go.Proofs.YtpbkhogolfegfaaGreatDoor
namespace Go.Proofs.YtpbkhogolfegfaaGreatDoor
open AI Go
namespace Mo
set_option maxRecDepth 100000
def qC:∀l:List Tk,F2 (·=·) l l
 | []=>.nil
 | t::l=>.cons ⟨rfl,rfl,rfl⟩ (qC l)
def ak9{l l':List Tk}(h:F2 (·=·) l l'):l=l':=by
 induction h with
 | nil=>rfl
 | cons ht _ ih =>
   rename_i t t' l l' _;obtain⟨k,x,a⟩:=t;obtain⟨k',x',a'⟩:=t';obtain⟨h1,h2,h3⟩:=ht;dsimp only at h1 h2 h3;subst h1 h2 h3;rw[ih]
def alZ{n n':Nd}(h:NR (·=·) n n'):n=n' :=
 NR.rec (S:=(·=·)) (motive_1:=λa b _=>a=b) (motive_2:=λa b _=>a=b) (λ_ h ih=>by rw[ih,h]) rfl (λ_ _ h1 h2=>by rw[h1,h2]) h
def ame{en:Int}{r r':Nd⊕Dg}(h:RR (·=·) en en (NR (·=·)) r r'):r=r':=by
 cases h with
 | l h=>rw[alZ h]
 | r h =>
   rename_i d d';obtain⟨h1,h2 | ⟨rfl,rfl⟩⟩:=h;obtain⟨e,a⟩:=d;obtain⟨e',a'⟩:=d';dsimp only at h1 h2;subst h1 h2;rfl;rfl
def Pb(en:Int):Rd Nd:=λl=>(gP en (10*l.length+11)).1 .ex l
def ah3{n:Nat}{en:Int}(hn:n<=10000):UT n true TT (Pb en):=λl hg hl=>(sX (10*l.length+11)).ex l.length (by omega) (Nat.le_refl _) hg (Nat.le_refl _)
def aep{en:Int}{l s:List Tk}{r:Nd⊕Dg}(hg:Gl l)(hl:l.length<=10000)(h:Pb en l=some (r,s))(q:Nat)(hq:10*l.length+11<=q):(gP en q).1 .ex l=some (r,s):=by
 obtain⟨r',s',h2,_⟩:=(sX (en:=en) q).ex l.length hl hq hg (Nat.le_refl _);have h3:=(afE (S:=(·=·)) (en:=en) (en':=en) (w:=[]) (10*l.length+11) q).rg .ex (qC l) h (by rw[List.append_nil];exact h2);rcases h3 with ⟨s1,rfl,h4,h5⟩ | ⟨h3,_⟩
 rw[h2,List.append_nil,ame h5,ak9 h4];exact absurd rfl h3
section
variable {ts:List Tk} (DS:ts.length<=10000) (hg:Gl ts) {en:Int}
include DS hg
def qA{k:Nat}(hk:k<=ts.length){r l}(hS:Pb en (ts.drop k)=some (r,l)):I8 ts k (Fy ⟨ts,k,en⟩) r l:=by
 have hd:(ts.drop k).length<=10000:=by rw[List.length_drop];omega
 have key:∀q,10*(ts.drop k).length+11<=q->I8 ts k (Ba q ⟨ts,k,en⟩) r l:=λq hq=>(ad3 (by omega) en q).ex hk (aep (hg.drop k) hd hS q hq);obtain⟨k',a1,a2,a3,a4⟩:=key _ (Nat.le_refl _);refine⟨k',a1,a2,a3,S9 (10*(ts.drop k).length+11) λq hq=>?_⟩;obtain⟨k2,b1,b2,b3,b4⟩:=key q hq
 have:k2=k':=by
   have h:=congrArg List.length (a3.symm.trans b3);simp only[List.length_drop] at h;omega
 rw[b4,this]
def fX(kind:Int){k:Nat}(hk:k<=ts.length){r l}(hS:JE en (Pb en) kind (ts.drop k)=some (r,l)):I8 ts k (CP ⟨ts,k,en⟩ kind) r l:=by
 have h6:ts.length<=1000000:=by omega
 refine Vv hk (λt h1 h2 hS=>?_) (λ_=>rfl) hS;have hS:=Zj h2 hS;dsimp only[Sum.elim];rw[En h6 hk];refine K7 (Nat.le_succ k) ?_;revert hS;cases DZ kind 7;intro hS;refine Bz (λh=>qA DS hg h1 h) (λa k h hk hS=>?_) (λ_ _=>rfl) hS;refine Bz (λh=>IB h6 _ hk h) (λ_ k h hk hS=>?_) (λ_ _=>rfl) hS;exact Eh hk rfl hS;intro hS;refine Bz (λh=>ae8 h6 (λhk _ _ h=>Us h6 hk h) h1 h) (λa k h hk hS=>?_) (λ_ _=>rfl) hS;refine Bz (λh=>IB h6 _ hk h) (λ_ k h hk hS=>?_) (λ_ _=>rfl) hS;exact Eh hk rfl hS
def aft(t1 t4:Tk)(n2:Int×Int)(k0:Int):∀(q:Nat) (ns:List Nd) (un am:Bool) (k:Nat) (r:Nd⊕Dg) (l:List Tk),k<=ts.length->IN en (Pb en) (λl=>EV 4 t4.text bE n2.1 l t1.AF) q ns un am (ts.drop k)=some (r,l) ->
   ∃k':Nat,k<=k'/\k'<=ts.length/\l=ts.drop k'/\∃n,GS (λx:List Nd×Int×Bool×Bool=>Br ⟨ts,k0,en⟩ t1 n2 t4 x.1 x.2.1 x.2.2.1 x.2.2.2) n (ns,(k:Int),un,am)=some (.inr (r,(k':Int))):=by
 have h6:ts.length<=1000000:=by omega
 intro q
 induction q with
 | zero=>intro ns un am k r l hk hS;cases hS
 | succ q ih =>
   intro ns un am k r l hk hS
   have stop:∀{y:(Nd⊕Dg)×Int},Br ⟨ts,k0,en⟩ t1 n2 t4 ns (k:Int) un am=some (.rt y)->GS (λx:List Nd×Int×Bool×Bool=>Br ⟨ts,k0,en⟩ t1 n2 t4 x.1 x.2.1 x.2.2.1 x.2.2.2) 1 (ns,(k:Int),un,am)=some (.inr y):=by
     intro y h;show(Br ⟨ts,k0,en⟩ t1 n2 t4 ns (k:Int) un am).bind _=_;rw[h];rfl
   have go:∀{y:List Nd×Int×Bool×Bool} {n:Nat} {z},Br ⟨ts,k0,en⟩ t1 n2 t4 ns (k:Int) un am=some (.nx y)->GS (λx:List Nd×Int×Bool×Bool=>Br ⟨ts,k0,en⟩ t1 n2 t4 x.1 x.2.1 x.2.2.1 x.2.2.2) n y=z->GS (λx:List Nd×Int×Bool×Bool=>Br ⟨ts,k0,en⟩ t1 n2 t4 x.1 x.2.1 x.2.2.1 x.2.2.2) (n+1) (ns,(k:Int),un,am)=z:=by
     intro y n z h h2;show(Br ⟨ts,k0,en⟩ t1 n2 t4 ns (k:Int) un am).bind _=_;rw[h];exact h2
   unfold IN Uw at hS;unfold Br at stop go;rcases Jk ts hk with ⟨h1,h2⟩ | ⟨t,h1,h2,h3⟩
   . rw[h2] at hS
     dsimp only at hS;simp only[Option.some.injEq,Prod.mk.injEq] at hS;obtain⟨rfl,rfl⟩:=hS;refine⟨k,Nat.le_refl k,hk,h2.symm,1,stop ?_⟩
     have:AD ⟨ts,k,en⟩=some (.inr ⟨72,en⟩):=by
       unfold AD;rw[abk (by dsimp only;omega)];rfl
     dsimp only;rw[this];rfl
   . rw[h3] at hS
     dsimp only at hS;rw[<- h3] at hS
     have hpk:AD ⟨ts,k,en⟩=some (.inl t):=by
       unfold AD;rw[qZ (by dsimp only;omega)];dsimp only[cond];unfold Mp;rw[if_pos (by omega),Int.toNat_natCast,h2];rfl
     dsimp only at stop go;rw[hpk] at stop go;dsimp only[Option.bind,Sum.elim] at stop go
     have one:∀(kind:Int) (fG eU:Bool),(Ct (JE en (Pb en) kind) λc=>Od (ns.length+1) (IN en (Pb en) (λl=>EV 4 t4.text bE n2.1 l t1.AF) q (ns++[c]) fG eU)) (ts.drop k)=some (r,l) ->
         (∃(k1:Nat) (c:Nd),k<=k1/\k1<=ts.length/\CP ⟨ts,k,en⟩ kind=some (.inl c,(k1:Int))/\ns.length+1<=100000000/\∃k':Nat,k1<=k'/\k'<=ts.length/\l=ts.drop k'/\∃n,GS (λx:List Nd×Int×Bool×Bool=>Br ⟨ts,k0,en⟩ t1 n2 t4 x.1 x.2.1 x.2.2.1 x.2.2.2) n (ns++[c],(k1:Int),fG,eU)=some (.inr (r,(k':Int)))) \/
         (∃(k':Nat) (d:Dg),k<=k'/\k'<=ts.length/\l=ts.drop k'/\r=.inr d/\CP ⟨ts,k,en⟩ kind=some (.inr d,(k':Int))):=by
       intro kind fG eU h;rcases IW h with ⟨c,s',h4,h5⟩ | ⟨d,h4,rfl⟩
       obtain⟨k1,a1,a2,rfl,a4⟩:=fX DS hg kind hk h4;obtain⟨hl,h5⟩:=NA h5;exact .inl ⟨k1,c,a1,a2,a4,hl,ih _ _ _ _ _ _ a2 h5⟩;obtain⟨k1,a1,a2,a3,a4⟩:=fX DS hg kind hk h4;exact .inr ⟨k1,d,a1,a2,a3,rfl,a4⟩
     cases hw:BZ t.text.data.toList aZ.data.toList with
     | true =>
       rw[hw] at hS stop go;dsimp only[cond] at hS stop go;rcases one 6 un am hS with ⟨k1,c,a1,a2,a3,a4,k',b1,b2,b3,n,b4⟩ | ⟨k',d,a1,a2,a3,rfl,a4⟩
       rw[a3] at go;dsimp only[Option.bind,Sum.elim] at go;rw[GV a4] at go;exact⟨k',by omega,b2,b3,n+1,go rfl b4⟩
       . rw[a4] at stop
         exact⟨k',a1,a2,a3,1,stop rfl⟩
     | false =>
       rw[hw] at hS stop go;dsimp only[cond] at hS stop go;cases hu:BZ t.text.data.toList Sa.data.toList with
       | true =>
         rw[hu] at hS stop go;dsimp only at hS stop go;cases un with
         | true =>
           dsimp only at hS stop go;obtain⟨rfl,rfl⟩:=MB hS;exact⟨k,Nat.le_refl k,hk,rfl,1,stop rfl⟩
         | false =>
           dsimp only at hS stop go;rcases one 7 true am hS with ⟨k1,c,a1,a2,a3,a4,k',b1,b2,b3,n,b4⟩ | ⟨k',d,a1,a2,a3,rfl,a4⟩
           rw[a3] at go;dsimp only[Option.bind,Sum.elim] at go;rw[GV a4] at go;exact⟨k',by omega,b2,b3,n+1,go rfl b4⟩
           . rw[a4] at stop
             exact⟨k',a1,a2,a3,1,stop rfl⟩
       | false =>
         rw[hu] at hS stop go;dsimp only at hS stop go;cases ha:BZ t.text.data.toList P4.data.toList with
         | true =>
           rw[ha] at hS stop go;dsimp only at hS stop go;cases am with
           | true =>
             dsimp only at hS stop go;obtain⟨rfl,rfl⟩:=MB hS;exact⟨k,Nat.le_refl k,hk,rfl,1,stop rfl⟩
           | false =>
             dsimp only at hS stop go;rcases one 8 un true hS with ⟨k1,c,a1,a2,a3,a4,k',b1,b2,b3,n,b4⟩ | ⟨k',d,a1,a2,a3,rfl,a4⟩
             rw[a3] at go;dsimp only[Option.bind,Sum.elim] at go;rw[GV a4] at go;exact⟨k',by omega,b2,b3,n+1,go rfl b4⟩
             . rw[a4] at stop
               exact⟨k',a1,a2,a3,1,stop rfl⟩
         | false =>
           rw[ha] at hS stop go;dsimp only at hS stop go;cases hc:BZ t.text.data.toList afB.data.toList with
           | true =>
             rw[hc] at hS stop;dsimp only at hS stop;cases am with
             | true =>
               have hS:=Zj h3 hS;obtain⟨rfl,rfl⟩:=K8 hS;refine⟨k+1,by omega,h1,rfl,1,stop ?_⟩;dsimp only;rw[En h6 hk];rfl
             | false =>
               obtain⟨rfl,rfl⟩:=MB hS;exact⟨k,Nat.le_refl k,hk,rfl,1,stop rfl⟩
           | false =>
             rw[hc] at hS stop;dsimp only at hS stop;obtain⟨rfl,rfl⟩:=MB hS;exact⟨k,Nat.le_refl k,hk,rfl,1,stop rfl⟩
def tV{k:Nat}(hk:k<=ts.length){r l}(hS:Pk en (Pb en) (ts.drop k)=some (r,l)):I8 ts k (FM ⟨ts,k,en⟩) r l:=by
 have h6:ts.length<=1000000:=by omega
 refine Bz (λh=>IB h6 _ hk h) (λt k1 h hk hS=>?_) (λ_ _=>rfl) hS;refine Bz (λh=>OB h6 _ hk h) (λn k1 h hk hS=>?_) (λ_ _=>rfl) hS;refine Bz (λh=>IB h6 _ hk h) (λ_ k1 h hk hS=>?_) (λ_ _=>rfl) hS;refine Bz (λh=>abD h6 hk h) (λm k1 h hk hS=>?_) (λ_ _=>rfl) hS;refine Bz (λh=>ai0 h6 hk h) (λhd k1 h hk hS=>?_) (λ_ _=>rfl) hS;dsimp only[Sum.elim];rw[GV (by omega)];refine Bz (λh=>IB h6 _ hk h) (λ_ k1 h hk hS=>?_) (λ_ _=>rfl) hS;obtain⟨k',a1,a2,a3,j,a4⟩:=aft DS hg t m n (k:Int) _ [hd] false false k1 r l hk hS;refine⟨k',a1,a2,a3,?_⟩;dsimp only[Sum.elim];rw[List.nil_append,IY a4];rfl
def abc{k:Nat}(hk:k<=ts.length){r l}(hS:RC en (Pb en) (ts.drop k)=some (r,l)):I8 ts k (G4 ⟨ts,k,en⟩) r l:=by
 have h6:ts.length<=1000000:=by omega
 refine Vv hk (λt h1 h2 hS=>?_) (λ_=>rfl) hS;revert hS;dsimp only[Sum.elim];cases BZ t.text.data.toList SK.data.toList;rotate_left;exact λhS=>Qo (zZ h6 hk hS);cases BZ t.text.data.toList Ov.data.toList;rotate_left;exact λhS=>Qo (zZ h6 hk hS);cases BZ t.text.data.toList Hx.data.toList;rotate_left;exact λhS=>Qo (tV DS hg hk hS);exact λhS=>Eh hk rfl hS
end
end Mo
end Go.Proofs.YtpbkhogolfegfaaGreatDoor
namespace Go.Proofs.YtpbkhogolfegfaaGreatDoor
open AI Go
namespace Mo
set_option maxRecDepth 100000
section
variable {n:Nat} {en:Int} {st:Bool}
def wT(kind:Int)(hn:n<=10000):UT n st TT (JE en (Pb en) kind) :=
 YM λt _ s ZP hl=>RS (FX (λ_=>Bw (s8 (by omega) SW) λ_ _ _=>Bw (EY _) λ_ _ _=>DO trivial) λ_=>Bw (ah3 (by omega)) λ_ _ _=>Bw (EY _) λ_ _ _=>DO trivial) ZP hl
def kK{mk:List Nd->Nd}:∀(q n:Nat) (ns:List Nd) (un am:Bool),n<=10000->n < q->ns.length+n<=100000->UT n st TT (IN en (Pb en) mk q ns un am):=by
 intro q
 induction q generalizing st with
 | zero=>intro n ns un am _ h;omega
 | succ q ih =>
   intro n ns un am hn h1 h2
   have go:∀{st:Bool} (kind:Int) (fG eU:Bool),UT n st TT (Ct (JE en (Pb en) kind) λc=>Od (ns.length+1) (IN en (Pb en) mk q (ns++[c]) fG eU)):=λkind fG eU =>
     Bw (wT kind hn) λc _ h3=>VC (by omega) (ih (n - 1) _ _ _ (by omega) (by omega) (by simp only[List.length_append,List.length_singleton];omega))
   refine YM λt _ s ZP hl=>?_;cases BZ t.text.data.toList aZ.data.toList;rotate_left;exact go (st:=st) _ _ _ ZP hl;cases BZ t.text.data.toList Sa.data.toList;rotate_left;exact FX (st:=st) (P:=TT) (λ_=>IR) (λ_=>go _ _ _) ZP hl;cases BZ t.text.data.toList P4.data.toList;rotate_left;exact FX (st:=st) (P:=TT) (λ_=>IR) (λ_=>go _ _ _) ZP hl;cases BZ t.text.data.toList afB.data.toList;exact IR (st:=st) (P:=TT) ZP hl;cases am;exact IR (st:=st) (P:=TT) ZP hl;exact RS (DO trivial) ZP hl
def pE(hn:n<=10000):UT n st TT (Pk en (Pb en)) :=
 Bw (EY _) λt _ h1=>Bw (N1 _) λm _ h2=>Bw (EY _) λ_ _ h3=>Bw W2 λu _ h4=>Bw s6 λh _ h5=>Bw (EY _) λ_ _ h6 =>
   kJ (K:=λq=>IN en (Pb en) (λl=>EV 4 u.text bE m.1 l t.AF) q [h] false false) λk hk=>kK (k+1) k [h] false false (by omega) (by omega) (by simp only[List.length_singleton];omega)
def s7(hn:n<=10000):UT n st TT (RC en (Pb en)):=by
 refine YM λt _ s ZP hl=>?_;cases BZ t.text.data.toList SK.data.toList;rotate_left;exact s5 (st:=st) ZP hl;cases BZ t.text.data.toList Ov.data.toList;rotate_left;exact s5 (st:=st) ZP hl;cases BZ t.text.data.toList Hx.data.toList;rotate_left;exact pE (st:=st) hn ZP hl;exact IR (st:=st) (P:=TT) ZP hl
end
def Tf(t:Tk):Bool:=BZ t.text.data.toList SK.data.toList||(BZ t.text.data.toList Ov.data.toList||BZ t.text.data.toList Hx.data.toList)
def QT:List Tk->List Tk
 | []=>[]
 | t::s=>if Tf t then t::s else QT s
def PM:∀l:List Tk,∃k,QT l=l.drop k
 | []=>⟨0,rfl⟩
 | t::s=>by
   unfold QT;split;exact⟨0,rfl⟩;obtain⟨k,hk⟩:=PM s;exact⟨k+1,by rw[hk];rfl⟩
def Nf{en:Int}{t:Tk}{l s:List Tk}{r:Nd⊕Dg}(hg:Gl (t::l))(hl:(t::l).length<=10000)(h:RC en (Pb en) (t::l)=some (r,s)):(∃k,s=(t::l).drop k)/\(QT s).length<=l.length/\∀n,r=.inl n->s.length<=l.length:=by
 obtain⟨r',s',h2,h3,h4⟩:=s7 (st:=true) (en:=en) (n:=(t::l).length) hl hg (Nat.le_refl _);rw[h] at h2;simp only[Option.some.injEq,Prod.mk.injEq] at h2;obtain⟨rfl,rfl⟩:=h2;refine⟨h3,?_,λn hn=>Nat.le_of_lt_succ ((h4 n hn).2 rfl)⟩
 have small:∀{k:Nat},(QT (l.drop k)).length<=l.length:=λ{k}=>by
   obtain⟨j,hj⟩:=PM (l.drop k);rw[hj,List.length_drop,List.length_drop];omega
 have sk:∀{x:List Tk},(∃k,x=l.drop k)->(QT x).length<=l.length:=by
   rintro x ⟨k,rfl⟩;exact small
 have XQ:Gl l:=λt ht=>hg t (List.mem_cons_of_mem _ ht);have xM:l.length<=10000:=by simp only[List.length_cons] at hl;omega
 cases hi:Tf t with
 | false =>
   have Pe:=hi;unfold Tf at hi;simp only[Bool.or_eq_false_iff] at hi
   have:RC en (Pb en) (t::l)=some (.inr ⟨71,t.AF⟩,t::l):=by
     unfold RC Uw;dsimp only;rw[hi.1,hi.2.1,hi.2.2];rfl
   rw[this] at h;simp only[Option.some.injEq,Prod.mk.injEq] at h;rw[<- h.2];unfold QT;rw[Pe];obtain⟨k,hk⟩:=PM l;simp only[Bool.false_eq_true,if_false];rw[hk,List.length_drop];omega
 | true =>
   unfold RC Uw at h;dsimp only at h
   have decl:Ug en (t::l)=some (r,s)->(QT s).length<=l.length:=by
     intro h;unfold Ug Uw U0 at h;dsimp only at h;refine sk ?_
     obtain⟨r2,s2,e2,h5,_⟩:=(show UT l.length false TT _ from Bw W2 λm _ _=>Bw (EY jP) λ_ _ _=>Bw tA λu _ _=>FX (c:=BZ t.text.data.toList Ov.data.toList)
       (A:=Ct (sG en) λr=>Li (El r.text) λn=>Ct (Jl en Wp) λ_=>FE (EV 3 m.text u.text n [] t.AF)) (B:=Ct (Jl en Wp) λ_=>FE (EV 2 m.text u.text 0 [] t.AF))
       (λ_=>Bw s9 λr _ _=>by obtain⟨b,hb⟩:=RM r.text;exact N0 ⟨b,hb,Bw (EY _) λ_ _ _=>DO trivial⟩) λ_=>Bw (EY _) λ_ _ _=>DO trivial) XQ (Nat.le_refl _)
     rw[h] at e2;simp only[Option.some.injEq,Prod.mk.injEq] at e2;rw[e2.2];exact h5
   revert h;cases hf:BZ t.text.data.toList SK.data.toList;rotate_left;exact decl;cases hli:BZ t.text.data.toList Ov.data.toList;rotate_left;exact decl;cases ha:BZ t.text.data.toList Hx.data.toList;unfold Tf at hi;rw[hf,hli,ha] at hi;cases hi;intro h;refine sk ?_;have h:Pk en (Pb en) (t::l)=some (r,s):=h;unfold Pk at h
   have he:Jl en Hx (t::l)=some (.inl t,l):=by
     unfold Jl Lc Uw Li Dr;dsimp only;rw[ha];rfl
   rcases IW h with ⟨a,s',h3,h4⟩ | ⟨d,h3,_⟩
   rw[he] at h3;simp only[Option.some.injEq,Prod.mk.injEq,Sum.inl.injEq] at h3;obtain⟨rfl,rfl⟩:=h3
   obtain⟨r2,s2,e2,h5,_⟩:=(show UT l.length false TT _ from Bw (N1 (en:=en) 1) λm _ h2=>Bw (EY (en:=en) aap) λ_ _ h3=>Bw (W2 (en:=en)) λu _ h4=>Bw (s6 (en:=en)) λh _ h5=>Bw (EY (en:=en) aj6) λ_ _ h6 =>
     kJ (K:=λq=>IN en (Pb en) (λl=>EV 4 u.text bE m.1 l t.AF) q [h] false false) λk hk=>kK (k+1) k [h] false false (by omega) (by omega) (by simp only[List.length_singleton];omega)) XQ (Nat.le_refl _)
   have h6:=h4.symm.trans e2;simp only[Option.some.injEq,Prod.mk.injEq] at h6;rw[h6.2];exact h5;rw[he] at h3;cases h3
end Mo
end Go.Proofs.YtpbkhogolfegfaaGreatDoor
namespace Go.Proofs.YtpbkhogolfegfaaGreatDoor
open AI Go
namespace Mo
set_option maxRecDepth 100000
def Q8(en:Int):Nat->List Tk->List Nd->List Dg->Option (List Nd×List Dg)
 | 0,_,_,_=>none
 | _+1,[],ks,ds=>some (ks,ds)
 | q+1,t::l,ks,ds=>cond (EQ ((ds.length:Nat):Int) 20) (match RC en (Pb en) (t::l) with
   | none=>none
   | some (.inl n,s)=>Q8 en q s (ks++[n]) ds
   | some (.inr d,s)=>Q8 en q (QT s) ks (ds++[d])) (some (ks,ds))
def acT{en:Int}:∀(q:Nat) (l:List Tk) (ks:List Nd) (ds:List Dg),Gl l->l.length<=10000->l.length < q->∃r,Q8 en q l ks ds=some r:=by
 intro q
 induction q with
 | zero=>intro l ks ds _ _ h;omega
 | succ q ih =>
   intro l ks ds hg hl h;cases l with
   | nil=>exact⟨_,rfl⟩
   | cons t l =>
     unfold Q8;cases EQ ((ds.length:Nat):Int) 20 with
     | false=>exact⟨_,rfl⟩
     | true =>
       obtain⟨r,s,h2,_⟩:=s7 (st:=true) (en:=en) (n:=(t::l).length) hl hg (Nat.le_refl _);obtain⟨⟨k,rfl⟩,h4,h5⟩:=Nf hg hl h2;dsimp only[cond];rw[h2];simp only[List.length_cons] at h hl;cases r with
       | inl n =>
         have h6:=h5 n rfl;exact ih _ _ _ (hg.drop k) (by omega) (by omega)
       | inr d =>
         obtain⟨j,hj⟩:=PM ((t::l).drop k);refine ih _ _ _ ?_ (by omega) (by omega);rw[hj];exact(hg.drop k).drop j
section
variable {source:ByteArray} {ts:List Tk} (DS:ts.length<=10000)
include DS
def akh:∀(j k:Nat),k<=ts.length->ts.length - k<=j->∃n k':Nat,k<=k'/\k'<=ts.length/\QT (ts.drop k)=ts.drop k'/\GS (λx=>CY source ts x) n (k:Int)=some (.inl (k':Int)):=by
 have stop:∀{k:Nat} {y:Int},CY source ts (k:Int)=some (.ex y)->GS (λx=>CY source ts x) 1 (k:Int)=some (.inl y):=by
   intro k y h;show(CY source ts (k:Int)).bind _=_;rw[h];rfl
 intro j
 induction j with
 | zero =>
   intro k hk hj;have:k=ts.length:=by omega
   refine⟨1,k,Nat.le_refl k,hk,?_,stop ?_⟩;rw[List.drop_eq_nil_of_le (by omega)];rfl;unfold CY;rw[Kv (by omega)];rfl
 | succ j ih =>
   intro k hk hj;rcases Jk ts hk with ⟨h1,h2⟩ | ⟨t,h1,h2,h3⟩
   . refine⟨1,k,Nat.le_refl k,hk,?_,stop ?_⟩
     rw[h2];rfl;unfold CY;rw[Kv (by omega)];rfl
   . have hs:∀x,I6 x (ts.drop k)=BZ t.text.data.toList x.data.toList:=λx=>by rw[h3];rfl
     have hL:CY source ts (k:Int)=if Tf t then some (.ex (k:Int)) else some (.nx ((k+1:Nat):Int)):=by
       unfold CY Tf;rw[NB (by omega)];dsimp only[cond];rw[Gw hk,Gw hk,Gw hk,Option.bind_some,hs,hs,hs];cases BZ t.text.data.toList SK.data.toList;cases BZ t.text.data.toList Ov.data.toList;cases BZ t.text.data.toList Hx.data.toList;rw[<- En (by omega) hk];rfl;rfl;rfl;rfl
     cases hi:Tf t with
     | true =>
       refine⟨1,k,Nat.le_refl k,hk,?_,stop ?_⟩;rw[h3];unfold QT;rw[hi];rfl;rw[hL,hi];rfl
     | false =>
       obtain⟨n,k',a1,a2,a3,a4⟩:=ih (k+1) h1 (by omega);refine⟨n+1,k',by omega,a2,?_,?_⟩;rw[h3];unfold QT;rw[hi];exact a3;show(CY source ts (k:Int)).bind _=_;rw[hL,hi];exact a4
def ams(hg:Gl ts):∀(q k:Nat) (ks:List Nd) (ds:List Dg) (r:List Nd×List Dg),k<=ts.length->ks.length+ds.length+q<=100000->Q8 ((source.data.toList.length:Nat):Int) q (ts.drop k) ks ds=some r ->
   ∃n k':Nat,GS (λx:List Dg×List Nd×Int=>Cc source ts x.1 x.2.1 x.2.2) n (ds,ks,(k:Int))=some (.inl (r.2,r.1,(k':Int))):=by
 intro q
 induction q with
 | zero=>intro k ks ds r hk hq h;cases h
 | succ q ih =>
   intro k ks ds r hk hq h
   have stop:Cc source ts ds ks (k:Int)=some (.ex (ds,ks,(k:Int)))->GS (λx:List Dg×List Nd×Int=>Cc source ts x.1 x.2.1 x.2.2) 1 (ds,ks,(k:Int))=some (.inl (ds,ks,(k:Int))):=by
     intro h;show(Cc source ts ds ks (k:Int)).bind _=_;rw[h];rfl
   rcases Jk ts hk with ⟨h1,h2⟩ | ⟨t,h1,h2,h3⟩
   . rw[h2] at h
     have:r=(ks,ds):=(Option.some.inj h).symm;subst this;refine⟨1,k,stop ?_⟩;unfold Cc;rw[Kv (by omega)];rfl
   . rw[h3] at h
     unfold Q8 at h;rw[<- h3] at h;cases hd:EQ ((ds.length:Nat):Int) 20 with
     | false =>
       rw[hd] at h;have:r=(ks,ds):=(Option.some.inj h).symm;subst this;refine⟨1,k,stop ?_⟩;unfold Cc;rw[NB (by omega),hd];rfl
     | true =>
       rw[hd] at h;dsimp only[cond] at h;split at h;cases h;rename_i n s hi;obtain⟨k1,a1,a2,rfl,a4⟩:=abc DS hg hk hi;obtain⟨m,k',b1⟩:=ih k1 (ks++[n]) ds r a2 (by simp only[List.length_append,List.length_singleton];omega) h;refine⟨m+1,k',?_⟩
       have hL:Cc source ts ds ks (k:Int)=some (.nx (ds,ks++[n],(k1:Int))):=by
         unfold Cc G5;rw[NB (by omega),hd,a4];dsimp only[cond,Option.bind,acV];rw[GV (by omega)]
       show(Cc source ts ds ks (k:Int)).bind _=_;rw[hL];exact b1;rename_i d s hi;obtain⟨k1,a1,a2,rfl,a4⟩:=abc DS hg hk hi;obtain⟨j,k2,c1,c2,c3,c4⟩:=akh (source:=source) DS (ts.length - k1) k1 a2 (Nat.le_refl _);rw[c3] at h;obtain⟨m,k',b1⟩:=ih k2 ks (ds++[d]) r c2 (by simp only[List.length_append,List.length_singleton];omega) h;refine⟨m+1,k',?_⟩
       have hL:Cc source ts ds ks (k:Int)=some (.nx (ds++[d],ks,(k2:Int))):=by
         unfold Cc G5;rw[NB (by omega),hd,a4];dsimp only[cond,Option.bind,acV];rw[GV (by omega),IY c4];rfl
       show(Cc source ts ds ks (k:Int)).bind _=_;rw[hL];exact b1
end
def Fo(s:ByteArray):List Tk:=(LexS.Ms s.data.toList).1.map OZ
def Vk(s:ByteArray):Nat:=(LexS.Ms s.data.toList).2.1
def apw(s:ByteArray):Nat:=(LexS.Ms s.data.toList).2.2
def Jy(ks:List Nd):Nd:=⟨1,ByteArray.empty,ByteArray.empty,0,0,0,0,⟨0,[]⟩,ks,0⟩
def Z4{s:ByteArray}(h:Vk s≠0):CZ s=some (z0,[⟨(Vk s:Int),(apw s:Int)⟩]):=by
 unfold CZ Kt;rw[Option.bind_some];dsimp only;rw[SJ (by unfold Vk at h;omega)];rfl
def vY{s:ByteArray}(h:Vk s=0)(hg:Gl (Fo s))(hl:(Fo s).length<=10000):∃ks ds,Q8 ((s.data.toList.length:Nat):Int) ((Fo s).length+1) (Fo s) [] []=some (ks,ds)/\CZ s=cond (EQ 0 ((ds.length:Nat):Int)) (some (z0,ds)) (Dp (Jy ks)):=by
 obtain⟨⟨ks,ds⟩,h1⟩:=acT (en:=((s.data.toList.length:Nat):Int)) ((Fo s).length+1) (Fo s) [] [] hg hl (Nat.lt_succ_self _);refine⟨ks,ds,h1,?_⟩;obtain⟨n,k',h2⟩:=ams (source:=s) hl hg ((Fo s).length+1) 0 [] [] _ (Nat.zero_le _) (by simp only[List.length_nil];omega) (by rw[List.drop_zero];exact h1);unfold CZ Kt;rw[Option.bind_some];dsimp only;rw[Ol (by unfold Vk at h;omega)];dsimp only[cond];have h2:GS (λx:List Dg×List Nd×Int=>Cc s (List.map OZ (LexS.Ms s.data.toList).fst) x.1 x.2.1 x.2.2) n ([],[],0)=some (.inl (ds,ks,(k':Int))):=h2;rw[IY h2,Option.bind_some];dsimp only[PZ];cases EQ 0 ((ds.length:Nat):Int);dsimp only;show(Dp (Jy ks)).bind _=Dp (Jy ks);cases Dp (Jy ks)<;>rfl
 rfl
end Mo
end Go.Proofs.YtpbkhogolfegfaaGreatDoor
namespace Go.Proofs.YtpbkhogolfegfaaGreatDoor
open AI Go LexS
namespace Mo
set_option maxRecDepth 100000
def Sh(c:UInt8):Prop:=48<=c.toNat/\c.toNat<=57
def zD:∀n < 128,(Rr n &&& 8)≠0->48<=n/\n<=57:=by decide
def aed{c:UInt8}(h:cin 8 c=true):Sh c:=by
 unfold cin at h;by_cases hc:c.toNat < 128;exact zD _ hc (by simpa using h)
 rw[bU _ (by omega)] at h;simp at h
def kB(t:List UInt8):∀c∈t.take (BV 8 t),Sh c:=by
 unfold BV
 induction t with
 | nil=>intro c hc;cases hc
 | cons x t ih =>
   intro c hc;rw[List.takeWhile_cons] at hc;split at hc;rename_i hx;rw[List.length_cons,List.take_succ_cons] at hc;rcases List.mem_cons.1 hc with rfl | hc
   exact aed hx;exact ih c hc;cases hc
def aej:∀(l:List UInt8) (acc:Nat),(∀c∈l,Sh c)->∃n,Lib.decFrom acc l=some n/\n < (acc+1)*10 ^ l.length:=by
 intro l
 induction l with
 | nil=>intro acc _;exact⟨acc,rfl,by simp⟩
 | cons c l ih =>
   intro acc h;have hc:=h c (List.mem_cons_self ..);obtain⟨n,h1,h2⟩:=ih (acc*10+(c.toNat - 48)) (λx hx=>h x (List.mem_cons_of_mem _ hx));refine⟨n,?_,Nat.lt_of_lt_of_le h2 ?_⟩;unfold Lib.decFrom Lib.digitVal;rw[if_pos (show 48<=c.toNat/\c.toNat<=57 from hc)];exact h1;rw[List.length_cons,Nat.pow_succ,Nat.mul_comm (10 ^ l.length) 10,<- Nat.mul_assoc];exact Nat.mul_le_mul_right _ (by have:=hc.2;omega)
def yI{l:List UInt8}(h0:l≠[])(hl:l.length<=12)(h:∀c∈l,Sh c):∃z,Lib.atoi l=some z/\0<=z/\z<=999999999999:=by
 cases l with
 | nil=>exact absurd rfl h0
 | cons c l =>
   obtain⟨n,h1,h2⟩:=aej (c::l) 0 h;have hc:=h c (List.mem_cons_self ..);have GI:n < 10 ^ 12:=Nat.lt_of_lt_of_le h2 (by rw[Nat.zero_add,Nat.one_mul];exact Nat.pow_le_pow_right (by omega) hl);refine⟨(n:Int),?_,by omega,by omega⟩
   have e1:(c == 45)=false:=by
     apply beq_false_of_ne;rintro rfl;exact absurd hc.1 (by decide)
   have e2:(c == 43)=false:=by
     apply beq_false_of_ne;rintro rfl;exact absurd hc.1 (by decide)
   unfold Lib.atoi Lib.decNat;dsimp only;rw[e1,e2];simp only[Bool.false_eq_true,if_false,List.isEmpty_cons];rw[h1];rfl
def ZT:∀(d r:List UInt8),(∀c∈d,Sh c)->Lib.indexByte (d++46::r) 46=d.length
 | [],r,_=>by unfold Lib.indexByte;rfl
 | c::d,r,h=>by
   have ih:=ZT d r (λx hx=>h x (List.mem_cons_of_mem _ hx));have hc:=h c (List.mem_cons_self ..)
   have e1:(c == 46)=false:=by
     apply beq_false_of_ne;rintro rfl;exact absurd hc.1 (by decide)
   rw[List.cons_append];unfold Lib.indexByte;rw[e1,ih];simp
def Xl{l:List UInt8}(h0:l≠[])(hl:l.length<=12)(h:∀c∈l,Sh c):∃z,Rk ⟨l.toArray⟩=some (z,())/\0<=z/\z<=999999999999:=by
 obtain⟨z,h1,h2⟩:=yI h0 hl h;refine⟨z,?_,h2⟩;unfold Rk;rw[if_pos (by simp;omega)];simp only[List.toList_toArray,h1,Option.map_some]
def v7{s:List UInt8}(k:Nat)(h:Lib.index s [46]=-1):Lib.replaceK [46] [] k s=s:=by
 cases k with
 | zero=>rfl
 | succ k=>unfold Lib.replaceK;rw[h];rfl
def iM:∀(d:List UInt8),(∀c∈d,Sh c)->Lib.indexByte d 46=-1
 | [],_=>rfl
 | c::d,h=>by
   have ih:=iM d (λx hx=>h x (List.mem_cons_of_mem _ hx));have hc:=h c (List.mem_cons_self ..)
   have e1:(c == 46)=false:=by
     apply beq_false_of_ne;rintro rfl;exact absurd hc.1 (by decide)
   unfold Lib.indexByte;rw[e1,ih];simp
def afH{d:List UInt8}(h:∀c∈d,Sh c):Lib.replace d [46] [] 1=d:=by
 unfold Lib.replace;rw[if_neg (by decide)];exact v7 _ (by rw[Lib.index_one,iM d h])
def abY{d r:List UInt8}(h:∀c∈d,Sh c):Lib.replace (d++46::r) [46] [] 1=d++r:=by
 have hi:Lib.index (d++46::r) [46]=(d.length:Int):=by rw[Lib.index_one,ZT d r h]
 have hn:Lib.replaceNum (d++46::r) [46] 1=1:=by
   have:1<=Lib.count (d++46::r) [46]:=by
     unfold Lib.count Lib.countFrom;rw[hi,if_neg (by simp)];omega
   unfold Lib.replaceNum;rw[if_neg (by omega)];rfl
 unfold Lib.replace;rw[if_neg (by decide),hn,Lib.replaceK_hit _ _ _ _ _ hi];unfold Lib.replaceK;simp
def ZA{k a:Int}{l m:List UInt8}(hr:Lib.replace l [46] [] 1=m)(hl:l.length<=20)(h0:m≠[])(hm:m.length<=12)(h:∀c∈m,Sh c):∃z,Cp ⟨k,⟨l.toArray⟩,a⟩=some z/\0<=z/\z<=999999999999:=by
 obtain⟨z,h1,h2⟩:=Xl h0 hm h;refine⟨z,?_,h2⟩;unfold Cp
 have:Jw ⟨l.toArray⟩ aj5 ByteArray.empty 1=some ⟨m.toArray⟩:=by
   unfold Jw
   rw[if_pos ⟨by decide,by
     have:(ByteArray.empty).size=0:=rfl;have h2:(⟨l.toArray⟩:ByteArray).size=l.length:=by simp[ByteArray.size]
     rw[this,h2];omega⟩]
   have:(aj5).data.toList=[46]:=rfl;rw[this];simp only[List.toList_toArray];rw[show(ByteArray.empty).data.toList=[] from rfl,hr]
 dsimp only;rw[this,Option.bind_some,h1];rfl
def ahh(y m:Nat):Bool:=match F5 (2000+y) m,Hy (12*y+m) with
 | some n,some f=>Nat.ble 1 n.toNat&&(Nat.ble 0 f.toNat&&(decide (0<=n/\n<=31/\0<=f/\f+n<=36525)))
 | _,_=>false
def aeb:((List.range 100).all λy=>(List.range 12).all λm=>ahh y m)=true:=by kernel_rfl
def aiu{y m:Nat}(hy:y < 100)(hm:m < 12):∃n f:Int,F5 (2000+y) m=some n/\Hy (12*y+m)=some f/\0<=n/\n<=31/\0<=f/\f+n<=36525:=by
 have h:=List.all_eq_true.1 (List.all_eq_true.1 aeb y (List.mem_range.2 hy)) m (List.mem_range.2 hm);unfold ahh at h;split at h;rename_i n f h1 h2;simp only[Bool.and_eq_true,decide_eq_true_eq] at h;exact⟨n,f,h1,h2,h.2.2.1,h.2.2.2.1,h.2.2.2.2.1,h.2.2.2.2.2⟩;cases h
def zX(y m d:Int)(hy:0<=y/\y<=100000)(hm:0<=m/\m<=100000)(hd:0<=d/\d<=100000):∃z e,Ji y m d=some (z,e)/\(e=0->0<=z/\z<=36524):=by
 have bad:∃z e,(some ((0:Int),(21:Int)):Option (Int×Int))=some (z,e)/\(e=0->0<=z/\z<=36524):=⟨0,21,rfl,λh=>by omega⟩;unfold Ji;cases h1:EQ y 2000;rotate_left;exact bad;cases h2:EQ 2099 y;rotate_left;exact bad;cases h3:EQ m 1;rotate_left;exact bad;cases h4:EQ 12 m;rotate_left;exact bad;cases h5:EQ d 1;rotate_left;exact bad;have h1:=Ku h1;have h2:=Ku h2;have h3:=Ku h3;have h4:=Ku h4;have h5:=Ku h5;obtain⟨n,f,a1,a2,a3,a4,a5,a6⟩:=aiu (y:=(y - 2000).toNat) (m:=(m - 1).toNat) (by omega) (by omega);rw[show(2000:Int)+((y - 2000).toNat:Nat)=y by omega,show(((m - 1).toNat:Nat):Int)=m - 1 by omega] at a1;rw[show 12*(((y - 2000).toNat:Nat):Int)+(((m - 1).toNat:Nat):Int)=(y - 2000)*12+m - 1 by omega] at a2;dsimp only[cond];rw[QH (a:=m) (by omega),a1,Option.bind_some];cases h6:EQ n d;have h6:=Ku h6;dsimp only;rw[QH (a:=y) (by omega),Iz (by omega),Ha (by omega),QH (by omega),a2,Option.bind_some];rw[Ha (by omega),QH (by omega)];exact⟨_,0,rfl,λ_=>by omega⟩;exact bad
def aac{c:UInt8}(hc:Sh c):w64 (MG .u8 (eB ((c.toNat:Nat):Int) 48))=(c.toNat:Int) - 48:=by
 have h1:=hc.1;have h2:=hc.2
 have e:MG .u8 (eB ((c.toNat:Nat):Int) 48)=(c.toNat:Int) - 48:=by
   rw[eC,UR];unfold IntKind.wrap;simp[IntKind.bits,IntKind.signed];omega
 rw[e];unfold w64;exact tL (by omega)
section
variable {i:Nat} {c:UInt8} (h4:i≠4) (h7:i≠7) (hc:Sh c) {a b d:Int} (ha:0<=a/\a<=1000) (hb:0<=b/\b<=1000) (hd:0<=d/\d<=1000)
include h4 h7 hc
def cl0(ha:0<=a/\a<=1000):B7 i c 0 a b d=some (.nx (0,a*10+((c.toNat:Int) - 48),b,d)):=by
 have h1:=hc.1;have h2:=hc.2;unfold B7;rw[SJ (a:=(i:Int)) (b:=4) (by omega),SJ (a:=(i:Int)) (b:=7) (by omega),Kv (b:=48) (by omega),Kv (a:=57) (by omega),aac hc];dsimp only[cond];rw[Iz (a:=a) (by omega),Ha (a:=a*10) (by omega)];rfl
def cl1(hb:0<=b/\b<=1000):B7 i c 1 a b d=some (.nx (1,a,b*10+((c.toNat:Int) - 48),d)):=by
 have h1:=hc.1;have h2:=hc.2;unfold B7;rw[SJ (a:=(i:Int)) (b:=4) (by omega),SJ (a:=(i:Int)) (b:=7) (by omega),Kv (b:=48) (by omega),Kv (a:=57) (by omega),aac hc];dsimp only[cond];rw[Iz (a:=b) (by omega),Ha (a:=b*10) (by omega)];rfl
def cl2(hd:0<=d/\d<=1000):B7 i c 2 a b d=some (.nx (2,a,b,d*10+((c.toNat:Int) - 48))):=by
 have h1:=hc.1;have h2:=hc.2;unfold B7;rw[SJ (a:=(i:Int)) (b:=4) (by omega),SJ (a:=(i:Int)) (b:=7) (by omega),Kv (b:=48) (by omega),Kv (a:=57) (by omega),aac hc];dsimp only[cond];rw[Iz (a:=d) (by omega),Ha (a:=d*10) (by omega)];rfl
end
abbrev zE:=Dl (λi y (x:Int×Int×Int×Int)=>B7 i y x.1 x.2.1 x.2.2.1 x.2.2.2) (λx:Int×Int×Int×Int=>(x.2.1,x.2.2.1,x.2.2.2))
section
variable {i:Nat} {c:UInt8} (h4:i≠4) (h7:i≠7) (hc:Sh c) {a b d:Int} {l:List UInt8}
include h4 h7 hc
def fo0(ha:0<=a/\a<=1000):zE (c::l) i (0,a,b,d)=zE l (i+1) (0,a*10+((c.toNat:Int) - 48),b,d):=by
 show(B7 i c 0 a b d).bind _=_;rw[cl0 h4 h7 hc ha];rfl
def fo1(ha:0<=b/\b<=1000):zE (c::l) i (1,a,b,d)=zE l (i+1) (1,a,b*10+((c.toNat:Int) - 48),d):=by
 show(B7 i c 1 a b d).bind _=_;rw[cl1 h4 h7 hc ha];rfl
def fo2(ha:0<=d/\d<=1000):zE (c::l) i (2,a,b,d)=zE l (i+1) (2,a,b,d*10+((c.toNat:Int) - 48)):=by
 show(B7 i c 2 a b d).bind _=_;rw[cl2 h4 h7 hc ha];rfl
end
def fo4{l:List UInt8}{a b d:Int}:zE (45::l) (0+1+1+1+1) (0,a,b,d)=zE l (0+1+1+1+1+1) (1,a,b,d):=rfl
def fo7{l:List UInt8}{a b d:Int}:zE (45::l) (0+1+1+1+1+1+1+1) (1,a,b,d)=zE l (0+1+1+1+1+1+1+1+1) (2,a,b,d):=rfl
def uN{c0 c1 c2 c3 c5 c6 c8 c9:UInt8}(h0:Sh c0)(h1:Sh c1)(h2:Sh c2)(h3:Sh c3)(h5:Sh c5)(h6:Sh c6)(h8:Sh c8)(h9:Sh c9) :
   ∃z e,Fc ⟨([c0,c1,c2,c3,45,c5,c6,45,c8,c9]:List UInt8).toArray⟩=some (z,e)/\(e=0->0<=z/\z<=36524):=by
 have b0:=h0;have b1:=h1;have b2:=h2;have b3:=h3;have b5:=h5;have b6:=h6;have b8:=h8;have b9:=h9;unfold Sh at b0 b1 b2 b3 b5 b6 b8 b9;obtain⟨z,e,hz,he⟩:=zX ((((0*10+((c0.toNat:Int) - 48))*10+((c1.toNat:Int) - 48))*10+((c2.toNat:Int) - 48))*10+((c3.toNat:Int) - 48)) ((0*10+((c5.toNat:Int) - 48))*10+((c6.toNat:Int) - 48)) ((0*10+((c8.toNat:Int) - 48))*10+((c9.toNat:Int) - 48)) (by omega) (by omega) (by omega);refine⟨z,e,?_,he⟩;unfold Fc;rw[Ol (by rfl)];dsimp only[cond]
 have key:Dl (λi y x=>B7 i y x.1 x.2.1 x.2.2.1 x.2.2.2) (λx:Int×Int×Int×Int=>(x.2.1,x.2.2.1,x.2.2.2)) [c0,c1,c2,c3,45,c5,c6,45,c8,c9] 0 (0,0,0,0)=some (.inl ((((0*10+((c0.toNat:Int) - 48))*10+((c1.toNat:Int) - 48))*10+((c2.toNat:Int) - 48))*10+((c3.toNat:Int) - 48),(0*10+((c5.toNat:Int) - 48))*10+((c6.toNat:Int) - 48),(0*10+((c8.toNat:Int) - 48))*10+((c9.toNat:Int) - 48))):=by
   show zE [c0,c1,c2,c3,45,c5,c6,45,c8,c9] 0 (0,0,0,0)=_;rw[fo0 (by decide) (by decide) h0 (by omega)];rw[fo0 (by decide) (by decide) h1 (by omega)];rw[fo0 (by decide) (by decide) h2 (by omega)];rw[fo0 (by decide) (by decide) h3 (by omega)];rw[fo4];rw[fo1 (by decide) (by decide) h5 (by omega)];rw[fo1 (by decide) (by decide) h6 (by omega)];rw[fo7];rw[fo2 (by decide) (by decide) h8 (by omega)];rw[fo2 (by decide) (by decide) h9 (by omega)];rfl
 have hl:SR ([c0,c1,c2,c3,45,c5,c6,45,c8,c9]:List UInt8).length=λy:Option ((Int×Int×Int)⊕(Int×Int))=>y:=funext λy=>if_pos (by simp);simp only[List.toList_toArray,List.drop_zero];rw[hl,key];dsimp only[Option.bind,PZ];rw[hz]
end Mo
end Go.Proofs.YtpbkhogolfegfaaGreatDoor
namespace Go.Proofs.YtpbkhogolfegfaaGreatDoor
open AI Go LexS
namespace Mo
set_option maxRecDepth 100000
def Um{m:Nat}{t:List UInt8}(h:Lh m t=true):∃c u,t=c::u/\cin m c=true:=by
 cases t with
 | nil=>cases h
 | cons c u=>exact⟨c,u,rfl,h⟩
def R7:∀(t:List UInt8) (ys:List (List UInt8)),(Qy t ys).1=0\/(Qy t ys).1=6
 | _,[]=>.inl rfl
 | t,y::ys=>by
   unfold Qy;split;exact .inr rfl;exact R7 t ys
def acs{t:List UInt8}(h:Lh 8 t=true):1<=BV 8 t:=by
 obtain⟨c,u,rfl,hc⟩:=Um h;rw[NX,if_pos hc];omega
def uM{t:List UInt8}(h:KU t=true):∃c0 c1 c2 c3 c5 c6 c8 c9,t.take 10=[c0,c1,c2,c3,45,c5,c6,45,c8,c9]/\Sh c0/\Sh c1/\Sh c2/\Sh c3/\Sh c5/\Sh c6/\Sh c8/\Sh c9:=by
 unfold KU at h;rw[Bool.and_eq_true] at h;obtain⟨hl,h⟩:=h;have hl:=of_decide_eq_true hl;have hd:=λi hi=>List.all_eq_true.1 h i (List.mem_range.2 hi)
 match t,hl with
 | c0::c1::c2::c3::c4::c5::c6::c7::c8::c9::u,_ =>
   have e4:c4=45:=by have:=hd 4 (by decide);simpa[No] using this
   have e7:c7=45:=by have:=hd 7 (by decide);simpa[No] using this
   have g:∀(i:Nat) (c:UInt8) (v:List UInt8),i < 10->i≠4->i≠7->(c0::c1::c2::c3::c4::c5::c6::c7::c8::c9::u).drop i=c::v->Sh c:=by
     intro i c v h1 h4 h7 h;have:=hd i h1;unfold No at this;rw[if_neg (by omega),h] at this;exact aed this
   subst e4 e7
   exact⟨c0,c1,c2,c3,c5,c6,c8,c9,rfl,g 0 _ _ (by decide) (by decide) (by decide) rfl,g 1 _ _ (by decide) (by decide) (by decide) rfl,g 2 _ _ (by decide) (by decide) (by decide) rfl,g 3 _ _ (by decide) (by decide) (by decide) rfl,
     g 5 _ _ (by decide) (by decide) (by decide) rfl,g 6 _ _ (by decide) (by decide) (by decide) rfl,g 8 _ _ (by decide) (by decide) (by decide) rfl,g 9 _ _ (by decide) (by decide) (by decide) rfl⟩
def mI{t:List UInt8}(h1:(t.drop (BV 8 t)).head?=some 46)(h2:Lh 8 (t.drop (BV 8 t+1))=true)(h3:Lh 8 (t.drop (BV 8 t+2))=true) :
   ∃x y,t.take (BV 8 t+3)=t.take (BV 8 t)++46::[x,y]/\Sh x/\Sh y:=by
 obtain⟨x,u,hx,xO⟩:=Um h2;obtain⟨y,v,hy,Ep⟩:=Um h3;generalize hd:BV 8 t=d at *
 have e1:t.drop d=46::t.drop (d+1):=by
   cases hq:t.drop d with
   | nil=>rw[hq] at h1;cases h1
   | cons a b =>
     rw[hq] at h1;have:t.drop (d+1)=b:=by rw[<- List.drop_drop,hq];rfl
     rw[this];simp only[List.head?_cons,Option.some.injEq] at h1;rw[h1]
 have e2:t.drop (d+1)=x::t.drop (d+2):=by
   rw[hx,show d+2=(d+1)+1 from rfl,<- List.drop_drop,hx];rfl
 refine⟨x,y,?_,aed xO,aed Ep⟩;rw[List.take_add,e1,e2,hy];rfl
def acS{t:List UInt8}{o:Nat}(ht:t.length<=6000)(h:(BM t).1≠0):Gd (OZ ((BM t).1,t.take (BM t).2,o)):=by
 have hlen:(t.take (BM t).2).length<=6000:=by rw[List.length_take];omega
 have hlen:(OZ ((BM t).1,t.take (BM t).2,o)).text.data.toList.length<=6000:=hlen
 have other:(BM t).1≠3->(BM t).1≠4->(BM t).1≠5->Gd (OZ ((BM t).1,t.take (BM t).2,o)):=by
   intro h3 h4 h5;refine⟨λh=>?_,λh=>?_,λh=>?_,hlen⟩;have:(((BM t).1:Nat):Int)=3:=h;omega;have:(((BM t).1:Nat):Int)=3\/(((BM t).1:Nat):Int)=4:=h;omega;have:(((BM t).1:Nat):Int)=5:=h;omega
 by_cases c2:Lh 2 t=true;refine other ?_ ?_ ?_<;>(unfold BM;rw[if_pos c2];split<;>simp)
 by_cases c4:Lh 4 t=true;refine other ?_ ?_ ?_<;>(unfold BM;rw[if_neg c2,if_pos c4];split<;>simp)
 by_cases c8:Lh 8 t=true;rotate_left;have:BM t=Qy t Gm:=by unfold BM;rw[if_neg c2,if_neg c4,if_neg c8]
 rcases R7 t Gm with h1 | h1
 rw[this] at h;exact absurd h1 h;rw[<- this] at h1;exact other (by omega) (by omega) (by omega);have hr:BM t=KS t:=by unfold BM;rw[if_neg c2,if_neg c4,if_pos c8]
 have hp:=acs c8;have hsp:=Yw 8 t;rw[hr] at h hlen ⊢;unfold KS at h hlen ⊢;dsimp only at h hlen ⊢;by_cases hd:KU t=true;rw[if_pos hd] at h hlen ⊢;split at h;rename_i hf;rw[if_pos hf] at hlen ⊢;refine⟨λh=>?_,λh=>?_,λh=>?_,hlen⟩;have:(((5:Nat)):Int)=3:=h;omega;have:(((5:Nat)):Int)=3\/((5:Nat):Int)=4:=h;omega;obtain⟨c0,c1,c2,c3,c5,c6,c8,c9,h0,a0,a1,a2,a3,a5,a6,a8,a9⟩:=uM hd;dsimp only[OZ];rw[h0];exact uN a0 a1 a2 a3 a5 a6 a8 a9;exact absurd rfl h;rw[if_neg hd] at h hlen ⊢;by_cases h0:t.head?=some 48/\1 < BV 8 t;rw[if_pos h0] at h;exact absurd rfl h;rw[if_neg h0] at h hlen ⊢;by_cases h1:(t.drop (BV 8 t)).head?=some 46;rw[if_pos h1] at h hlen ⊢;by_cases h2:10 < BV 8 t\/Lh 8 (t.drop (BV 8 t+1))=false\/Lh 8 (t.drop (BV 8 t+2))=false;rw[if_pos h2] at h;exact absurd rfl h;rw[if_neg h2] at h hlen ⊢;split at h;rename_i hf;rw[if_pos hf] at hlen ⊢;refine⟨λh=>?_,λ_=>?_,λh=>?_,hlen⟩;have:(((4:Nat)):Int)=3:=h;omega;simp only[not_or,Bool.not_eq_false] at h2;obtain⟨x,y,e,hx,hy⟩:=mI h1 h2.2.1 h2.2.2;dsimp only[OZ];rw[e];have hs:=kB t;refine ZA (m:=t.take (BV 8 t)++[x,y]) (abY hs) ?_ (by simp) ?_ ?_;simp only[List.length_append,List.length_take,List.length_cons,List.length_nil];omega;simp only[List.length_append,List.length_take,List.length_cons,List.length_nil];omega;intro c hc;rcases List.mem_append.1 hc with hc | hc
 exact hs c hc;simp only[List.mem_cons,List.not_mem_nil,or_false] at hc;rcases hc with rfl | rfl
 exact hx;exact hy;have:(((4:Nat)):Int)=5:=h;omega;exact absurd rfl h;rw[if_neg h1] at h hlen ⊢;by_cases h2:12 < BV 8 t;rw[if_pos h2] at h;exact absurd rfl h;rw[if_neg h2] at h hlen ⊢;split at h;rename_i hf;rw[if_pos hf] at hlen ⊢;have hs:=kB t
 have Is:t.take (BV 8 t)≠[]:=λe=>by
   have:=congrArg List.length e;rw[List.length_take,List.length_nil] at this;omega
 refine⟨λh=>?_,λ_=>?_,λh=>?_,hlen⟩;exact Xl Is (by rw[List.length_take];omega) hs;exact ZA (afH hs) (by rw[List.length_take];omega) Is (by rw[List.length_take];omega) hs;have:(((3:Nat)):Int)=5:=h;omega;exact absurd rfl h
def bA:∀(n o:Nat) (t:List UInt8) (x:Tok),x∈J0 n o t->x.1≠0->∃u o',u.length<=t.length/\(BM u).1≠0/\x=((BM u).1,u.take (BM u).2,o'):=by
 intro n
 induction n with
 | zero=>intro o t x h;cases h
 | succ n ih =>
   intro o t x h h0;unfold J0 at h;split at h;cases h;split at h;rw[List.mem_singleton.1 h] at h0;exact absurd rfl h0;rename_i hr;rcases List.mem_cons.1 h with rfl | h
   exact⟨t,o,Nat.le_refl _,hr,rfl⟩;obtain⟨u,o',h1,h2⟩:=ih _ _ _ h h0;refine⟨u,o',Nat.le_trans h1 ?_,h2⟩;simp only[List.length_drop];omega
def X6:∀(l acc:List Tok),acc.length<=2000->(Jo acc l).1.length<=2000/\∀x∈(Jo acc l).1,x∈acc\/x∈l/\x.1≠0:=by
 intro l
 induction l with
 | nil=>intro acc h;exact⟨h,λx hx=>.inl hx⟩
 | cons y l ih =>
   intro acc h;unfold Jo;split;exact⟨Nat.zero_le _,λx hx=>by cases hx⟩;split;exact⟨Nat.zero_le _,λx hx=>by cases hx⟩;rename_i h1 h2;obtain⟨a,b⟩:=ih (acc++[y]) (by simp only[List.length_append,List.length_singleton];omega);refine⟨a,λx hx=>?_⟩;rcases b x hx with hx | ⟨hx,h0⟩
   rcases List.mem_append.1 hx with hx | hx
   exact .inl hx;rw[List.mem_singleton.1 hx];exact .inr ⟨List.mem_cons_self ..,h2⟩;exact .inr ⟨List.mem_cons_of_mem _ hx,h0⟩
def PP(s:ByteArray):Gl (Fo s)/\(Fo s).length<=2000:=by
 unfold Fo Ms;split;refine⟨?_,Nat.zero_le _⟩;intro t ht;cases ht;rename_i hs;obtain⟨a,b⟩:=X6 (EM s.data.toList) [] (Nat.zero_le _);refine⟨?_,by rw[List.length_map];exact a⟩;intro t ht;obtain⟨x,hx,rfl⟩:=List.mem_map.1 ht;rcases b x hx with hx | ⟨hx,h0⟩
 cases hx;obtain⟨u,o',h1,h2,rfl⟩:=bA _ _ _ x hx h0;rw[List.length_drop] at h1;exact acS (by omega) h2
end Mo
end Go.Proofs.YtpbkhogolfegfaaGreatDoor
namespace Go.Proofs.YtpbkhogolfegfaaGreatDoor
open AI Go
namespace Mo
set_option maxRecDepth 100000
section
variable {α β:Type} {c:Nat} {f:α->Nat} {g:β->Nat}
def SU(c:Nat)(f:α->Nat)(m:Rd α):Prop:=∀⦃l:List Tk⦄ ⦃a:α⦄ ⦃s:List Tk⦄,m l=some (.inl a,s)->f a+s.length<=l.length+c
def BH{m:Rd α}{K:α->Rd β}(h1:SU c f m)(h2:∀a,SU (f a) g (K a)):SU c g (Ct m K):=by
 intro l b s h;rcases IW h with ⟨a,s',e1,e2⟩ | ⟨d,_,h⟩
 have a1:=h1 e1;have a2:=h2 a e2;omega;cases h
def D3{a:α}(h:f a<=c):SU c f (FE a):=by
 intro l b s e;obtain⟨e1,rfl⟩:=K8 e;cases e1;omega
def IQ{e p:Int}:SU c f (Mf e p):=by
 intro l b s h;obtain⟨h,_⟩:=MB h;cases h
def My{X:Option β}{K:β->Rd α}(h:∀b,X=some b->SU c f (K b)):SU c f (Li X K):=by
 intro l a s e;obtain⟨b,hb,e⟩:=I0 e;exact h b hb e
def Yz{en:Int}{K:Tk->Rd α}(h:∀t,SU c f (K t)):SU c f (Uw en K):=by
 intro l a s e;cases l with
 | nil=>cases e
 | cons t l=>exact h t e
def RN{K:Rd α}(h:SU (c+1) f K):SU c f (U0 K):=by
 intro l a s e;cases l with
 | nil=>cases e
 | cons t l=>have:=h (l:=l) e;simp only[List.length_cons];omega
def Cg{b:Bool}{A B:Rd α}(h1:SU c f A)(h2:SU c f B):SU c f (cond b A B):=by cases b;exact h2;exact h1
def Vz{x:ByteArray}{A B:Rd α}(h1:SU (c+1) f A)(h2:SU c f B):SU c f (NT x A B):=by
 intro l a s e;unfold NT at e;cases hx:I6 x l with
 | true=>rw[hx] at e;exact RN h1 e
 | false=>rw[hx] at e;exact h2 e
def Vy{n:Nat}{m:Rd α}(h:SU c f m):SU c f (Od n m):=λ_ _ _ e=>h (NA e).2
def SU.le{c':Nat}{m:Rd α}(h:SU c f m)(hc:c<=c'):SU c' f m:=λ_ _ _ e=>by have:=h e;omega
end
section
variable {c:Nat} {en:Int}
def LS{f:Tk->Option Bool}:SU c (λ_=>c+1) (Lc en f):=Yz λt=>My λb _=>Cg (RN (D3 (Nat.le_refl _))) IQ
def Gz{x:ByteArray}:SU c (λ_=>c+1) (Jl en x):=LS
def aG:SU c (λ_=>c+1) (MT en):=BH LS λt=>My λn _=>D3 (Nat.le_refl _)
def PO{least:Int}:SU c (λ_=>c+1) (LB en least):=BH aG λp=>Cg IQ (Cg IQ (D3 (Nat.le_refl _)))
def WY{least:Int}:SU c (λ_=>c+1) (Uf en least):=BH LS λt=>My λd _=>Cg (Cg IQ (D3 (Nat.le_refl _))) IQ
def Ic(k:Int)(nm u:ByteArray)(n:Int)(ks:List Nd)(p:Int):DQ (EV k nm u n ks p)=1+GL ks:=rfl
def OF(n:Nd):GL [n]=DQ n:=by simp[GL]
def YB(l m:List Nd):GL (l++m)=GL l+GL m:=by
 induction l with
 | nil=>simp[GL]
 | cons a l ih=>simp only[List.cons_append,GL,ih];omega
def aga:SU c (λn=>DQ n+c) (ZO en) :=
 BH Gz λt=>BH PO λn=>BH Gz λ_=>BH WY λf =>
   Vz (BH WY λu=>BH Gz λ_=>BH WY λk=>D3 (by show 1+GL []+c<=_;simp only[GL];omega)) (BH Gz λ_=>BH WY λk=>D3 (by show 1+GL []+c<=_;simp only[GL];omega))
def sS:SU c (λn=>DQ n+c) (Ug en) :=
 Yz λt=>RN (BH LS λm=>BH Gz λ_=>BH LS λu=>Cg (BH LS λr=>My λn _=>BH Gz λ_=>D3 (by rw[Ic];simp only[GL];omega)) (BH Gz λ_=>D3 (by rw[Ic];simp only[GL];omega)))
def SV:SU c (λn=>DQ n+c) (Ge en):=BH PO λp=>D3 (by rw[Ic];simp only[GL];omega)
def agc{read:Rd Nd}(hr:∀c,SU c (λn=>DQ n+c) read):∀(q:Nat) (ns:List Nd) (c:Nat),SU (GL ns+c) (λr=>GL r+c) (QQ read q ns):=by
 intro q
 induction q with
 | zero=>intro ns c l a s h;cases h
 | succ q ih =>
   intro ns c;refine Vz (BH (hr _) λn=>Vy ((ih (ns++[n]) c).le ?_)) (D3 (Nat.le_refl _));rw[YB,OF];omega
def sT{read:Rd Nd}(hr:∀c,SU c (λn=>DQ n+c) read):SU c (λr=>GL r+c) (RD read) :=
 BH (hr c) λn l a s h=>by
   have:=agc hr _ [n] c h;rw[OF] at this;exact this
def YA:SU c (λ_=>c+1) (N3 en):=BH LS λt=>My λd _=>Cg (Cg (D3 (Nat.le_refl _)) IQ) (D3 (Nat.le_refl _))
def agd:SU c (λ_=>c+1) (V8 en):=BH LS λt=>Cg (D3 (Nat.le_refl _)) (D3 (Nat.le_refl _))
def aI{Ax a b:Int}:SU c (λ_=>c) (OA en Ax a b):=BH agd λs=>BH PO λm=>BH Gz λ_=>BH PO λd=>My λg _=>My λz _=>Cg IQ (D3 (by omega))
def SU.imp{α:Type}{f f':α->Nat}{m:Rd α}(h:SU c f m)(hf:∀a,f' a<=f a):SU c f' m:=λ_ a _ e=>by have:=h e;have:=hf a;omega
def aH{Ax a:Int}:SU c (λ_=>c) (MY en Ax a):=BH Gz λ_=>Vz (BH YA λa=>aI.imp λ_=>by omega) (BH YA λa=>aI.imp λ_=>by omega)
def acE{before:List Pt}{Ax:Int}:SU c (λ_=>c) (RH en before Ax):=BH YA λv=>Cg (Cg (aH.imp λ_=>by omega) IQ) (My λq _=>Cg IQ (Cg IQ (aH.imp λ_=>by omega)))
def wL:∀(q:Nat) (l:List Pt) (k:Int) (c:Nat),SU c (λ_=>c) (LL en q l k):=by
 intro q
 induction q with
 | zero=>intro l k c _ _ _ h;cases h
 | succ q ih=>intro l k c;exact BH acE λp=>Vy (Vz ((ih _ _ _).imp λ_=>by omega) (D3 (Nat.le_refl _)))
def wM{k p:Int}:∀(l:List Pt) (acc:List Pc),SU c (λ_=>c) (LR k p l acc):=by
 intro l
 induction l with
 | nil=>intro acc;exact D3 (Nat.le_refl _)
 | cons x l ih=>intro acc;exact My λz _=>Cg IQ (Cg IQ (Vy (ih _)))
def uE{op:ByteArray}{l r x:Nd}(h:A7 op l r=some x):DQ x=1+DQ l+DQ r:=by
 unfold A7 at h;revert h;have e1:∀(nm:ByteArray) (a b:Nd) (p:Int),DQ (⟨16,nm,ByteArray.empty,0,0,0,0,⟨0,[]⟩,[a,b],p⟩:Nd)=1+DQ a+DQ b:=by intro nm a b p;simp only[DQ,GL];omega
 cases BZ op.data.toList JZ.data.toList;cases BZ op.data.toList Hk.data.toList;intro h1;cases h1;exact e1 _ _ _ _;cases Jw op JZ KJ 1 with
 | none=>intro h1;cases h1
 | some y=>intro h1;cases h1;rw[e1];omega
 cases Jw op JZ KJ 1 with
 | none=>intro h1;cases h1
 | some y=>intro h1;cases h1;rw[e1];omega
def ah0{α:Type}{f:α->Nat}{yes:ByteArray->Rd α}{no:Rd α}(h1:∀x,SU (c+1) f (yes x))(h2:SU c f no):∀ops:List ByteArray,SU c f (lV yes no ops):=by
 intro ops
 induction ops with
 | nil=>exact h2
 | cons x ops ih=>exact Vz (h1 x) ih
def kD{sub:Rd Nd}(h:∀c,SU c (λn=>DQ n+c) sub)(op:ByteArray)(l:Nd):SU (DQ l+c+1) (λn=>DQ n+c) (Qq en sub op l) :=
 BH (Cg SV (h _)) λr=>My λx hx=>D3 (by rw[uE hx];omega)
def acC{ops:List ByteArray}{sub:Rd Nd}(h:∀c,SU c (λn=>DQ n+c) sub):∀(q:Nat) (l:Nd) (c:Nat),SU (DQ l+c) (λn=>DQ n+c) (KQ en ops sub q l):=by
 intro q
 induction q with
 | zero=>intro l c _ _ _ h;cases h
 | succ q ih=>intro l c;exact ah0 (λx=>BH (kD h x l) λb=>ih b c) (D3 (Nat.le_refl _)) ops
structure Siz(g:Ek->Rd Nd)(li:Rd (List Nd)):Prop where
 sg:∀e c,SU c (λn=>DQ n+c) (g e)
 sli:∀c,SU c (λr=>GL r+c) li
def af5:∀q:Nat,Siz (gP en q).1 (gP en q).2:=by
 intro q
 induction q with
 | zero =>
   constructor;intro e c _ _ _ h;cases h;intro c _ _ _ h;cases h
 | succ q A =>
   refine⟨λe c=>?_,λc=>sT (A.sg .ex)⟩;show SU c (λn=>DQ n+c) (OD en (gP en q).1 (gP en q).2 e);have lv:∀i,SU c (λn=>DQ n+c) (Ny en (gP en q).1 i):=λi=>BH (A.sg _ _) λN l a s h=>acC (A.sg _) _ N c h;unfold OD;split;exact A.sg _ _
   . intro l a s h
     unfold Ye at h;cases hx:I6 Ur l with
     | true =>
       rw[hx] at h;exact BH (g:=λn=>DQ n+c) Gz (λt=>BH (A.sg _ _) λk=>D3 (by rw[Ic,OF];omega)) h
     | false=>rw[hx] at h;exact A.sg _ _ h
   exact BH (A.sg _ _) λN=>ah0 (λx=>kD (A.sg _) x N) (D3 (Nat.le_refl _)) _;exact A.sg _ _;exact lv _;refine Yz λt=>Cg (BH aG λn=>Vz (D3 (by rw[Ic];simp only[GL];omega)) (D3 (by rw[Ic];simp only[GL];omega))) (Cg (RN (BH LS λa=>My λz _=>D3 (by rw[Ic];simp only[GL];omega))) (My λb _=>Cg (RN (D3 (by rw[Ic];simp only[GL];omega))) (A.sg _ _)));have one:∀(k:Int) (nm u:ByteArray) (n p:Int),SU c (λn=>DQ n+c) (U0 (FE (EV k nm u n [] p))):=λ_ _ _ _ _=>RN (D3 (by rw[Ic];simp only[GL];omega))
   exact Cg (one _ _ _ _ _) (Cg (one _ _ _ _ _) (Cg (RN (BH PO λp=>D3 (by rw[Ic];simp only[GL];omega))) (Cg (one _ _ _ _ _) (Cg (one _ _ _ _ _) (Cg (one _ _ _ _ _) (Cg (one _ _ _ _ _) (Cg (A.sg _ _) (Cg (A.sg _ _) (Cg (A.sg _ _)
     (Cg (RN (BH (A.sg _ _) λa=>BH Gz λ_=>D3 (by omega))) IQ))))))))))
   exact Yz λt=>RN (BH Gz λ_=>BH (A.sg _ _) λa=>BH Gz λ_=>BH (A.sli _) λl=>Vy (BH Gz λ_=>D3 (by rw[Ic];simp only[GL];omega)));exact BH Gz λt=>BH Gz λ_=>BH (A.sg _ _) λa=>BH Gz λ_=>BH (λl a s h=>wL _ _ _ _ h) λl=>BH Gz λe=>Vy (BH (wM _ _) λr=>D3 (by show 1+GL [a]+c<=DQ a+(c+1+1)+1+1;rw[OF];omega))
def ahZ:SU c (λn=>DQ n+c) (Pb en):=λ_ _ _ h=>(af5 _).sg .ex c h
def wK(kind:Int):SU c (λn=>DQ n+c) (JE en (Pb en) kind) :=
 Yz λt=>RN (Cg (BH (sT λc=>SV) λl=>BH Gz λ_=>D3 (by rw[Ic];omega)) (BH ahZ λe=>BH Gz λ_=>D3 (by rw[Ic,OF];omega)))
def acD{mk:List Nd->Nd}(hm:∀l,DQ (mk l)=1+GL l):∀(q:Nat) (ns:List Nd) (un am:Bool) (c:Nat),SU (GL ns+c+1) (λn=>DQ n+c) (IN en (Pb en) mk q ns un am):=by
 intro q
 induction q with
 | zero=>intro ns un am c _ _ _ h;cases h
 | succ q ih =>
   intro ns un am c
   have go:∀(kind:Int) (fG eU:Bool),SU (GL ns+c+1) (λn=>DQ n+c) (Ct (JE en (Pb en) kind) λx=>Od (ns.length+1) (IN en (Pb en) mk q (ns++[x]) fG eU)):=λkind fG eU =>
     BH (wK kind) λx=>Vy ((ih (ns++[x]) fG eU c).le (by rw[YB,OF];omega))
   exact Yz λt=>Cg (go _ _ _) (Cg (Cg IQ (go _ _ _)) (Cg (Cg IQ (go _ _ _)) (Cg (Cg (RN (D3 (by rw[hm];omega))) IQ) IQ)))
def agb:SU c (λn=>DQ n+c) (RC en (Pb en)) :=
 Yz λt=>Cg sS (Cg sS (Cg (BH Gz λt=>BH PO λn=>BH Gz λ_=>BH LS λm=>BH aga λh=>BH Gz λ_=>λl a s e=>by
   have:=acD (λl=>rfl) _ [h] false false c e;rw[OF] at this;dsimp only at this ⊢;omega) IQ))
end
def adk(a b:Nat):akH (a:Int) (b:Int)=((max a b:Nat):Int):=by
 unfold akH;split<;>omega
def aix:∀n:Nd,Oi n<=DQ n:=by
 intro n
 have key:∀(q:Nat) (n:Nd),DQ n<=q->Oi n<=DQ n:=by
   intro q
   induction q with
   | zero=>intro n h;rw[EB] at h;omega
   | succ q ih =>
     intro n h;rw[Np,EB];have:eW n.kids<=GL n.kids:=Xw.2 λk hk=>Nat.le_trans (ih k (by have:=R8 hk;omega)) (Lb hk);omega
 exact key _ n (Nat.le_refl _)
def vN:∀(q:Nat) (n:Nd),DQ n<=q->DQ n<=1000000->Dq q n=some (((DQ n:Nat):Int),((Oi n:Nat):Int)):=by
 intro q
 induction q with
 | zero=>intro n h;have:=EB n;omega
 | succ q ih =>
   intro n hq hz;have Oo:=EB n;rw[Dq,JI];rw[show SR n.kids.length=λy:Option ((Int×Int)⊕(Int×Int))=>y from funext λy=>if_pos (by have:=OE n.kids;omega),List.drop_zero]
   have key:∀(m:List Nd),(∀k∈m,k∈n.kids)->∀(i c d:Nat),c+GL m<=1000000->Dl (ρ:=Int×Int) (λi y x=>FJ (Dq q) i y x.1 x.2) (λx=>(x.1,x.2)) m i ((c:Int),(d:Int))=some (.inl (((c+GL m:Nat):Int),((max d (eW m):Nat):Int))):=by
     intro m
     induction m with
     | nil=>intro _ i c d _;simp[Dl,GL,eW]
     | cons a m ihm =>
       intro hm i c d hc;simp only[GL] at hc;have ha:=hm a (List.mem_cons_self ..);rw[Dl,FJ,ih a (by have:=Lb ha;omega) (by have:=Lb ha;omega),Option.bind_some];dsimp only;rw[Ha (by omega),adk];have:=ihm (λk hk=>hm k (List.mem_cons_of_mem _ hk)) (i+1) (c+DQ a) (max d (Oi a)) (by omega);rw[Option.bind_some];dsimp only[Ry];rw[show(c:Int)+(DQ a:Int)=((c+DQ a:Nat):Int) by omega,this];simp only[GL,eW,Nat.add_assoc,Nat.max_assoc]
   have h1:=key n.kids (λ_ h=>h) 0 1 0 (by omega);have h1:Dl (ρ:=Int×Int) (λi y x=>FJ (Dq q) i y x.1 x.2) (λx=>(x.1,x.2)) n.kids 0 (1,0)=some (.inl (((1+GL n.kids:Nat):Int),((max 0 (eW n.kids):Nat):Int))):=h1;rw[h1,Option.bind_some];dsimp only[PZ];have hd:=Np n;have hZ:=aix n;rw[Ha (by omega),Oo,hd];congr 2;omega
def ZV{n:Nd}(hz:DQ n<=1000000):Dp n=some (if 2000 < DQ n\/40 < Oi n then (z0,[⟨2,0⟩]) else (n,[])):=by
 have:LA n=some (((DQ n:Nat):Int),((Oi n:Nat):Int)):=S9 (DQ n) λq hq=>vN q n hq hz;unfold Dp;rw[this,Option.bind_some];dsimp only;by_cases h1:2000 < DQ n;rw[NB (by omega),if_pos (.inl h1)];rfl;rw[Kv (by omega)];by_cases h2:40 < Oi n;rw[NB (by omega),if_pos (.inr h2)];rfl;rw[Kv (by omega),if_neg (by omega)];rfl
end Mo
end Go.Proofs.YtpbkhogolfegfaaGreatDoor
namespace Go.Proofs.YtpbkhogolfegfaaGreatDoor
open AI Go
namespace Mo
set_option maxRecDepth 100000
def ae6(n:Nd):Nd×List Dg:=if 2000 < DQ n\/40 < Oi n then (z0,[⟨2,0⟩]) else (n,[])
def akv{en:Int}:∀(q:Nat) (l:List Tk) (ks:List Nd) (ds:List Dg) (r:List Nd×List Dg),Gl l->l.length<=10000->Q8 en q l ks ds=some r->GL r.1<=GL ks+l.length/\r.2.length<=max 20 ds.length:=by
 intro q
 induction q with
 | zero=>intro l ks ds r _ _ h;cases h
 | succ q ih =>
   intro l ks ds r hg hl h;cases l with
   | nil=>cases h;exact⟨by dsimp only;omega,by dsimp only;omega⟩
   | cons t l =>
     unfold Q8 at h;cases hd:EQ ((ds.length:Nat):Int) 20 with
     | false=>rw[hd] at h;cases h;exact⟨by dsimp only;omega,by dsimp only;omega⟩
     | true =>
       rw[hd] at h;dsimp only[cond] at h;have hd:=Yb hd;split at h;cases h;rename_i n s hi;have a:=agb (c:=0) hi;obtain⟨⟨k,rfl⟩,_,_⟩:=Nf hg hl hi;have b:=ih _ _ _ _ (hg.drop k) (by rw[List.length_drop];omega) h;rw[YB,OF] at b;exact⟨by dsimp only at a;omega,b.2⟩;rename_i d s hi;obtain⟨⟨k,rfl⟩,h2,_⟩:=Nf hg hl hi;obtain⟨j,hj⟩:=PM ((t::l).drop k);have ZQ:l.length<=10000:=by simp only[List.length_cons] at hl;omega
       have b:=ih _ _ _ _ (by rw[hj];exact(hg.drop k).drop j) (by omega) h;simp only[List.length_append,List.length_singleton] at b;simp only[List.length_cons];exact⟨by omega,by omega⟩
def ain(ks:List Nd):List Dg->Nd×List Dg
 | []=>ae6 (Jy ks)
 | ds=>(z0,ds)
def dF{s:ByteArray}(h:Vk s=0):∃ks ds,Q8 ((s.data.toList.length:Nat):Int) ((Fo s).length+1) (Fo s) [] []=some (ks,ds)/\CZ s=some (ain ks ds)/\GL ks<=2000/\ds.length<=20:=by
 obtain⟨hg,hl⟩:=PP s;obtain⟨ks,ds,h1,h2⟩:=vY h hg (by omega);have h3:=akv _ _ _ _ _ hg (by omega) h1;simp only[GL,List.length_nil] at h3;refine⟨ks,ds,h1,?_,by omega,by omega⟩;rw[h2];cases ds with
 | nil =>
   rw[Kv (by simp)];exact ZV (by have:=EB (Jy ks);simp only[Jy] at this;rw[show DQ (Jy ks)=1+GL ks from rfl];omega)
 | cons d ds =>
   rw[NB (by simp only[List.length_cons];omega)];rfl
def aim:(Nd⊕Dg)×List Tk->Nd×List Dg
 | (.inl n,[])=>ae6 n
 | (.inl _,t::_)=>(z0,[⟨71,t.AF⟩])
 | (.inr d,_)=>(z0,[d])
def rX{s:ByteArray}(h:Vk s=0):∃r l,Pb ((s.data.toList.length:Nat):Int) (Fo s)=some (r,l)/\Di s=some (aim (r,l)):=by
 obtain⟨hg,hl⟩:=PP s;obtain⟨r,l,h1,_⟩:=ah3 (en:=((s.data.toList.length:Nat):Int)) (n:=(Fo s).length) (by omega) hg (Nat.le_refl _);refine⟨r,l,h1,?_⟩;obtain⟨k',a1,a2,rfl,a4⟩:=qA (by omega) hg (Nat.zero_le _) (by rw[List.drop_zero];exact h1);unfold Di Kt;rw[Option.bind_some];dsimp only;rw[Ol (by unfold Vk at h;omega)];dsimp only[cond];have a4:Fy ⟨List.map OZ (LexS.Ms s.data.toList).fst,0,((s.data.toList.length:Nat):Int)⟩=some (r,(k':Int)):=a4;unfold Kf GW;rw[a4,Option.bind_some];cases r with
 | inr d=>rfl
 | inl n =>
   dsimp only[Sum.elim];rcases Jk (Fo s) a2 with ⟨h2,h3⟩ | ⟨t,h2,h3,h4⟩
   rw[h3,Kv (by show((List.map OZ (LexS.Ms s.data.toList).fst).length:Int)<=_;unfold Fo at h2;omega)];dsimp only[cond,Option.bind,acV]
   have hz:DQ n<=1000000:=by
     have:=ahZ (c:=0) h1;dsimp only at this;omega
   have:=ZV hz;rw[this];rfl;rw[h4,NB (by show _ < ((List.map OZ (LexS.Ms s.data.toList).fst).length:Int);unfold Fo at h2;omega)];dsimp only[cond]
   have hgt:Mp (List.map OZ (LexS.Ms s.data.toList).fst) (k':Int)=some t:=by
     unfold Mp;rw[if_pos (by omega),Int.toNat_natCast];exact h3
   rw[hgt];rfl
end Mo
end Go.Proofs.YtpbkhogolfegfaaGreatDoor
namespace Go.Proofs.YtpbkhogolfegfaaGreatDoor
open AI Go LexS
namespace Mo
set_option maxRecDepth 100000
structure Gy(t:Tk):Prop where
 name:t.kind=1->(1<=t.text.data.toList.length/\t.text.data.toList.length<=16)/\(∃b,t.text.data.toList[0]?=some b/\97<=b.toNat/\b.toNat<=122)/\∀c∈t.text.data.toList,tK c
 mK:t.kind=2->uL t.text
def WA:∀n < 128,((Rr n &&& 26)≠0->(97<=n/\n<=122)\/(48<=n/\n<=57)\/n=95)/\((Rr n &&& 4)≠0->65<=n/\n<=90)/\((Rr n &&& 2)≠0->97<=n/\n<=122):=by decide
def Wz{m:Nat}{c:UInt8}(h:cin m c=true):c.toNat < 128/\(Rr c.toNat &&& m)≠0:=by
 unfold cin at h;refine⟨?_,by simpa using h⟩
 by_cases hc:c.toNat < 128;exact hc;rw[bU _ (by omega)] at h;simp at h
def kA(m:Nat)(t:List UInt8):∀c∈t.take (BV m t),cin m c=true:=by
 unfold BV
 induction t with
 | nil=>intro c hc;cases hc
 | cons x t ih =>
   intro c hc;rw[List.takeWhile_cons] at hc;split at hc;rename_i hx;rw[List.length_cons,List.take_succ_cons] at hc;rcases List.mem_cons.1 hc with rfl | hc
   exact hx;exact ih c hc;cases hc
def aku{t:List UInt8}{o:Nat}:Gy (OZ ((BM t).1,t.take (BM t).2,o)):=by
 by_cases c2:Lh 2 t=true;by_cases hc:BV 30 t<=16/\BV 26 t=BV 30 t;have hr:BM t=(1,BV 30 t):=by unfold BM;rw[if_pos c2,if_pos hc]
 rw[hr];refine⟨λ_=>?_,λh=>?_⟩;obtain⟨c,u,rfl,alo⟩:=Um c2
 have hp:1<=BV 26 (c::u):=by
   rw[NX,if_pos (by
     obtain⟨a,b⟩:=Wz alo;have:=(WA _ a).2.2 b;unfold cin;have:∀n < 128,(Rr n &&& 2)≠0->((Rr n &&& 26) != 0)=true:=by decide
     exact this _ a b)]
   omega
 have hsp:=Yw 30 (c::u);dsimp only[OZ];refine⟨⟨by rw[List.length_take];omega,by rw[List.length_take];omega⟩,⟨c,?_,?_⟩,λx hx=>?_⟩;rw[List.getElem?_take_of_lt (by omega)];rfl;obtain⟨a,b⟩:=Wz alo;exact(WA _ a).2.2 b;rw[<- hc.2] at hx;obtain⟨a,b⟩:=Wz (kA 26 _ x hx);exact(WA _ a).1 b;have:(((1:Nat)):Int)=2:=h;omega;have hr:BM t=(0,0):=by unfold BM;rw[if_pos c2,if_neg hc]
 rw[hr];exact⟨λh=>by have:(((0:Nat)):Int)=1:=h;omega,λh=>by have:(((0:Nat)):Int)=2:=h;omega⟩;by_cases c4:Lh 4 t=true;by_cases hc:BV 30 t=3/\BV 4 t=BV 30 t;have hr:BM t=(2,BV 30 t):=by unfold BM;rw[if_neg c2,if_pos c4,if_pos hc]
 rw[hr];refine⟨λh=>by have:(((2:Nat)):Int)=1:=h;omega,λ_=>?_⟩;have hsp:=Yw 30 t;unfold uL;dsimp only[OZ];refine⟨by rw[List.length_take];omega,λx hx=>?_⟩;rw[<- hc.2] at hx;obtain⟨a,b⟩:=Wz (kA 4 _ x hx);exact(WA _ a).2.1 b;have hr:BM t=(0,0):=by unfold BM;rw[if_neg c2,if_pos c4,if_neg hc]
 rw[hr];exact⟨λh=>by have:(((0:Nat)):Int)=1:=h;omega,λh=>by have:(((0:Nat)):Int)=2:=h;omega⟩
 have:(BM t).1≠1/\(BM t).1≠2:=by
   unfold BM;rw[if_neg c2,if_neg c4];split
   . unfold KS
     dsimp only
     repeat' split
     all_goals simp
   rcases R7 t Gm with h | h<;>omega
 exact⟨λh=>absurd (show(((BM t).1:Nat):Int)=1 from h) (by omega),λh=>absurd (show(((BM t).1:Nat):Int)=2 from h) (by omega)⟩
def Gx(l:List Tk):Prop:=∀t∈l,Gd t/\Gy t
def sW(s:ByteArray):Gx (Fo s):=by
 intro t ht;refine⟨(PP s).1 t ht,?_⟩;unfold Fo Ms at ht;split at ht;cases ht;obtain⟨a,b⟩:=X6 (EM s.data.toList) [] (Nat.zero_le _);obtain⟨x,hx,rfl⟩:=List.mem_map.1 ht;rcases b x hx with hx | ⟨hx,h0⟩
 cases hx;obtain⟨u,o',h1,h2,rfl⟩:=bA _ _ _ x hx h0;exact aku
section
variable {α β:Type} {P:α->Prop} {P2:β->Prop}
def Va(P:α->Prop)(m:Rd α):Prop:=∀⦃l:List Tk⦄ ⦃a:α⦄ ⦃s:List Tk⦄,Gx l->m l=some (.inl a,s)->P a/\Gx s
def BI{m:Rd α}{K:α->Rd β}(h1:Va P m)(h2:∀a,P a->Va P2 (K a)):Va P2 (Ct m K):=by
 intro l b s hg h;rcases IW h with ⟨a,s',e1,e2⟩ | ⟨d,_,h⟩
 obtain⟨pa,hg⟩:=h1 hg e1;exact h2 a pa hg e2;cases h
def DP{a:α}(h:P a):Va P (FE a):=by
 intro l b s hg e;obtain⟨e1,rfl⟩:=K8 e;cases e1;exact⟨h,hg⟩
def IS{e p:Int}:Va P (Mf e p):=by
 intro l b s _ h;obtain⟨h,_⟩:=MB h;cases h
def N2{X:Option β}{K:β->Rd α}(h:∀b,X=some b->Va P (K b)):Va P (Li X K):=by
 intro l a s hg e;obtain⟨b,hb,e⟩:=I0 e;exact h b hb hg e
def kM{en:Int}{K:Tk->Rd α}(h:∀t,Gd t/\Gy t->Va P (K t)):Va P (Uw en K):=by
 intro l a s hg e;cases l with
 | nil=>cases e
 | cons t l=>exact h t (hg t (List.mem_cons_self ..)) hg e
def PQ{K:Rd α}(h:Va P K):Va P (U0 K):=by
 intro l a s hg e;cases l with
 | nil=>cases e
 | cons t l=>exact h (λt ht=>hg t (List.mem_cons_of_mem _ ht)) e
def DH{b:Bool}{A B:Rd α}(h1:b=true->Va P A)(h2:b=false->Va P B):Va P (cond b A B):=by cases b;exact h2 rfl;exact h1 rfl
def VF{x:ByteArray}{A B:Rd α}(h1:Va P A)(h2:Va P B):Va P (NT x A B):=by
 intro l a s hg e;unfold NT at e;cases hx:I6 x l with
 | true=>rw[hx] at e;exact PQ h1 hg e
 | false=>rw[hx] at e;exact h2 hg e
def VE{n:Nat}{m:Rd α}(h:Va P m):Va P (Od n m):=λ_ _ _ hg e=>h hg (NA e).2
def Va.imp{P':α->Prop}{m:Rd α}(h:Va P m)(f:∀a,P a->P' a):Va P' m:=λ_ a _ hg e=>⟨f a (h hg e).1,(h hg e).2⟩
end
section
variable {en:Int}
def LU{f:Tk->Option Bool}:Va (λt=>(Gd t/\Gy t)/\f t=some true) (Lc en f) :=
 kM λt ht=>N2 λb hb=>DH (λh=>PQ (DP ⟨ht,by rw[hb,h]⟩)) λ_=>IS
def GA{x:ByteArray}:Va TT (Jl en x):=LU.imp λ_ _=>trivial
def WO{t:Tk}(hg:Gd t/\Gy t)(h:Cu t=some true):QR t.text:=by
 unfold Cu at h;rw[abf] at h;cases hk:DZ t.kind 1 with
 | false=>rw[hk] at h;cases h
 | true =>
   rw[hk] at h;obtain⟨h1,h2,h3⟩:=hg.2.name (Fw hk);refine⟨h1,h2,λhm=>?_,h3⟩;rw[Dh.2 hm] at h;cases h
def sZ{t:Tk}(hg:Gd t/\Gy t)(h:EX t=some true):UJ t.text:=by
 unfold EX at h;cases h1:BZ t.text.data.toList GO.data.toList with
 | true=>exact .inl (Oj h1)
 | false =>
   rw[h1] at h;cases h2:BZ t.text.data.toList Ev.data.toList with
   | true=>exact .inr (.inl (Oj h2))
   | false =>
     rw[h2] at h;cases h3:BZ t.text.data.toList Jp.data.toList with
     | true=>exact .inr (.inr (.inl (Oj h3)))
     | false =>
       rw[h3] at h;exact .inr (.inr (.inr (hg.2.mK (Fw (Qe h).symm))))
def aR:Va (λp:Int×Int=>0<=p.1/\p.1<=999999999999) (MT en):=by
 refine BI LU λt ht=>N2 λn hn=>DP ?_;obtain⟨z,h1,h2⟩:=ht.1.1.num (Fw (Qe ht.2).symm);rw[h1] at hn;cases hn;exact h2
def PR(least:Int):Va (λp:Int×Int=>least<=p.1/\p.1<=1000000) (LB en least) :=
 BI aR λp _=>DH (λ_=>IS) λh1=>DH (λ_=>IS) λh2=>DP ⟨Ku h1,Ku h2⟩
def W4(least:Int):Va (λd:Int=>least<=d/\0<=d/\d<=36524) (Uf en least):=by
 refine BI LU λt ht=>N2 λd hd=>DH (λh=>DH (λ_=>IS) λh3=>DP ⟨Ku h3,?_⟩) λ_=>IS;obtain⟨d',e,h1,h2⟩:=ht.1.1.date (Fw (Qe ht.2).symm);rw[h1] at hd;cases hd;exact h2 (Fw h)
def agF:Va QN (ZO en):=by
 have mk:∀{n f u k p:Int},(0<=n/\n<=1000000)->(0<=f/\f<=36524)->(f < u/\u<=36525)->(0<=k/\k<=36524)->QN ⟨5,bE,bE,n,f,u,k,⟨0,[]⟩,[],p⟩ :=
   λh1 h2 h3 h4=>⟨rfl,h1,rfl,h2,h3,h4,rfl,rfl,rfl,rfl,rfl,rfl,rfl,rfl⟩
 exact BI GA λt _=>BI (PR _) λn hn=>BI GA λ_ _=>BI (W4 _) λf hf =>
   VF (BI (W4 _) λu hu=>BI GA λ_ _=>BI (W4 _) λk hk=>DP (mk hn hf.2 ⟨by have:=hu.1;rw[Ha (by have:=hf.2;omega)] at this;omega,by have:=hu.2;omega⟩ hk.2))
     (BI GA λ_ _=>BI (W4 _) λk hk=>DP (mk hn hf.2 ⟨by have:=hf.2;omega,by omega⟩ hk.2))
def afK{x:ByteArray}{n:Int}(h:El x=some n):0<=n/\n<=4:=by
 unfold El at h;revert h;cases BZ SI.data.toList x.data.toList;cases BZ LG.data.toList x.data.toList;cases BZ OS.data.toList x.data.toList;cases BZ SQ.data.toList x.data.toList<;>(intro h;cases h;decide)
 intro h;cases h;decide;intro h;cases h;decide;intro h;cases h;decide
def tB:Va Ik (Ug en):=by
 refine kM λt _=>PQ (BI LU λm hm=>BI GA λ_ _=>BI LU λu hu=>DH (λ_=>BI LU λr hr=>N2 λn hn=>BI GA λ_ _=>DP (.inr (.inl ?_))) λ_=>BI GA λ_ _=>DP (.inl ?_));have h1:=afK hn
 have h2:0 < n:=by
   have h:=hr.2;unfold BT at h;rw[hn] at h;exact Yb (by cases hq:EQ 0 n with | true=>rfl | false=>(simp only[Option.bind_some,hq,cond_false] at h;cases h))
 exact⟨rfl,WO hm.1 hm.2,sZ hu.1 hu.2,(by omega:1<=n),h1.2,rfl,rfl,rfl,rfl,rfl,rfl,rfl,rfl,rfl⟩;exact⟨rfl,WO hm.1 hm.2,sZ hu.1 hu.2,rfl,rfl,rfl,rfl,rfl,rfl,rfl,rfl,rfl⟩
end
end Mo
end Go.Proofs.YtpbkhogolfegfaaGreatDoor
namespace Go.Proofs.YtpbkhogolfegfaaGreatDoor
open AI Go LexS
namespace Mo
set_option maxRecDepth 100000
section
variable {en:Int}
def YO:Va (λp:Int×Int=>0<=p.1/\p.1<=999999999999) (N3 en):=by
 refine BI LU λt ht=>N2 λc hc=>?_
 have hk:t.kind=3\/t.kind=4:=by
   have h:=ht.2;unfold Da at h;cases h4:DZ t.kind 4 with
   | true=>exact .inr (Fw h4)
   | false =>
     rw[h4] at h;exact .inl (Fw (Qe h).symm)
 obtain⟨z,h1,h2⟩:=ht.1.1.pU hk;rw[h1] at hc;cases hc;exact DH (λ_=>DH (λ_=>DP h2) λ_=>IS) λ_=>DP h2
def agI:Va (λs:Int=>s=1\/s=-1) (V8 en):=BI LU λt _=>DH (λ_=>DP (.inr rfl)) λ_=>DP (.inl rfl)
def ajE{Ax d g z:Int}(hc:1<=Ax/\Ax<=1000000)(hd:1<=d/\d<=1000000)(h1:aat Ax d=some g)(h2:Si Ax g=some z):1<=BN z d:=by
 obtain⟨g',e1,lQ,⟨c1,h3⟩,_⟩:=aav hc.1 (show(0:Int)<=d by omega);rw[h1] at e1;cases e1;rw[Xx (by omega) (by omega) (by omega)] at h2;cases h2;have hq:Ax / g=c1:=by rw[h3,Int.mul_ediv_cancel_left _ (by omega)]
 have ZM:1<=c1:=by
   by_cases h:1<=c1;exact h;have:=Int.mul_nonpos_of_nonneg_of_nonpos (show 0<=g by omega) (show c1<=0 by omega);omega
 have hc2:c1<=1000000:=by
   have:=Int.mul_le_mul_of_nonneg_right lQ (show 0<=c1 by omega);omega
 rw[hq];have a1:=Int.mul_le_mul hc2 hd.2 (by omega) (by omega);have a2:=Int.mul_nonneg (show 0<=c1 by omega) (show 0<=d by omega);rw[Iz (by omega)];have:=Int.mul_le_mul_of_nonneg_right ZM (show 0<=d by omega);omega
def PtP(before:List Pt)(x:Pt×Int):Prop:=(0<=x.1.fr/\x.1.fr<=999999999999)/\(before=[]->x.1.fr=0)/\(∀q,before[before.length - 1]?=some q->q.fr < x.1.fr)/\before.length<=63/\(-999999999999<=x.1.AF/\x.1.AF<=999999999999)/\1<=x.2/\x.2<=1000000
def aU{Ax:Int}(hc:1<=Ax/\Ax<=1000000)(from_ a:Int):Va (λx:Pt×Int=>x.1.fr=from_/\x.1.AF=a/\1<=x.2/\x.2<=1000000) (OA en Ax from_ a) :=
 BI agI λs hs=>BI (PR _) λm hm=>BI GA λ_ _=>BI (PR _) λd hd=>N2 λg hg=>N2 λz hz=>DH (λ_=>IS) λh5=>DP ⟨rfl,rfl,ajE hc hd hg hz,Ku h5⟩
def aT{Ax:Int}(hc:1<=Ax/\Ax<=1000000)(from_:Int):Va (λx:Pt×Int=>x.1.fr=from_/\(-999999999999<=x.1.AF/\x.1.AF<=999999999999)/\1<=x.2/\x.2<=1000000) (MY en Ax from_) :=
 BI GA λ_ _=>VF (BI YO λa ha=>(aU hc _ _).imp λx hx=>⟨hx.1,by rw[hx.2.1,Iz (by omega)];omega,hx.2.2⟩) (BI YO λa ha=>(aU hc _ _).imp λx hx=>⟨hx.1,by rw[hx.2.1,Iz (by omega)];omega,hx.2.2⟩)
def ac8(before:List Pt){Ax:Int}(hc:1<=Ax/\Ax<=1000000):Va (PtP before) (RH en before Ax):=by
 refine BI YO λv hv=>DH (λh=>DH (λh0=>(aT hc _).imp λx hx=>?_) λ_=>IS) λh=>N2 λq hq=>DH (λ_=>IS) λh1=>DH (λ_=>IS) λh2=>(aT hc _).imp λx hx=>?_;have hn:before=[]:=List.eq_nil_of_length_eq_zero (by have:=Fw h;omega);have h0:=Fw h0;exact⟨by rw[hx.1];omega,λ_=>by rw[hx.1];exact h0,λq hq=>(by rw[hn] at hq;cases hq),by rw[hn];exact Nat.zero_le _,hx.2⟩;have h1:=abj h1;have h2:=abj h2;have Is:before≠[]:=λe=>ZD h (by rw[e];rfl);exact⟨by rw[hx.1];omega,λe=>absurd e Is,λq' lU=>(by rw[hq] at lU;cases lU;rw[hx.1];exact h1),by omega,hx.2⟩
def PLP(ps:List Pt):Prop:=(∀x,ps[0]?=some x->x.fr=0)/\∀(i:Nat) p,ps[i]?=some p->(0<=p.fr/\p.fr<=999999999999)/\(∀q,0 < i->ps[i - 1]?=some q->q.fr < p.fr)/\-999999999999<=p.AF/\p.AF<=999999999999
def rZ{ps:List Pt}{x:Pt×Int}(h:PLP ps)(hx:PtP ps x):PLP (ps++[x.1]):=by
 obtain⟨a1,a2,a3,a4,a5,a6⟩:=hx
 have get:∀{i:Nat} {p:Pt},(ps++[x.1])[i]?=some p->(i < ps.length/\ps[i]?=some p)\/(i=ps.length/\p=x.1):=by
   intro i p hp;by_cases hi:i < ps.length;rw[List.getElem?_append_left hi] at hp;exact .inl ⟨hi,hp⟩;rw[List.getElem?_append_right (by omega)] at hp;cases hj:i - ps.length with
   | zero=>rw[hj] at hp;cases hp;exact .inr ⟨by omega,rfl⟩
   | succ j=>rw[hj] at hp;cases hp
 refine⟨λy hy=>?_,λi p hp=>?_⟩;rcases get hy with ⟨h1,h2⟩ | ⟨h1,rfl⟩
 exact h.1 y h2;exact a2 (List.eq_nil_of_length_eq_zero h1.symm);rcases get hp with ⟨h1,h2⟩ | ⟨rfl,rfl⟩
 obtain⟨b1,b2,b3⟩:=h.2 i p h2;refine⟨b1,λq hq Y1=>?_,b3⟩;rcases get Y1 with ⟨_,h4⟩ | ⟨h3,_⟩
 exact b2 q hq h4;omega;refine⟨a1,λq hq Y1=>?_,a5⟩;rcases get Y1 with ⟨_,h4⟩ | ⟨h3,_⟩
 exact a3 q h4;omega
def wX:∀(q:Nat) (ps:List Pt) (c:Int),1<=c/\c<=1000000->PLP ps->Va (λr:List Pt×Int=>PLP r.1/\(1<=r.1.length/\r.1.length<=64)/\1<=r.2/\r.2<=1000000) (LL en q ps c):=by
 intro q
 induction q with
 | zero=>intro ps c _ _ _ _ _ _ h;cases h
 | succ q ih =>
   intro ps c hc hp;refine BI (ac8 ps hc) λx hx=>VE (VF (ih _ _ hx.2.2.2.2.2 (rZ hp hx)) (DP ⟨rZ hp hx,?_,hx.2.2.2.2.2⟩));have:=hx.2.2.2.1;simp only[List.length_append,List.length_singleton];omega
def wY{c p:Int}:∀(ps:List Pt) (acc:List Pc),Va (λr:List Pc=>∃out,r=acc++out/\out.length=ps.length/\∀(i:Nat) x,ps[i]?=some x->∃sl,out[i]?=some ⟨x.fr,BN x.AF c,sl⟩/\-1000000<=sl/\sl<=1000000) (LR c p ps acc):=by
 intro ps
 induction ps with
 | nil=>intro acc;exact DP ⟨[],by simp,rfl,λi x h=>by cases h⟩
 | cons y ps ih =>
   intro acc;refine N2 λz _=>DH (λ_=>IS) λh1=>DH (λ_=>IS) λh2=>VE ((ih _).imp λr hr=>?_);obtain⟨out,rfl,h3,h4⟩:=hr;refine⟨⟨y.fr,BN y.AF c,BN y.num z⟩::out,by simp,by simp[h3],λi x hx=>?_⟩;cases i with
   | zero=>cases hx;exact⟨_,rfl,Ku h2,Ku h1⟩
   | succ i=>exact h4 i x hx
def aks{ps:List Pt}{c:Int}{r:List Pc}(h:PLP ps)(hl:1<=ps.length/\ps.length<=64)(hc:1<=c/\c<=1000000)(h2:r.length=ps.length)(h3:∀(i:Nat) x,ps[i]?=some x->∃sl,r[i]?=some ⟨x.fr,BN x.AF c,sl⟩/\-1000000<=sl/\sl<=1000000):kF ⟨c,r⟩:=by
 have back:∀{i:Nat} {y:Pc},r[i]?=some y->∃x sl,ps[i]?=some x/\y=⟨x.fr,BN x.AF c,sl⟩/\-1000000<=sl/\sl<=1000000:=by
   intro i y hy;have hi:i < ps.length:=by have:=(List.getElem?_eq_some_iff.1 hy).1;omega
   obtain⟨sl,e,b⟩:=h3 i ps[i] (List.getElem?_eq_getElem hi);rw[hy] at e;exact⟨ps[i],sl,List.getElem?_eq_getElem hi,Option.some.inj e,b⟩
 refine⟨hc,by rw[h2];exact hl,λy hy=>?_,λi y hy=>?_⟩;obtain⟨x,sl,h4,rfl,_⟩:=back hy;exact h.1 x h4;obtain⟨x,sl,h4,rfl,h5,h6⟩:=back hy;obtain⟨a1,a2,a3,a4⟩:=h.2 i x h4;have m1:=Int.mul_le_mul_of_nonneg_right a4 (show 0<=c by omega);have m2:=Int.mul_le_mul_of_nonneg_right a3 (show 0<=c by omega);have e:BN x.AF c=x.AF*c:=Iz (by omega);refine⟨a1.2,λq hq Y1=>?_,?_,?_,?_,h6,h5⟩;obtain⟨x',sl',h7,rfl,_⟩:=back Y1;exact a2 x' hq h7;dsimp only;unfold Xy kS;rw[if_neg (by omega),e,Int.mul_tmod_left];dsimp only;rw[e,Iz (by omega)];exact m1;dsimp only;rw[e,Iz (by omega)];exact m2
def agH{P:Nd->Prop}{read:Rd Nd}(hr:Va P read):∀(q:Nat) (ns:List Nd),ns≠[]->(∀n∈ns,P n)->Va (λr:List Nd=>r≠[]/\∀n∈r,P n) (QQ read q ns):=by
 intro q
 induction q with
 | zero=>intro ns _ _ _ _ _ _ h;cases h
 | succ q ih =>
   intro ns h0 h;refine VF (BI hr λn hn=>VE (ih _ (by simp) λy hy=>?_)) (DP ⟨h0,h⟩);rcases List.mem_append.1 hy with hy | hy
   exact h y hy;rw[List.mem_singleton.1 hy];exact hn
def tC{P:Nd->Prop}{read:Rd Nd}(hr:Va P read):Va (λr:List Nd=>r≠[]/\∀n∈r,P n) (RD read) :=
 BI hr λn hn _ _ _ hg h=>agH hr _ [n] (by simp) (λy hy=>by rw[List.mem_singleton.1 hy];exact hn) hg h
def ajR{n p:Int}(h:1<=n/\n<=1000000):JF (EV 11 bE Ev n [] p)/\Qj (EV 11 bE Ev n [] p) :=
 ⟨(IX _).2 ⟨.inl ⟨rfl,.inr (.inl rfl),by show 0<=n;omega,by show n<=_;omega,λe=>absurd e (show Ev≠GO by decide),rfl,rfl,rfl,rfl,rfl,rfl,rfl,rfl,rfl⟩,λk hk=>by cases hk⟩,rfl,rfl,h⟩
def SY:Va (λn=>JF n/\Qj n) (Ge en):=BI (PR _) λp hp=>DP (ajR hp)
end
end Mo
end Go.Proofs.YtpbkhogolfegfaaGreatDoor
namespace Go.Proofs.YtpbkhogolfegfaaGreatDoor
open AI Go LexS
namespace Mo
set_option maxRecDepth 100000
def opQ{nm:ByteArray}{a b:Nd}{p:Int}(ho:Yg nm)(ha:JF a)(hb:JF b)(hn:nm=Fa->Qj b):JF ⟨16,nm,ByteArray.empty,0,0,0,0,⟨0,[]⟩,[a,b],p⟩:=by
 refine(IX _).2 ⟨.inr (.inr (.inr (.inr (.inr (.inl ⟨rfl,⟨rfl,rfl,rfl,rfl,rfl,rfl,rfl,rfl⟩,rfl,ho,λe k hk=>?_⟩))))),λk hk=>?_⟩;cases hk;exact hn e;simp only[List.mem_cons,List.not_mem_nil,or_false] at hk;rcases hk with rfl | rfl
 exact ha;exact hb
def U2:List ByteArray:=[jD,Pj,Ju,Kq,KJ,JY,JZ,Hk,RI,M1,Tx,Fa,fS]
def rW(i:Nat):∀x∈opsOf i,x∈U2:=by
 unfold opsOf;split<;>(intro x hx;simp only[List.mem_cons,List.not_mem_nil,or_false] at hx)<;>(try (unfold U2;simp only[List.mem_cons]))
 exact .inl hx;exact .inr (.inl hx);rcases hx with h | h | h | h | h | h<;>simp[h]
 rcases hx with h | h<;>simp[h]
 rcases hx with h | h | h<;>simp[h]
def uC{op:ByteArray}{l r x:Nd}(ho:op∈U2)(hl:JF l)(hr:JF r)(hn:op=Fa->Qj r)(h:A7 op l r=some x):JF x:=by
 unfold A7 at h;revert h;cases h1:BZ op.data.toList JZ.data.toList with
 | true =>
   rw[Oj h1,show Jw JZ JZ KJ 1=some KJ from rfl];intro h;cases h;exact opQ (by unfold Yg;simp) hr hl λe=>absurd e (by decide)
 | false =>
   cases h2:BZ op.data.toList Hk.data.toList with
   | true =>
     rw[Oj h2,show Jw Hk JZ KJ 1=some JY from rfl];intro h;cases h;exact opQ (by unfold Yg;simp) hr hl λe=>absurd e (by decide)
   | false =>
     intro h;cases h;refine opQ ?_ hl hr hn;unfold U2 at ho;simp only[List.mem_cons,List.not_mem_nil,or_false] at ho;have n1:=aag h1;have n2:=aag h2;unfold Yg;rcases ho with h | h | h | h | h | h | h | h | h | h | h | h | h
     all_goals first | exact absurd h n1 | exact absurd h n2 | simp[h]
section
variable {en:Int}
def ah6{α:Type}{P:α->Prop}{yes:ByteArray->Rd α}{no:Rd α}(h2:Va P no):∀ops:List ByteArray,(∀x∈ops,Va P (yes x))->Va P (lV yes no ops):=by
 intro ops
 induction ops with
 | nil=>intro _;exact h2
 | cons x ops ih=>intro h;exact VF (h x (List.mem_cons_self ..)) (ih λy hy=>h y (List.mem_cons_of_mem _ hy))
def kN{sub:Rd Nd}(h:Va JF sub){op:ByteArray}(ho:op∈U2){l:Nd}(hl:JF l):Va JF (Qq en sub op l):=by
 refine BI (P:=λr=>JF r/\(op=Fa->Qj r)) (DH (λ_=>SY.imp λn hn=>⟨hn.1,λ_=>hn.2⟩) λh1=>h.imp λn hn=>⟨hn,λe=>absurd e (aag h1)⟩) λr hr=>N2 λx hx=>DP (uC ho hl hr.1 hr.2 hx)
def ac6{ops:List ByteArray}(aoS:∀x∈ops,x∈U2){sub:Rd Nd}(h:Va JF sub):∀(q:Nat) (l:Nd),JF l->Va JF (KQ en ops sub q l):=by
 intro q
 induction q with
 | zero=>intro l _ _ _ _ _ h;cases h
 | succ q ih=>intro l hl;exact ah6 (DP hl) ops λx hx=>BI (kN h (aoS x hx) hl) λb hb=>ih b hb
def aj7{nm:ByteArray}{p:Int}(h:QR nm):JF (EV 12 nm bE 0 [] p):=(IX _).2 ⟨.inr (.inl ⟨rfl,h,rfl,rfl,rfl,rfl,rfl,rfl,rfl,rfl,rfl⟩),λk hk=>by cases hk⟩
def X7{u:ByteArray}{n p:Int}(h:UJ u)(h0:0<=n/\n<=999999999999)(h1:u=GO->n<=1):JF (EV 11 bE u n [] p):=(IX _).2 ⟨.inl ⟨rfl,h,h0.1,h0.2,h1,rfl,rfl,rfl,rfl,rfl,rfl,rfl,rfl,rfl⟩,λk hk=>by cases hk⟩
def cZ{a:Nd}(h:JF a):∀k∈[a],JF k:=λk hk=>by rw[List.mem_singleton.1 hk];exact h
def ajO{k:Nd}{p:Int}(hk:JF k):JF (EV 15 bE bE 0 [k] p):=(IX _).2 ⟨.inr (.inr (.inr (.inr (.inl ⟨rfl,rfl,rfl,rfl,rfl,rfl,rfl,rfl,rfl,rfl⟩)))),cZ hk⟩
def aip{n p:Int}(h:1<=n/\n<=1000000):JF (EV 13 bE bE n [] p):=(IX _).2 ⟨.inr (.inr (.inl ⟨rfl,h,rfl,rfl,rfl,rfl,rfl,rfl,rfl,rfl,rfl⟩)),λk hk=>(by cases hk)⟩
def afy:PLP []:=⟨λx h=>(by cases h),λi p h=>(by cases h)⟩
def aec{nm:ByteArray}{a:Nd}{l:List Nd}{p:Int}(hn:nm=Kn\/nm=FF)(ha:JF a)(hl:l≠[]/\∀n∈l,JF n):JF (EV 17 nm bE 0 (a::l) p):=by
 refine(IX _).2 ⟨.inr (.inr (.inr (.inr (.inr (.inr (.inl ⟨rfl,hn,⟨rfl,rfl,rfl,rfl,rfl,rfl,rfl,rfl⟩,?_⟩)))))),λk hk=>?_⟩;have:=List.length_pos_iff.2 hl.1;show 2<=(a::l).length;rw[List.length_cons];omega;rcases List.mem_cons.1 hk with rfl | hk
 exact ha;exact hl.2 k hk
structure VaE(g:Ek->Rd Nd)(li:Rd (List Nd)):Prop where
 vg:∀e,e≠.ca->(∀t,e≠.wd t)->Va JF (g e)
 vw:∀⦃t:Tk⦄ ⦃l s:List Tk⦄ ⦃a:Nd⦄,Gx (t::l)->g (.wd t) (t::l)=some (.inl a,s)->JF a/\Gx s
 vc:∀⦃t:Tk⦄ ⦃l s:List Tk⦄ ⦃a:Nd⦄,Gx (t::l)->(t.text=Kn\/t.text=FF)->g .ca (t::l)=some (.inl a,s)->JF a/\Gx s
 vli:Va (λr:List Nd=>r≠[]/\∀n∈r,JF n) li
def aei{u:ByteArray}(h:uL u):u≠GO:=by
 rintro rfl;have:=h.1;revert this;decide
def akD:∀q:Nat,VaE (gP en q).1 (gP en q).2:=by
 intro q
 induction q with
 | zero =>
   constructor;intro e _ _ _ _ _ _ h;cases h;intro _ _ _ _ _ h;cases h;intro _ _ _ _ _ _ h;cases h;intro _ _ _ _ h;cases h
 | succ q A =>
   have lv:∀i,Va JF (Ny en (gP en q).1 i):=λi=>BI (A.vg _ (by simp) (by simp)) λN hN _ _ _ hg h=>ac6 (rW i) (A.vg _ (by simp) (by simp)) _ N hN hg h;refine⟨λe hc hw=>?_,λt l s a hg h=>?_,λt l s a hg ht h=>?_,tC (A.vg .ex (by simp) (by simp))⟩
   . show Va JF (OD en (gP en q).1 (gP en q).2 e)
     unfold OD;split;exact A.vg _ (by simp) (by simp)
     . intro l a s hg h
       unfold Ye at h;cases hx:I6 Ur l with
       | true =>
         rw[hx] at h;exact BI (P2:=JF) GA (λt _=>BI (A.vg _ (by simp) (by simp)) λk hk=>DP (ajO hk)) hg h
       | false=>rw[hx] at h;exact A.vg _ (by simp) (by simp) hg h
     exact BI (A.vg _ (by simp) (by simp)) λN hN=>ah6 (DP hN) _ λx hx=>kN (A.vg _ (by simp) (by simp)) (rW 3 x hx) hN;exact A.vg _ (by simp) (by simp);exact lv _
     . intro l a s hg h
       cases l with
       | nil=>cases h
       | cons t l =>
         have ht:=hg t (List.mem_cons_self ..);unfold Xm Uw at h;dsimp only at h;cases hk3:DZ t.kind 3 with
         | true =>
           rw[hk3] at h;exact BI (P2:=JF) aR (λn hn=>VF (DP (X7 (.inr (.inr (.inl rfl))) hn λe=>absurd e (by decide))) (DP (X7 (.inr (.inl rfl)) hn λe=>absurd e (by decide)))) hg h
         | false =>
           rw[hk3] at h;dsimp only[cond] at h;cases hk:DZ t.kind 2 with
           | true =>
             rw[hk] at h;refine PQ (P:=JF) (BI LU λa ha=>N2 λz hz=>DP ?_) hg h;obtain⟨z',h1,h2⟩:=ha.1.1.pU (.inr (Fw (Qe ha.2).symm));rw[h1] at hz;cases hz;have hc:=ht.2.mK (Fw hk);exact X7 (.inr (.inr (.inr hc))) h2 λe=>absurd e (aei hc)
           | false =>
             rw[hk] at h;obtain⟨b,hb,h⟩:=I0 h;cases b with
             | true=>exact PQ (P:=JF) (DP (aj7 (WO ht hb))) hg h
             | false=>exact A.vw hg h
     rename_i t;exact absurd rfl (hw t);exact absurd rfl hc;refine BI GA λt _=>BI GA λ_ _=>BI (A.vg _ (by simp) (by simp)) λa ha=>BI GA λ_ _=>BI (λ_ _ _ hg h=>wX _ [] 1 (by decide) afy hg h) λl hl=>BI GA λe _=>VE (BI (wY _ _) λr hr=>DP ?_);obtain⟨out,e,h3,h4⟩:=hr;rw[List.nil_append] at e;subst e;exact(IX _).2 ⟨.inr (.inr (.inr (.inr (.inr (.inr (.inr ⟨rfl,⟨rfl,rfl,rfl,rfl,rfl,rfl,rfl,rfl⟩,aks hl.1 hl.2.1 hl.2.2 h3 h4,rfl⟩)))))),cZ ha⟩
   . have h:QW en (gP en q).1 t (t::l)=some (.inl a,s):=h
     have dt:bY t.text->Va JF (Ue t):=λh=>PQ (DP ((IX _).2 ⟨.inr (.inr (.inr (.inl ⟨rfl,h,rfl,rfl,rfl,rfl,rfl,rfl,rfl,rfl,rfl⟩))),λk hk=>by cases hk⟩))
     have key:(t.text=Kn\/t.text=FF)/\(gP en q).1 .ca (t::l)=some (.inl a,s)\/(JF a/\Gx s):=by
       unfold QW at h;revert h;cases BZ t.text.data.toList YH.data.toList;rotate_left;exact λh=>.inr (PQ (P:=JF) (DP (X7 (.inl rfl) (by decide) λ_=>by decide)) hg h);cases BZ t.text.data.toList Ta.data.toList;rotate_left;exact λh=>.inr (PQ (P:=JF) (DP (X7 (.inl rfl) (by decide) λ_=>by decide)) hg h);cases BZ t.text.data.toList bM.data.toList;rotate_left;exact λh=>.inr (PQ (P:=JF) (BI (PR _) λp hp=>DP (aip hp)) hg h);cases h1:BZ t.text.data.toList Ld.data.toList;rotate_left;exact λh=>.inr (dt (.inl (Oj h1)) hg h);cases h1:BZ t.text.data.toList bW.data.toList;rotate_left;exact λh=>.inr (dt (.inr (.inl (Oj h1))) hg h);cases h1:BZ t.text.data.toList Qh.data.toList;rotate_left;exact λh=>.inr (dt (.inr (.inr (.inl (Oj h1)))) hg h);cases h1:BZ t.text.data.toList UZ.data.toList;rotate_left;exact λh=>.inr (dt (.inr (.inr (.inr (Oj h1)))) hg h);cases h1:BZ t.text.data.toList Kn.data.toList;rotate_left;exact λh=>.inl ⟨.inl (Oj h1),h⟩;cases h1:BZ t.text.data.toList FF.data.toList;rotate_left;exact λh=>.inl ⟨.inr (Oj h1),h⟩;cases BZ t.text.data.toList Qz.data.toList;rotate_left;exact λh=>.inr (A.vg _ (by simp) (by simp) hg h);cases BZ t.text.data.toList dH.data.toList;rotate_left;exact λh=>.inr (PQ (P:=JF) (BI (A.vg _ (by simp) (by simp)) λa ha=>BI GA λ_ _=>DP ha) hg h);exact λh=>.inr (IS (P:=JF) hg h)
     rcases key with ⟨h1,h2⟩ | h1
     exact A.vc hg h1 h2;exact h1
   have h:Xr en (gP en q).1 (gP en q).2 (t::l)=some (.inl a,s):=h;unfold Xr Uw at h;dsimp only at h;exact PQ (P:=JF) (BI GA λ_ _=>BI (A.vg _ (by simp) (by simp)) λa ha=>BI GA λ_ _=>BI A.vli λl hl=>VE (BI GA λ_ _=>DP (aec ht ha hl))) hg h
def ah5:Va JF (Pb en):=λ_ _ _ hg h=>(akD _).vg .ex (by simp) (by simp) hg h
def wW{kind:Int}:Va (λn=>Kb n/\n.kind=kind) (JE en (Pb en) kind):=by
 refine kM λt _=>PQ (DH (λhk=>BI (tC SY) λl hl=>BI GA λ_ _=>DP ⟨⟨⟨rfl,rfl,rfl,rfl,rfl,rfl,rfl,rfl⟩,λ_=>⟨?_,hl.2⟩,λh=>absurd (Fw hk) h⟩,rfl⟩) λhk=>BI ah5 λe he=>BI GA λ_ _=>DP ⟨⟨⟨rfl,rfl,rfl,rfl,rfl,rfl,rfl,rfl⟩,λh=>absurd h (ZD hk),λ_=>⟨rfl,cZ he⟩⟩,rfl⟩);exact List.length_pos_iff.2 hl.1
def gA(k:Int)(l m:List Nd):GR k (l++m)=GR k l+GR k m:=by
 induction l with
 | nil=>simp[GR]
 | cons a l ih=>simp only[List.cons_append,GR,ih];omega
def ac7{t1 t4:Tk}{n2:Int}(h4:QR t4.text)(hn:1<=n2/\n2<=1000000){h:Nd}(hh:QN h):∀(q:Nat) (cs:List Nd) (un am:Bool),kinds cs->(∀k∈cs,Kb k)->GR 8 cs=(if am then 1 else 0)->GR 7 cs=(if un then 1 else 0) ->
   Va Ik (IN en (Pb en) (λl=>EV 4 t4.text bE n2 l t1.AF) q (h::cs) un am):=by
 intro q
 induction q with
 | zero=>intro cs un am _ _ _ _ _ _ _ _ h;cases h
 | succ q ih =>
   intro cs un am k1 k2 k3 k4
   have go:∀(kind:Int) (fG eU:Bool),(6<=kind/\kind<=8)->(if am then 1 else 0)+(if kind=8 then 1 else 0)=(if eU then 1 else 0)->(if un then 1 else 0)+(if kind=7 then 1 else 0)=(if fG then 1 else 0) ->
       Va Ik (Ct (JE en (Pb en) kind) λc=>Od ((h::cs).length+1) (IN en (Pb en) (λl=>EV 4 t4.text bE n2 l t1.AF) q (h::cs++[c]) fG eU)):=by
     intro kind fG eU hk h8 h7;refine BI wW λc hc=>VE (ih (cs++[c]) fG eU ?_ ?_ ?_ ?_);intro y hy;rcases List.mem_append.1 hy with hy | hy
     exact k1 y hy;rw[List.mem_singleton.1 hy,hc.2];exact hk;intro y hy;rcases List.mem_append.1 hy with hy | hy
     exact k2 y hy;rw[List.mem_singleton.1 hy];exact hc.1;rw[gA,k3];simp only[GR,hc.2];omega;rw[gA,k4];simp only[GR,hc.2];omega
   refine kM λt _=>DH (λ_=>go 6 un am (by decide) (by simp) (by simp)) λ_=>DH (λ_=>DH (λ_=>IS) λhu=>go 7 true am (by decide) (by simp) (by simp[hu])) λ_ =>
     DH (λ_=>DH (λ_=>IS) λha=>go 8 un true (by decide) (by simp[ha]) (by simp)) λ_=>DH (λ_=>DH (λha=>PQ (DP (.inr (.inr ⟨rfl,hn,h4,⟨rfl,rfl,rfl,rfl,rfl,rfl,rfl,rfl⟩,h,cs,rfl,k1,by rw[k3,ha];rfl,?_,hh,k2⟩)))) λ_=>IS) λ_=>IS
   rw[k4];split<;>omega
def agG:Va Ik (RC en (Pb en)):=by
 refine kM λt _=>DH (λ_=>tB) λ_=>DH (λ_=>tB) λ_=>DH (λ_=>?_) λ_=>IS
 exact BI GA λt _=>BI (PR _) λn hn=>BI GA λ_ _=>BI LU λm hm=>BI agF λh hh=>BI GA λ_ _ _ _ _ hg e =>
   ac7 (WO hm.1 hm.2) hn hh _ [] false false (λk hk=>by cases hk) (λk hk=>by cases hk) rfl rfl hg e
end
end Mo
end Go.Proofs.YtpbkhogolfegfaaGreatDoor
namespace Go.Proofs.YtpbkhogolfegfaaGreatDoor
open AI Go
namespace Mo
set_option maxRecDepth 100000
set_option maxHeartbeats 4000000
section
variable (n:Nd)
def M6:(G8 n).kind=n.kind:=by rw[JA]
def UD:(G8 n).name=n.name:=by rw[JA]
def UE:(G8 n).unit=n.unit:=by rw[JA]
def oW:(G8 n).n=n.n:=by rw[JA]
def acv:(G8 n).fr=n.fr:=by rw[JA]
def acw:(G8 n).to=n.to:=by rw[JA]
def Yy:(G8 n).known=n.known:=by rw[JA]
def eA:(G8 n).CN=n.CN:=by rw[JA]
def Kh:(G8 n).kids=n.kids.map G8:=by rw[JA]
def akn:(G8 n).AF=0:=by rw[JA]
end
def acP:∀{l:List Nd},(∀k∈l,DQ (G8 k)=DQ k/\Oi (G8 k)=Oi k)->GL (l.map G8)=GL l/\eW (l.map G8)=eW l
 | [],_=>⟨rfl,rfl⟩
 | a::l,h=>by
   obtain⟨h1,h2⟩:=h a (by simp);obtain⟨h3,h4⟩:=acP (l:=l) λk hk=>h k (by simp[hk]);simp only[List.map_cons,GL,eW,h1,h2,h3,h4,and_self]
def ajN{p:Nd->Prop}(h:∀n,(∀k∈n.kids,p k)->p n):∀(m:Nat) (n:Nd),DQ n<=m->p n:=by
 intro m
 induction m with
 | zero=>intro n h;have:=EB n;omega
 | succ m ih =>
   intro n hn;have Oo:=EB n;exact h n λk hk=>ih k (by have:=Lb hk;omega)
def Tn{p:Nd->Prop}(h:∀n,(∀k∈n.kids,p k)->p n)(n:Nd):p n:=ajN h (DQ n) n (Nat.le_refl _)
def sV(n:Nd):DQ (G8 n)=DQ n/\Oi (G8 n)=Oi n:=by
 refine Tn (p:=λn=>DQ (G8 n)=DQ n/\Oi (G8 n)=Oi n) (λn ih=>?_) n;obtain⟨h1,h2⟩:=acP (l:=n.kids) ih;rw[EB (G8 n),Np (G8 n),Np n,EB n,Kh,h1,h2];exact⟨rfl,rfl⟩
def ahL{n:Nd}:KH n->KH (G8 n):=by
 refine Tn (p:=λn=>KH n->KH (G8 n)) (λn ih Uj=>?_) n;obtain⟨p1,p2,p3⟩:=(Pz n).1 Uj;rw[JA];refine(Pz _).2 ⟨p1,by simpa using p2,λy hy=>?_⟩
 obtain⟨k,hk,rfl⟩:=List.mem_map.1 hy;exact ih k hk (p3 k hk)
def akU{n:Nd}{i:Nat}{q:Nd->Prop}(hq:∀k,q (G8 k)↔q k):(∀k,(G8 n).kids[i]?=some k->q k)↔∀k,n.kids[i]?=some k->q k:=by
 rw[Kh];constructor;intro h k hk;exact(hq k).1 (h _ (by rw[List.getElem?_map,hk];rfl));intro h k hk;rw[List.getElem?_map] at hk;obtain⟨y,hy,rfl⟩:=Option.map_eq_some_iff.1 hk;exact(hq y).2 (h y hy)
def S3{l:List Nd}{q:Nd->Prop}(hq:∀k∈l,q (G8 k)↔q k):(∀k∈l.map G8,q k)↔∀k∈l,q k:=by
 constructor;intro h k hk;exact(hq k hk).1 (h _ (List.mem_map_of_mem hk));intro h k hk;obtain⟨y,hy,rfl⟩:=List.mem_map.1 hk;exact(hq y hy).2 (h y hy)
def abK(k:Nd):Qj (G8 k)↔Qj k:=by unfold Qj;rw[M6,UE,oW]
def RY(n f:Nd):Gc (G8 n) f↔Gc n f:=by unfold Gc;rw[UD,UE,oW,acv,acw,Yy,eA]
def aiE(n:Nd):Sj (G8 n)↔Sj n:=by
 unfold Sj;rw[akU abK];simp only[RY,M6,UE,oW,UD,eA,Kh,List.length_map]
def mT(n:Nd):JF (G8 n)↔JF n:=by
 refine Tn (p:=λn=>JF (G8 n)↔JF n) (λn ih=>?_) n;rw[IX,IX,aiE,Kh,S3 ih]
def Ud(k:Int):∀l:List Nd,GR k (l.map G8)=GR k l
 | []=>rfl
 | a::l=>by rw[List.map_cons,GR,GR,M6,Ud k l]
def ZB(x:Nd):Kb (G8 x)↔Kb x:=by
 unfold Kb;rw[RY,M6,Kh,List.length_map,S3 (λk _=>and_congr (mT k) (abK k)),S3 (λk _=>mT k)]
def qM(x:Nd):QN (G8 x)↔QN x:=by
 unfold QN;simp only[RY,M6,oW,acv,acw,Yy,Kh,List.length_map]
def aiq(n:Nd):tU (G8 n)↔tU n:=by
 unfold tU;rw[RY,UD,oW,Kh];refine and_congr_right λ_=>and_congr_right λ_=>and_congr_right λ_=>?_;cases n.kids with
 | nil=>exact⟨λ⟨h,cs,e,_⟩=>(nomatch e),λ⟨h,cs,e,_⟩=>(nomatch e)⟩
 | cons a l =>
   have hk:kinds (l.map G8)↔kinds l:=by unfold kinds;exact S3 λk _=>by rw[M6]
   constructor;rintro⟨h,cs,e,h1,h2,h3,h4,h5⟩;rw[List.map_cons] at e;cases e;exact⟨a,l,rfl,hk.1 h1,by rwa[Ud] at h2,by rwa[Ud] at h3,(qM a).1 h4,(S3 λk _=>ZB k).1 h5⟩;rintro⟨h,cs,e,h1,h2,h3,h4,h5⟩;cases e;exact⟨G8 a,l.map G8,rfl,hk.2 h1,by rwa[Ud],by rwa[Ud],(qM a).2 h4,(S3 λk _=>ZB k).2 h5⟩
def aeX(n:Nd):Ik (G8 n)↔Ik n:=by
 unfold Ik;rw[aiq];simp only[RY,M6,oW,UD,UE,Kh,List.length_map]
def abO(n:Nd):okV (G8 n)↔okV n:=by
 unfold okV;rw[RY,M6,mT,(sV n).1,(sV n).2,Kh,S3 λk _=>aeX k]
def yW:∀{l:List Nd},(∀k∈l,cN k=DQ k)->cL l=GL l
 | [],_=>by rw[cL,GL]
 | a::l,h=>by rw[cL,GL,h a (by simp),yW λk hk=>h k (by simp[hk])]
def ait(n:Nd):cN n=DQ n:=by
 refine Tn (p:=λn=>cN n=DQ n) (λn ih=>?_) n;rw[yX,EB,yW ih]
end Mo
end Go.Proofs.YtpbkhogolfegfaaGreatDoor
namespace Go.Proofs.YtpbkhogolfegfaaGreatDoor
open AI Go
namespace Mo
set_option maxRecDepth 100000
set_option maxHeartbeats 4000000
def WM{α:Type}{l:List α}{body:Nat->α->Unit->Option (Lp Unit Unit Bool)}{x:Option Bool}(hl:l.length<=9223372036854775807)(hb:∀i y,l[i]?=some y->body i y ()=some (.nx ())):(SR l.length (Dl body (λ_=>()) (l.drop 0) 0 ())).bind (PZ (λ(_:Unit)=>x) (λv=>some v))=x:=by
 have key:∀(m:List α) (i:Nat),(∀j y,m[j]?=some y->body (i+j) y ()=some (.nx ()))->Dl body (λ_=>()) m i ()=some (.inl ()):=by
   intro m
   induction m with
   | nil=>intro i _;rfl
   | cons y m ih =>
     intro i h;rw[Dl,show body i y ()=some (.nx ()) from h 0 y rfl,Option.bind_some];exact ih (i+1) λj z hz=>by rw[Nat.add_assoc,Nat.add_comm 1 j];exact h (j+1) z hz
 rw[show SR l.length=λy:Option (Unit⊕Bool)=>y from funext λy=>if_pos hl,List.drop_zero,key l 0 (λj y hy=>by rw[Nat.zero_add];exact hb j y hy)];rfl
def j6(x:Pc):O7 x x=true:=by unfold O7;simp
def oR(f:Fn)(h:f.ps.length<=9223372036854775807):H9 f f=some true:=by
 rw[H9,Ol rfl,Ol rfl];refine WM h (λi y hy=>?_);rw[I5,hy,Option.bind_some,j6,cond_true]
def gL(x:ByteArray):BZ x.data.toList x.data.toList=true:=by rw[U8];simp
def akc:∀(q:Nat) (e:Nd),DQ e<=q->DQ e<=1000000->V3 e->G7 q e e=some true:=by
 intro q
 induction q with
 | zero=>intro e h;have:=EB e;omega
 | succ q ih =>
   intro e hq hz ho;have he:=EB e;have hl:=OE e.kids;obtain⟨h1,h2⟩:=(MZ e).1 ho;rw[G7,M4,Ol rfl,gL,gL,Ol rfl,Ol rfl,Ol rfl,Ol rfl,Ol rfl,oR _ (by omega),Option.bind_some,Ol rfl];dsimp only[cond];refine WM (by omega) (λi y hy=>?_);have hm:=List.mem_of_getElem? hy;have:=Lb hm;rw[LM,hy,Option.bind_some,ih y (by omega) (by omega) (h2 y hm),Option.bind_some,cond_true]
def dX{e:Nd}(hz:DQ e<=1000000)(ho:V3 e):Iw e e=some true:=S9 (DQ e) λq hq=>akc q e hq hz ho
def ab9:∀(q:Nat) (n:Nd),DQ n<=q->DQ n<=100000->Fv q n=some (G8 n):=by
 intro q
 induction q with
 | zero=>intro n h;have:=EB n;omega
 | succ q ih =>
   intro n hq hz;have Oo:=EB n;have hl:=OE n.kids
   have key:∀(m:List Nd) (i:Nat) (acc:List Nd),(∀k∈m,k∈n.kids)->acc.length+m.length<=100000->Dl (ρ:=Nd) (λi y x=>Jv (Fv q) i y x) (λx=>x) m i acc=some (.inl (acc++m.map G8)):=by
     intro m
     induction m with
     | nil=>intro i acc _ _;simp[Dl]
     | cons y m ihm =>
       intro i acc hm hc;simp only[List.length_cons] at hc;have hy:=Lb (hm y (List.mem_cons_self ..));rw[Dl,Jv,ih y (by omega) (by omega),Option.bind_some,GV (by omega),Option.bind_some];have:=ihm (i+1) (acc++[G8 y]) (λk hk=>hm k (List.mem_cons_of_mem _ hk)) (by simp only[List.length_append,List.length_singleton];omega);dsimp only[Ry];rw[this,List.append_assoc];rfl
   rw[Fv,LO,show SR n.kids.length=λy:Option (List Nd⊕Nd)=>y from funext λy=>if_pos (by omega),List.drop_zero,key n.kids 0 [] (λ_ h=>h) (by simp only[List.length_nil];omega),JA];rfl
def j3{n:Nd}(hz:DQ n<=100000):J6 n=some (G8 n):=S9 (DQ n) λq hq=>ab9 q n hq hz
def jK{n:Nd}(hs:DQ n<=10000)(hp:V3 n):HU n=some (G8 n):=by
 unfold HU;rw[if_pos ⟨by rw[cL,cL,ait];omega,hp⟩]
def akJ:∀(q:Nat) (n:Nd),DQ n<=q->DQ n<=100000->GU q (G8 n)=some true:=by
 intro q
 induction q with
 | zero=>intro n h;have:=EB n;omega
 | succ q ih =>
   intro n hq hz;have Oo:=EB n;have hl:=OE n.kids;rw[GU,MP,Kh,akn,Ol rfl];dsimp only[cond];refine WM (by rw[List.length_map];omega) (λi y hy=>?_);obtain⟨k,hk,rfl⟩:=List.mem_map.1 (List.mem_of_getElem? hy);have:=Lb hk;rw[LI,ih k (by omega) (by omega),Option.bind_some,cond_true]
def aha{n:Nd}(hz:DQ n<=100000):Qg (G8 n)=some true:=S9 (DQ n) λq hq=>akJ q n hq hz
def amm(n:Nd):G8 (G8 n)=G8 n:=by
 refine Tn (p:=λn=>G8 (G8 n)=G8 n) (λn ih=>?_) n;rw[JA (G8 n),M6,UD,UE,oW,acv,acw,Yy,eA,Kh,JA n,List.map_map];congr 1;exact List.map_congr_left λk hk=>ih k hk
end Mo
end Go.Proofs.YtpbkhogolfegfaaGreatDoor
namespace Go.Proofs.YtpbkhogolfegfaaGreatDoor
open AI Go
namespace Mo
set_option maxRecDepth 100000
set_option maxHeartbeats 4000000
def akr{f:Fn}(h:kF f):∀(i:Nat) p,f.ps[i]?=some p->0<=p.fr:=by
 intro i
 induction i with
 | zero=>intro p hp;rw[h.2.2.1 p hp];omega
 | succ i ih =>
   intro p hp;have hi:i < f.ps.length:=by have:=(List.getElem?_eq_some_iff.1 hp).1;omega
   have h1:=(h.2.2.2 (i+1) p hp).2.1 f.ps[i] (by omega) (List.getElem?_eq_getElem hi);have:=ih _ (List.getElem?_eq_getElem hi);omega
def acQ{f:Fn}(h:kF f):oC f/\f.ps.length<=64:=by
 refine⟨⟨by have:=h.2.1;omega,λy hy=>?_⟩,h.2.1.2⟩;obtain⟨i,hi⟩:=List.getElem?_of_mem hy;have h0:=akr h i y hi;obtain⟨a1,_,_,a4,a5,a6,a7⟩:=h.2.2.2 i y hi;have hr:=h.1;unfold O6 at hr;rw[Iz (by omega)] at a4;rw[Iz (by omega)] at a5;exact⟨⟨by omega,by omega⟩,⟨by omega,by omega⟩,by omega,by omega⟩
def KZ{f:Fn}(h:f.ps=[]):oC f/\f.ps.length<=64:=by
 unfold oC;rw[h];exact⟨⟨by simp,λy hy=>(by cases hy)⟩,by simp⟩
def aen{n:Nd}(h:Sj n):oC n.CN/\n.CN.ps.length<=64:=by
 unfold Sj at h;rcases h with h | h | h | h | h | h | h | h
 exact KZ h.2.2.2.2.2.2.2.2.2.2.2.2.2;exact KZ h.2.2.2.2.2.2.2.2.2.2;exact KZ h.2.2.2.2.2.2.2.2.2.2;exact KZ h.2.2.2.2.2.2.2.2.2.2;exact KZ h.2.2.2.2.2.2.2.2.2;exact KZ h.2.1.2.2.2.2.2.2.2;exact KZ h.2.2.1.2.2.2.2.2.2.2;exact acQ h.2.2.1
def p6(n:Nd):JF n->DQ n<=1000000->KH n/\V3 n:=by
 refine Tn (p:=λn=>JF n->DQ n<=1000000->KH n/\V3 n) (λn ih h hz=>?_) n;obtain⟨h1,h2⟩:=(IX n).1 h;obtain⟨t1,t2⟩:=aen h1;have hs:=EB n;have hl:=OE n.kids;exact⟨(Pz n).2 ⟨t1,by omega,λk hk=>(ih k hk (h2 k hk) (by have:=R8 hk;omega)).1⟩,(MZ n).2 ⟨by omega,λk hk=>(ih k hk (h2 k hk) (by have:=R8 hk;omega)).2⟩⟩
def R5{n:Nd}(ht:n.CN.ps=[])(hk:n.kids.length=0):KH n/\V3 n:=by
 have:=List.eq_nil_of_length_eq_zero hk;obtain⟨t1,t2⟩:=KZ ht;exact⟨(Pz n).2 ⟨t1,by omega,by rw[this];exact λk hk=>(by cases hk)⟩,(MZ n).2 ⟨by omega,by rw[this];exact λk hk=>(by cases hk)⟩⟩
def Vn{n:Nd}(ht:n.CN.ps=[])(hz:DQ n<=1000000)(hk:∀k∈n.kids,KH k/\V3 k):KH n/\V3 n:=by
 obtain⟨t1,t2⟩:=KZ ht;have hs:=EB n;have hl:=OE n.kids;exact⟨(Pz n).2 ⟨t1,by omega,λk h=>(hk k h).1⟩,(MZ n).2 ⟨by omega,λk h=>(hk k h).2⟩⟩
def fY{n:Nd}(h:Kb n)(hz:DQ n<=1000000):KH n/\V3 n:=by
 refine Vn h.1.2.2.2.2.2.2.2 hz λk hk=>p6 k ?_ (by have:=R8 hk;omega);by_cases h7:n.kind=7;exact((h.2.1 h7).2 k hk).1;exact(h.2.2 h7).2 k hk
def vG{n:Nd}(h:Ik n)(hz:DQ n<=1000000):KH n/\V3 n:=by
 rcases h with h | h | h
 exact R5 h.2.2.2.2.2.2.2.2.2.2.2 h.2.2.2.1;exact R5 h.2.2.2.2.2.2.2.2.2.2.2.2.2 h.2.2.2.2.2.1;obtain⟨_,_,hb,hd,cs,hk,_,_,_,hh,hc⟩:=h.2;refine Vn hb.2.2.2.2.2.2.2 hz λk hm=>?_;have:=R8 hm;rw[hk] at hm;rcases List.mem_cons.1 hm with rfl | hm
 exact R5 hh.2.2.2.2.2.2.2.2.2.2.2.2.2 hh.2.2.1;exact fY (hc k hm) (by omega)
def Z9{ks:List Nd}(h:∀k∈ks,Ik k)(hz:GL ks<=10000):KH (Jy ks)/\V3 (Jy ks):=by
 refine Vn rfl (by have:=EB (Jy ks);rw[show DQ (Jy ks)=1+GL ks from rfl];omega) λk hk=>vG (h k hk) (by have:=Lb (show k∈ks from hk);omega)
def Yo{ks:List Nd}(h:∀k∈ks,Ik k)(hz:DQ (Jy ks)<=2000)(hd:Oi (Jy ks)<=40):okV (Jy ks):=⟨.inl ⟨rfl,⟨rfl,rfl,rfl,rfl,rfl,rfl,rfl,rfl⟩,h⟩,hz,hd⟩
def qI{l:List Tk}(h:Gx l)(k:Nat):Gx (l.drop k):=λt ht=>h t (List.mem_of_mem_drop ht)
def akw{en:Int}:∀(q:Nat) (l:List Tk) (ks:List Nd) (ds:List Dg) (r:List Nd×List Dg),Gx l->l.length<=10000->(∀k∈ks,Ik k)->Q8 en q l ks ds=some r->∀k∈r.1,Ik k:=by
 intro q
 induction q with
 | zero=>intro l ks ds r _ _ _ h;cases h
 | succ q ih =>
   intro l ks ds r hg hl hk h;cases l with
   | nil=>cases h;exact hk
   | cons t l =>
     unfold Q8 at h;cases hd:EQ ((ds.length:Nat):Int) 20 with
     | false=>rw[hd] at h;cases h;exact hk
     | true =>
       rw[hd] at h;dsimp only[cond] at h;split at h;cases h;rename_i n s hi;obtain⟨hn,hs⟩:=agG hg hi;obtain⟨⟨j,rfl⟩,_⟩:=Nf (λt ht=>(hg t ht).1) hl hi;refine ih _ _ _ _ hs (by rw[List.length_drop];omega) (λk hm=>?_) h;rcases List.mem_append.1 hm with hm | hm
       exact hk k hm;rw[List.mem_singleton.1 hm];exact hn;rename_i d s hi;obtain⟨⟨k,rfl⟩,_⟩:=Nf (λt ht=>(hg t ht).1) hl hi;obtain⟨j,hj⟩:=PM ((t::l).drop k);rw[hj] at h;exact ih _ _ _ _ (qI (qI hg k) j) (by simp only[List.length_drop];omega) hk h
def jG{s:ByteArray}{n:Nd}{ds:List Dg}(h:CZ s=some (n,ds)) :
   (ds≠[]/\n=z0/\ds.length<=20)\/(ds=[]/\∃ks,Vk s=0/\Q8 ((s.data.toList.length:Nat):Int) ((Fo s).length+1) (Fo s) [] []=some (ks,[])/\n=Jy ks/\(∀k∈ks,Ik k)/\DQ n<=2000/\Oi n<=40):=by
 by_cases he:Vk s=0
 . obtain⟨ks,ds',h1,h2,h3,h4⟩:=dF he
   rw[h] at h2;have hv:=akw _ _ _ _ _ (sW s) (by have:=(PP s).2;omega) (λk hk=>by cases hk) h1;cases ds' with
   | nil =>
     unfold ain ae6 at h2;by_cases hc:2000 < DQ (Jy ks)\/40 < Oi (Jy ks);rw[if_pos hc] at h2;simp only[Option.some.injEq,Prod.mk.injEq] at h2;obtain⟨rfl,rfl⟩:=h2;exact .inl ⟨by simp,rfl,by simp⟩;rw[if_neg hc] at h2;simp only[Option.some.injEq,Prod.mk.injEq] at h2;obtain⟨rfl,rfl⟩:=h2;exact .inr ⟨rfl,ks,he,h1,rfl,hv,by omega,by omega⟩
   | cons d ds'=>cases h2;exact .inl ⟨by simp,rfl,h4⟩
 rw[Z4 he] at h;cases h;exact .inl ⟨by simp,rfl,by simp⟩
def vX(s:ByteArray):∃n ds,CZ s=some (n,ds):=by
 by_cases he:Vk s=0;obtain⟨ks,ds',h1,h2,_⟩:=dF he;exact⟨_,_,h2⟩;exact⟨_,_,Z4 he⟩
end Mo
end Go.Proofs.YtpbkhogolfegfaaGreatDoor
namespace Go.Proofs.YtpbkhogolfegfaaGreatDoor
open AI Go
namespace Mo
set_option maxRecDepth 100000
mutual
def V1(hi:Int):Nd->Prop
 | ⟨_,_,_,_,_,_,_,_,kids,AF⟩=>AF<=hi/\orL hi AF kids
def orL(hi lo:Int):List Nd->Prop
 | []=>True
 | k::ks=>(lo<=k.AF/\V1 hi k)/\orL hi lo ks
end
def afo{hi lo:Int}{l:List Nd}:orL hi lo l↔∀k∈l,lo<=k.AF/\V1 hi k:=by
 induction l with
 | nil=>simp[orL]
 | cons k l ih=>simp[orL,ih]
def K1{hi:Int}(n:Nd):V1 hi n↔n.AF<=hi/\∀k∈n.kids,n.AF<=k.AF/\V1 hi k:=by cases n;rw[V1,afo]
def So(hi:Int):List Tk->Prop
 | []=>True
 | t::s=>t.AF<=hi/\(∀u∈s,t.AF<=u.AF)/\So hi s
def Lo(l:List Tk)(x:Int):Prop:=∀t∈l,x<=t.AF
section
variable {α β:Type} {hi x y:Int} {P:α->List Tk->Prop} {P2:β->List Tk->Prop}
def Vo(hi x:Int)(P:α->List Tk->Prop)(m:Rd α):Prop:=∀⦃l:List Tk⦄ ⦃a:α⦄ ⦃s:List Tk⦄,So hi l->Lo l x->m l=some (.inl a,s)->P a s/\So hi s/\Lo s x
def Cb{m:Rd α}{K:α->Rd β}(h1:Vo hi x P m)(h2:∀a,(∃l,P a l)->Vo hi x P2 (K a)):Vo hi x P2 (Ct m K):=by
 intro l b s hs hl h;rcases IW h with ⟨a,s',e1,e2⟩ | ⟨d,_,h⟩
 obtain⟨p,a1,a2⟩:=h1 hs hl e1;exact h2 a ⟨_,p⟩ a1 a2 e2;cases h
def RT(key:α->Int){m:Rd α}{K:α->Rd β}(h1:Vo hi x P m)(hk:∀a l,P a l->x<=key a/\Lo l (key a))(h2:∀a,(∃l,P a l)->Vo hi (key a) P2 (K a)):Vo hi x P2 (Ct m K):=by
 intro l b s hs hl h;rcases IW h with ⟨a,s',e1,e2⟩ | ⟨d,_,h⟩
 obtain⟨p,a1,_⟩:=h1 hs hl e1;obtain⟨k1,k2⟩:=hk a _ p;obtain⟨q,b1,b2⟩:=h2 a ⟨_,p⟩ a1 k2 e2;exact⟨q,b1,λt ht=>Int.le_trans k1 (b2 t ht)⟩;cases h
def DY{a:α}(h:∀s,Lo s x->P a s):Vo hi x P (FE a):=by
 intro l b s hs hl e;obtain⟨e1,rfl⟩:=K8 e;cases e1;exact⟨h _ hl,hs,hl⟩
def IT{e p:Int}:Vo hi x P (Mf e p):=by
 intro l b s _ _ h;obtain⟨h,_⟩:=MB h;cases h
def N4{X:Option β}{K:β->Rd α}(h:∀b,X=some b->Vo hi x P (K b)):Vo hi x P (Li X K):=by
 intro l a s hs hl e;obtain⟨b,hb,e⟩:=I0 e;exact h b hb hs hl e
def tH{en:Int}{K:Tk->Rd α}(h:∀t,x<=t.AF->t.AF<=hi->Vo hi t.AF P (K t)):Vo hi x P (Uw en K):=by
 intro l a s hs hl e;cases l with
 | nil=>cases e
 | cons t l =>
   have hx:=hl t (List.mem_cons_self ..)
   obtain⟨p,b1,b2⟩:=h t hx hs.1 hs (λu hu=>by
     rcases List.mem_cons.1 hu with rfl | hu
     exact Int.le_refl _;exact hs.2.1 u hu) e
   exact⟨p,b1,λu hu=>Int.le_trans hx (b2 u hu)⟩
def QV{K:Rd α}(h:Vo hi x P K):Vo hi x P (U0 K):=by
 intro l a s hs hl e;cases l with
 | nil=>cases e
 | cons t l=>exact h hs.2.2 (λu hu=>hl u (List.mem_cons_of_mem _ hu)) e
def Cr{b:Bool}{A B:Rd α}(h1:Vo hi x P A)(h2:Vo hi x P B):Vo hi x P (cond b A B):=by cases b;exact h2;exact h1
def VH{t:ByteArray}{A B:Rd α}(h1:Vo hi x P A)(h2:Vo hi x P B):Vo hi x P (NT t A B):=by
 intro l a s hs hl e;unfold NT at e;cases hx:I6 t l with
 | true=>rw[hx] at e;exact QV h1 hs hl e
 | false=>rw[hx] at e;exact h2 hs hl e
def VG{n:Nat}{m:Rd α}(h:Vo hi x P m):Vo hi x P (Od n m):=λ_ _ _ hs hl e=>h hs hl (NA e).2
end
section
variable {hi x y en:Int}
abbrev PT(hi x:Int):Tk->List Tk->Prop:=λt s=>x<=t.AF/\t.AF<=hi/\Lo s t.AF
abbrev PA(hi x:Int):Int×Int->List Tk->Prop:=λp s=>x<=p.2/\p.2<=hi/\Lo s p.2
abbrev PN(hi x:Int):Nd->List Tk->Prop:=λn s=>V1 hi n/\x<=n.AF/\Lo s n.AF
abbrev T2{α:Type}:α->List Tk->Prop:=λ_ _=>True
def LV{f:Tk->Option Bool}:Vo hi x (PT hi x) (Lc en f):=tH λt h1 h2=>N4 λb _=>Cr (QV (DY λs hs=>⟨h1,h2,hs⟩)) IT
def GB{b:ByteArray}:Vo hi x (PT hi x) (Jl en b):=LV
def aW:Vo hi x (PA hi x) (MT en):=RT (λt=>t.AF) LV (λt l h=>⟨h.1,h.2.2⟩) λt ⟨_,h1,h2,_⟩=>N4 λn _=>DY λs hs=>⟨h1,h2,hs⟩
def PU{least:Int}:Vo hi x (PA hi x) (LB en least):=RT (λp=>p.2) aW (λp l h=>⟨h.1,h.2.2⟩) λp ⟨_,h1,h2,_⟩=>Cr IT (Cr IT (DY λs hs=>⟨h1,h2,hs⟩))
def W5{least:Int}:Vo hi x T2 (Uf en least):=Cb LV λt _=>N4 λd _=>Cr (Cr IT (DY λ_ _=>trivial)) IT
def I1{k n p:Int}{nm u:ByteArray}{ks:List Nd}(hp:p<=hi)(h:∀a∈ks,p<=a.AF/\V1 hi a):V1 hi (EV k nm u n ks p):=(K1 _).2 ⟨hp,h⟩
def Ke{p:Int}:∀a∈([]:List Nd),p<=a.AF/\V1 hi a:=λa ha=>(by cases ha)
def abg{p:Int}{k:Nd}(h:p<=k.AF/\V1 hi k):∀a∈[k],p<=a.AF/\V1 hi a:=λa ha=>by rw[List.mem_singleton.1 ha];exact h
def agL:Vo hi x (PN hi x) (ZO en) :=
 RT (λt=>t.AF) GB (λt l h=>⟨h.1,h.2.2⟩) λt ⟨_,h1,h2,_⟩=>Cb PU λn _=>Cb GB λ_ _=>Cb W5 λf _ =>
   VH (Cb W5 λu _=>Cb GB λ_ _=>Cb W5 λk _=>DY λs hs=>⟨(K1 _).2 ⟨h2,Ke⟩,h1,hs⟩) (Cb GB λ_ _=>Cb W5 λk _=>DY λs hs=>⟨(K1 _).2 ⟨h2,Ke⟩,h1,hs⟩)
def tF:Vo hi x (PN hi x) (Ug en) :=
 tH λt h1 h2=>QV (Cb LV λm _=>Cb GB λ_ _=>Cb LV λu _=>Cr (Cb LV λr _=>N4 λn _=>Cb GB λ_ _=>DY λs hs=>⟨I1 h2 Ke,h1,hs⟩) (Cb GB λ_ _=>DY λs hs=>⟨I1 h2 Ke,h1,hs⟩))
def SZ:Vo hi x (PN hi x) (Ge en):=RT (λp=>p.2) PU (λp l h=>⟨h.1,h.2.2⟩) λp ⟨_,h1,h2,_⟩=>DY λs hs=>⟨I1 h2 Ke,h1,hs⟩
abbrev PL(hi x:Int):List Nd->List Tk->Prop:=λl _=>∀a∈l,x<=a.AF/\V1 hi a
def agN{read:Rd Nd}(hr:Vo hi x (PN hi x) read):∀(q:Nat) (ns:List Nd),(∀a∈ns,x<=a.AF/\V1 hi a)->Vo hi x (PL hi x) (QQ read q ns):=by
 intro q
 induction q with
 | zero=>intro ns _ _ _ _ _ _ h;cases h
 | succ q ih =>
   intro ns h;refine VH (Cb hr λn ⟨_,h1,h2,_⟩=>VG (ih _ λa ha=>?_)) (DY λ_ _=>h);rcases List.mem_append.1 ha with ha | ha
   exact h a ha;rw[List.mem_singleton.1 ha];exact⟨h2,h1⟩
def tG{read:Rd Nd}(hr:Vo hi x (PN hi x) read):Vo hi x (PL hi x) (RD read) :=
 Cb hr λn ⟨_,h1,h2,_⟩ _ _ _ hs hl h=>agN hr _ [n] (abg ⟨h2,h1⟩) hs hl h
def YP:Vo hi x T2 (N3 en):=Cb LV λt _=>N4 λc _=>Cr (Cr (DY λ_ _=>trivial) IT) (DY λ_ _=>trivial)
def agO:Vo hi x T2 (V8 en):=Cb LV λt _=>Cr (DY λ_ _=>trivial) (DY λ_ _=>trivial)
def aY{c a b:Int}:Vo hi x T2 (OA en c a b):=Cb agO λs _=>Cb PU λm _=>Cb GB λ_ _=>Cb PU λd _=>N4 λg _=>N4 λz _=>Cr IT (DY λ_ _=>trivial)
def aX{c a:Int}:Vo hi x T2 (MY en c a):=Cb GB λ_ _=>VH (Cb YP λa _=>aY) (Cb YP λa _=>aY)
def adb{b:List Pt}{c:Int}:Vo hi x T2 (RH en b c):=Cb YP λv _=>Cr (Cr aX IT) (N4 λq _=>Cr IT (Cr IT aX))
def xA:∀(q:Nat) (l:List Pt) (c:Int),Vo hi x T2 (LL en q l c):=by
 intro q
 induction q with
 | zero=>intro l c _ _ _ _ _ h;cases h
 | succ q ih=>intro l c;exact Cb adb λp _=>VG (VH (ih _ _) (DY λ_ _=>trivial))
def xB{c p:Int}:∀(l:List Pt) (acc:List Pc),Vo hi x T2 (LR c p l acc):=by
 intro l
 induction l with
 | nil=>intro acc;exact DY λ_ _=>trivial
 | cons a l ih=>intro acc;exact N4 λz _=>Cr IT (Cr IT (VG (ih _)))
def uD{op:ByteArray}{l r b:Nd}(hl:V1 hi l)(hr:V1 hi r)(h:l.AF<=r.AF)(e:A7 op l r=some b):V1 hi b/\b.AF=l.AF:=by
 have ha:=((K1 l).1 hl).1
 have two:∀a∈[l,r],l.AF<=a.AF/\V1 hi a:=λa ha=>by
   simp only[List.mem_cons,List.not_mem_nil,or_false] at ha;rcases ha with rfl | rfl
   exact⟨Int.le_refl _,hl⟩;exact⟨h,hr⟩
 have amv:∀a∈[r,l],l.AF<=a.AF/\V1 hi a:=λa ha=>two a (by simp only[List.mem_cons,List.not_mem_nil,or_false] at ha ⊢;exact ha.symm);unfold A7 at e;revert e;cases BZ op.data.toList JZ.data.toList;cases BZ op.data.toList Hk.data.toList;intro h;cases h;exact⟨(K1 _).2 ⟨ha,two⟩,rfl⟩;cases Jw op JZ KJ 1 with
 | none=>intro h;cases h
 | some y=>intro h;cases h;exact⟨(K1 _).2 ⟨ha,amv⟩,rfl⟩
 cases Jw op JZ KJ 1 with
 | none=>intro h;cases h
 | some y=>intro h;cases h;exact⟨(K1 _).2 ⟨ha,amv⟩,rfl⟩
def ah7{α:Type}{P:α->List Tk->Prop}{yes:ByteArray->Rd α}{no:Rd α}(h1:∀t,Vo hi x P (yes t))(h2:Vo hi x P no):∀ops:List ByteArray,Vo hi x P (lV yes no ops):=by
 intro ops
 induction ops with
 | nil=>exact h2
 | cons t ops ih=>exact VH (h1 t) ih
def Vx(hi:Int)(m:Rd Nd):Prop:=∀x,Vo hi x (PN hi x) m
def kR{sub:Rd Nd}(h:Vx hi sub)(op:ByteArray){l:Nd}(hl:V1 hi l):Vo hi l.AF (λb _=>V1 hi b/\b.AF=l.AF) (Qq en sub op l) :=
 Cb (P:=PN hi l.AF) (Cr SZ (h _)) λr ⟨_,h1,h2,_⟩=>N4 λb hb=>DY λ_ _=>uD hl h1 h2 hb
def ac9{ops:List ByteArray}{sub:Rd Nd}(h:Vx hi sub):∀(q:Nat) (l:Nd),V1 hi l->x<=l.AF->Vo hi l.AF (PN hi x) (KQ en ops sub q l):=by
 intro q
 induction q with
 | zero=>intro l _ _ _ _ _ _ _ h;cases h
 | succ q ih =>
   intro l hl hx;refine ah7 (λt=>Cb (kR h t hl) λb ⟨_,h1,h2⟩=>?_) (DY λs hs=>⟨hl,hx,hs⟩) ops;rw[<- h2];exact ih b h1 (by omega)
structure VoE(hi:Int)(g:Ek->Rd Nd)(li:Rd (List Nd)):Prop where
 og:∀e,(∀t,e≠.wd t)->Vx hi (g e)
 ow:∀⦃t:Tk⦄ ⦃l s:List Tk⦄ ⦃a:Nd⦄ (x:Int),So hi (t::l)->x<=t.AF->g (.wd t) (t::l)=some (.inl a,s)->PN hi x a s/\So hi s/\Lo s x
 oli:∀x,Vo hi x (PL hi x) li
def akF:∀q:Nat,VoE hi (gP en q).1 (gP en q).2:=by
 intro q
 induction q with
 | zero =>
   constructor;intro e _ x _ _ _ _ _ h;cases h;intro _ _ _ _ x _ _ h;cases h;intro x _ _ _ _ _ h;cases h
 | succ q A =>
   have lo1:∀{t:Tk} {l:List Tk},So hi (t::l)->Lo (t::l) t.AF:=λ{t l} hs u hu=>by
     rcases List.mem_cons.1 hu with rfl | hu
     exact Int.le_refl _;exact hs.2.1 u hu
   have down:∀{x y:Int} {a:Nd} {s:List Tk},x<=y->PN hi y a s/\So hi s/\Lo s y->PN hi x a s/\So hi s/\Lo s x:=λhxy ⟨⟨a1,a2,a3⟩,a4,a5⟩=>⟨⟨a1,Int.le_trans hxy a2,a3⟩,a4,λu hu=>Int.le_trans hxy (a5 u hu)⟩;refine⟨λe hw x=>?_,λt l s a x hs hx h=>?_,λx=>tG (A.og .ex (by simp) x)⟩;rotate_left;have h:QW en (gP en q).1 t (t::l)=some (.inl a,s):=h;have ht:=hs.1;have dt:Vo hi t.AF (PN hi t.AF) (Ue t):=QV (DY λs hs=>⟨I1 ht Ke,Int.le_refl _,hs⟩);have nd:∀(k n:Int) (nm u:ByteArray),Vo hi t.AF (PN hi t.AF) (U0 (FE (EV k nm u n [] t.AF))):=λ_ _ _ _=>QV (DY λs hs=>⟨I1 ht Ke,Int.le_refl _,hs⟩);refine down hx ((show Vo hi t.AF (PN hi t.AF) (QW en (gP en q).1 t) from ?_) hs (lo1 hs) h)
   exact Cr (nd _ _ _ _) (Cr (nd _ _ _ _) (Cr (QV (Cb PU λp _=>DY λs hs=>⟨I1 ht Ke,Int.le_refl _,hs⟩)) (Cr dt (Cr dt (Cr dt (Cr dt (Cr (A.og .ca (by simp) _) (Cr (A.og .ca (by simp) _) (Cr (A.og .ta (by simp) _)
     (Cr (QV (RT (λn=>n.AF) (A.og .ex (by simp) _) (λn l h=>h.2) λn ⟨_,h1,h2,_⟩=>Cb GB λ_ _=>DY λs hs=>⟨h1,h2,hs⟩)) IT))))))))))
   show Vo hi x (PN hi x) (OD en (gP en q).1 (gP en q).2 e);have lv:∀i,Vo hi x (PN hi x) (Ny en (gP en q).1 i):=λi=>RT (λn=>n.AF) (A.og (.lv _) (by simp) x) (λn l h=>h.2) λN ⟨_,h1,h2,_⟩ _ _ _ hs hl h=>ac9 (A.og (.lv _) (by simp)) _ N h1 h2 hs hl h;unfold OD;split;exact A.og (.lv _) (by simp) x
   . intro l a s hs hl h
     unfold Ye at h;cases hx:I6 Ur l with
     | true =>
       rw[hx] at h;exact RT (P2:=PN hi x) (λt=>t.AF) GB (λt l h=>⟨h.1,h.2.2⟩) (λt ⟨_,h1,h2,_⟩=>Cb (A.og (.lv _) (by simp) _) λk ⟨_,h3,h4,_⟩=>DY λs hs=>⟨I1 h2 (abg ⟨h4,h3⟩),h1,hs⟩) hs hl h
     | false=>rw[hx] at h;exact A.og (.lv _) (by simp) x hs hl h
   refine RT (λn=>n.AF) (A.og (.lv _) (by simp) x) (λn l h=>h.2) λN ⟨_,h1,h2,_⟩=>ah7 (λt=>?_) (DY λs hs=>⟨h1,h2,hs⟩) _;intro l b s hs hl h;obtain⟨⟨a1,a2⟩,a3,a4⟩:=kR (A.og (.lv _) (by simp)) t h1 hs hl h;exact⟨⟨a1,by omega,by rw[a2];exact a4⟩,a3,a4⟩;exact A.og .at_ (by simp) x;exact lv _
   . intro l b s hs hl h
     cases l with
     | nil=>cases h
     | cons t l =>
       have h1:=hl t (List.mem_cons_self ..);have h2:=hs.1;unfold Xm Uw at h;dsimp only at h;cases hk3:DZ t.kind 3 with
       | true =>
         rw[hk3] at h;exact RT (P2:=PN hi x) (λp=>p.2) aW (λp l h=>⟨h.1,h.2.2⟩) (λn ⟨_,h3,h4,_⟩=>VH (DY λs hs=>⟨I1 h4 Ke,h3,hs⟩) (DY λs hs=>⟨I1 h4 Ke,h3,hs⟩)) hs hl h
       | false =>
         rw[hk3] at h;dsimp only[cond] at h;cases hk:DZ t.kind 2 with
         | true =>
           rw[hk] at h;dsimp only at h;have hv:Vo hi t.AF (PN hi t.AF) (U0 (Ct (Lc en DU) λa=>Li (Cp a) λc=>FE (EV 11 bE t.text c [] t.AF))):=QV (Cb LV λa _=>N4 λz _=>DY λs hs=>⟨I1 h2 Ke,Int.le_refl _,hs⟩);exact down h1 (hv hs (lo1 hs) h)
         | false =>
           rw[hk] at h;obtain⟨c,hc,h⟩:=I0 h;cases c with
           | true=>exact down h1 (QV (P:=PN hi t.AF) (DY λs hs=>⟨I1 h2 Ke,Int.le_refl _,hs⟩) hs (lo1 hs) h)
           | false=>exact A.ow x hs h1 h
   rename_i t;exact absurd rfl (hw t)
   exact tH λt h1 h2=>QV (Cb GB λ_ _=>Cb (A.og .ex (by simp) _) λa ⟨_,h3,h4,_⟩=>Cb GB λ_ _=>Cb (A.oli _) λl ⟨_,hl⟩=>VG (Cb GB λ_ _=>DY λs hs=>⟨I1 h2 (λk hk=>by
     rcases List.mem_cons.1 hk with rfl | hk
     exact⟨h4,h3⟩;exact hl k hk),h1,hs⟩))
   exact RT (λt=>t.AF) GB (λt l h=>⟨h.1,h.2.2⟩) λt ⟨_,h1,h2,_⟩=>Cb GB λ_ _=>Cb (A.og .ex (by simp) _) λa ⟨_,h3,h4,_⟩=>Cb GB λ_ _=>Cb (P:=T2) (λ_ _ _ hs hl h=>xA _ _ _ hs hl h) λl _=>Cb GB λe _=>VG (Cb (xB _ _) λr _=>DY λs hs=>⟨(K1 _).2 ⟨h2,abg ⟨h4,h3⟩⟩,h1,hs⟩)
end
end Mo
end Go.Proofs.YtpbkhogolfegfaaGreatDoor
