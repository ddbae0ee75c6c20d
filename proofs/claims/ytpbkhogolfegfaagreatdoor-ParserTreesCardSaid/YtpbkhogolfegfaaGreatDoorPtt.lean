/- Part of a proof: see the last text. -/
import Derived.Test.YtpbkhogolfegfaaGreatDoorPts
set_option linter.unusedVariables false
set_option linter.unusedSimpArgs false
set_option linter.defProp false
noncomputable section
namespace Go.Proofs.YtpbkhogolfegfaaGreatDoor
open AI Go
namespace Mo
set_option maxRecDepth 100000
def sY{x:Int}(h:-9223372036854775808<=x/\x<=9223372036854775807):IntKind.i64.wrap x=x:=by
 unfold IntKind.wrap;simp[IntKind.bits,IntKind.signed];omega
def Xa{a b:Int}(ha:0<=a)(hb:0 < b)(h:a<=9223372036854775807):RX a b=some (a / b):=by
 unfold RX wU;rw[if_neg (by omega),Int.tdiv_eq_ediv_of_nonneg ha,sY];exact⟨by have:=Int.ediv_nonneg ha (Int.le_of_lt hb);omega,by have:=Int.ediv_le_self b ha;omega⟩
structure Gd(t:Tk):Prop where
 num:t.kind=3->∃z,QX t.text=some (z,())/\0<=z/\z<=999999999999
 oU:t.kind=3\/t.kind=4->∃z,Cl t=some z/\0<=z/\z<=999999999999
 date:t.kind=5->∃d e,E6 t.text=some (d,e)/\(e=0->0<=d/\d<=36524)
 len:t.text.data.toList.length<=6000
def Gl(l:List Tk):Prop:=∀t∈l,Gd t
section
variable {α β:Type} {n:Nat} {st:Bool} {P:α->Prop} {P2:β->Prop}
def UT(n:Nat)(st:Bool)(P:α->Prop)(m:Rd α):Prop:=∀⦃l:List Tk⦄,Gl l->l.length<=n->∃r s,m l=some (r,s)/\(∃k,s=l.drop k)/\∀a,r=.inl a->P a/\(st=true->s.length < l.length)
def Gl.drop{l:List Tk}(h:Gl l)(k:Nat):Gl (l.drop k):=λt ht=>h t (List.mem_of_mem_drop ht)
def Xc{l:List Tk}{k j:Nat}:(l.drop k).drop j=l.drop (k+j):=by rw[List.drop_drop]
def Bw{m:Rd α}{K:α->Rd β}(h1:UT n true P m)(h2:∀a,P a->1<=n->UT (n - 1) false P2 (K a)):UT n st P2 (Cp m K):=by
 intro l hg hl;obtain⟨r,s,e,⟨k,rfl⟩,hr⟩:=h1 hg hl;cases r with
 | inr d=>exact⟨.inr d,_,by unfold Cp;rw[e],⟨k,rfl⟩,λa h=>by cases h⟩
 | inl a =>
   obtain⟨pa,hs⟩:=hr a rfl;have hs:=hs rfl;obtain⟨r2,s2,e2,⟨j,rfl⟩,hr2⟩:=h2 a pa (by omega) (hg.drop k) (by omega);refine⟨r2,_,by unfold Cp;rw[e];exact e2,⟨k+j,Xc⟩,λb hb=>⟨(hr2 b hb).1,λ_=>?_⟩⟩;simp only[List.length_drop] at hs ⊢;omega
def aoS{m:Rd α}{K:α->Rd β}(h1:UT n false P m)(h2:∀a,P a->UT n st P2 (K a)):UT n st P2 (Cp m K):=by
 intro l hg hl;obtain⟨r,s,e,⟨k,rfl⟩,hr⟩:=h1 hg hl;cases r with
 | inr d=>exact⟨.inr d,_,by unfold Cp;rw[e],⟨k,rfl⟩,λa h=>by cases h⟩
 | inl a =>
   obtain⟨pa,_⟩:=hr a rfl;obtain⟨r2,s2,e2,⟨j,rfl⟩,hr2⟩:=h2 a pa (hg.drop k) (by rw[List.length_drop];omega);refine⟨r2,_,by unfold Cp;rw[e];exact e2,⟨k+j,Xc⟩,λb hb=>⟨(hr2 b hb).1,λh=>?_⟩⟩;have:=(hr2 b hb).2 h;simp only[List.length_drop] at this ⊢;omega
def UT.Yt{m:Rd α}(h:UT n st P m):UT n false P m:=λl hg hl=>by
 obtain⟨r,s,e,h1,h2⟩:=h hg hl;exact⟨r,s,e,h1,λa ha=>⟨(h2 a ha).1,λh=>by cases h⟩⟩
def UT.imp{Q:α->Prop}{m:Rd α}(h:UT n st P m)(f:∀a,P a->Q a):UT n st Q m:=λl hg hl=>by
 obtain⟨r,s,e,h1,h2⟩:=h hg hl;exact⟨r,s,e,h1,λa ha=>⟨f a (h2 a ha).1,(h2 a ha).2⟩⟩
def UT.le{n':Nat}{m:Rd α}(h:UT n st P m)(hn:n'<=n):UT n' st P m:=λ_ hg hl=>h hg (by omega)
def DK{a:α}(h:P a):UT n false P (Fw a):=λl _ _=>⟨.inl a,l,rfl,⟨0,rfl⟩,λb hb=>by cases hb;exact⟨h,λh=>by cases h⟩⟩
def IG{e p:Int}:UT n st P (L2 e p):=λl _ _=>⟨_,l,rfl,⟨0,rfl⟩,λb hb=>by cases hb⟩
def NJ{X:Option β}{K:β->Rd α}(h:∃b,X=some b/\UT n st P (K b)):UT n st P (K4 X K):=by
 obtain⟨b,rfl,h⟩:=h;exact h
def Yo{en:Int}{K:Tk->Rd α}(h:∀t,Gd t->∀s,Gl (t::s)->(t::s).length<=n->∃r s',K t (t::s)=some (r,s')/\(∃k,s'=(t::s).drop k)/\∀a,r=.inl a->P a/\(st=true->s'.length < (t::s).length)):UT n st P (Ua en K):=by
 intro l hg hl;cases l with
 | nil=>exact⟨_,[],rfl,⟨0,rfl⟩,λa h=>by cases h⟩
 | cons t s=>exact h t (hg t (List.mem_cons_self ..)) s hg hl
def Rq{K:Rd α}(h:UT (n - 1) false P K){t:Tk}{s:List Tk}(hg:Gl (t::s))(hl:(t::s).length<=n) :
   ∃r s',UC K (t::s)=some (r,s')/\(∃k,s'=(t::s).drop k)/\∀a,r=.inl a->P a/\(st=true->s'.length < (t::s).length):=by
 have xE:s.length+1<=n:=hl;obtain⟨r,s2,e,⟨k,rfl⟩,hr⟩:=h (l:=s) (λt ht=>hg t (List.mem_cons_of_mem _ ht)) (by omega);refine⟨r,_,e,⟨k+1,rfl⟩,λa ha=>⟨(hr a ha).1,λ_=>?_⟩⟩;rw[List.length_drop,List.length_cons];omega
def Vf{x:ByteArray}{A B:Rd α}(h1:1<=n->UT (n - 1) false P A)(h2:UT n st P B):UT n st P (ND x A B):=by
 intro l hg hl;unfold ND;cases hx:IW x l with
 | false=>exact h2 hg hl
 | true =>
   cases l with
   | nil=>cases hx
   | cons t s=>exact Rq (h1 (by simp only[List.length_cons] at hl;omega)) hg hl
def Ve{c:Nat}{m:Rd α}(hc:c<=100000000)(h:UT n st P m):UT n st P (NX c m):=by
 intro l hg hl;unfold NX;rw[GN hc];exact h hg hl
def FN{c:Bool}{A B:Rd α}(h1:c=true->UT n st P A)(h2:c=false->UT n st P B):UT n st P (cond c A B):=by
 cases c;exact h2 rfl;exact h1 rfl
end
section
variable {n:Nat} {en:Int} {st:Bool}
def MQ{f:Tk->Option Bool}(hf:∀t,∃b,f t=some b):UT n st (λt=>Gd t/\f t=some true) (KZ en f):=by
 refine Yo λt hg s Zn hl=>?_;obtain⟨b,hb⟩:=hf t;unfold K4;rw[hb];cases b with
 | true=>exact Rq (DK ⟨hg,hb⟩) Zn hl
 | false=>exact IG Zn hl
def DT{c:Bool}{α:Type}{x y:Option α}(h1:∃z,x=some z)(h2:∃z,y=some z):∃z,cond c x y=some z:=by cases c;exact h2;exact h1
def ES(x:ByteArray):UT n st (λ_=>True) (I9 en x):=(MQ λt=>DT ⟨_,rfl⟩ ⟨_,rfl⟩).imp λ_ _=>trivial
def Vw(t:Tk):∃b,Cr t=some b:=by
 unfold Cr;rw[acJ];exact DT (DT ⟨_,rfl⟩ ⟨_,rfl⟩) ⟨_,rfl⟩
def Rm(x:ByteArray):∃b,Ef x=some b:=DT ⟨_,rfl⟩ (DT ⟨_,rfl⟩ (DT ⟨_,rfl⟩ (DT ⟨_,rfl⟩ ⟨_,rfl⟩)))
def Wz:UT n st (λt=>Gd t/\Cr t=some true) (qO en):=MQ Vw
def sK:UT n st (λt=>Gd t/\EQ t=some true) (agL en):=MQ λt=>DT ⟨_,rfl⟩ (DT ⟨_,rfl⟩ (DT ⟨_,rfl⟩ (DT ⟨_,rfl⟩ ⟨_,rfl⟩)))
def sJ:UT n st (λt=>Gd t/\BS t=some true) (rL en):=MQ λt=>by
 unfold BS;obtain⟨b,hb⟩:=Rm t.text;rw[hb];exact DT ⟨_,rfl⟩ ⟨_,rfl⟩
def PS{a b:Int}{x:Bool}(h:cond (DV a b) (some true) (some false)=some x):x=DV a b:=by
 revert h;cases DV a b<;>exact λh=>(Option.some.inj h).symm
def ZS:UT n st (λp:Int×Int=>0<=p.1/\p.1<=999999999999) (MD en):=by
 refine Bw (MQ λt=>DT ⟨_,rfl⟩ ⟨_,rfl⟩) λt ht _=>?_;obtain⟨z,h1,h2⟩:=ht.1.num (Fo (PS ht.2).symm);exact NJ ⟨_,h1,DK h2⟩
def NK(least:Int):UT n st (λp:Int×Int=>least<=p.1/\p.1<=1000000) (Lm en least) :=
 Bw ZS λp hp _=>FN (λ_=>IG) λh1=>FN (λ_=>IG) λh2=>DK ⟨Kj h1,Kj h2⟩
def Wy(least:Int):UT n st (λd:Int=>least<=d/\0<=d/\d<=36524) (TQ en least):=by
 refine Bw (MQ λt=>DT ⟨_,rfl⟩ ⟨_,rfl⟩) λt ht _=>?_;obtain⟨d,e,h1,h2⟩:=ht.1.date (Fo (PS ht.2).symm);exact NJ ⟨_,h1,FN (λh=>FN (λ_=>IG) λh3=>DK ⟨Kj h3,h2 (Fo h)⟩) λ_=>IG⟩
def sF:UT n st (λ_=>True) (Zm en) :=
 Bw (ES _) λ_ _ _=>Bw (NK _) λ_ _ _=>Bw (ES _) λ_ _ _=>Bw (Wy _) λ_ _ _ =>
   Vf (λ_=>Bw (Wy _) λ_ _ _=>Bw (ES _) λ_ _ _=>Bw (Wy _) λ_ _ _=>DK trivial) (Bw (ES _) λ_ _ _=>Bw (Wy _) λ_ _ _=>DK trivial)
def sD:UT n st (λ_=>True) (TS en):=by
 refine Yo λt hg s Zn hl=>Rq ((Bw Wz λm _ _=>Bw (ES _) λ_ _ _=>Bw sK λu _ _=>FN (λ_=>Bw sJ λr _ _=>?_) λ_=>Bw (ES _) λ_ _ _=>DK trivial)) Zn hl;obtain⟨b,hb⟩:=Rm r.text;exact NJ ⟨b,hb,Bw (ES _) λ_ _ _=>DK trivial⟩
def SA:UT n st (λ_=>True) (F7 en):=Bw (NK _) λ_ _ _=>DK trivial
def Yp:UT n st (λp:Int×Int=>0<=p.1/\p.1<=999999999999) (NM en):=by
 refine Bw (MQ λt=>DT ⟨_,rfl⟩ (DT ⟨_,rfl⟩ ⟨_,rfl⟩)) λt ht _=>?_
 have hk:t.kind=3\/t.kind=4:=by
   have h:=ht.2;unfold C6 at h;cases h4:DV t.kind 4 with
   | true=>exact .inr (Fo h4)
   | false =>
     rw[h4] at h;exact .inl (Fo (PS h).symm)
 obtain⟨z,h1,h2⟩:=ht.1.oU hk;exact NJ ⟨_,h1,FN (λ_=>FN (λ_=>DK h2) λ_=>IG) λ_=>DK h2⟩
def aoW:UT n st (λs:Int=>s=1\/s=-1) (VL en) :=
 Bw (MQ λt=>DT ⟨_,rfl⟩ (DT ⟨_,rfl⟩ ⟨_,rfl⟩)) λt _ _=>FN (λ_=>DK (.inr rfl)) λ_=>DK (.inl rfl)
def PcP(x:Pt×Int):Prop:=1<=x.2/\x.2<=1000000/\1<=x.1.den/\x.1.den<=1000000/\-1000000<=x.1.num/\x.1.num<=1000000
def ZU{Ax:Int}(hc:1<=Ax/\Ax<=1000000)(from_ a:Int):UT n st PcP (Oe en Ax from_ a):=by
 refine Bw aoW λs hs _=>Bw (NK _) λm hm _=>Bw (ES _) λ_ _ _=>Bw (NK _) λd hd _=>?_;obtain⟨g,h1,h2,⟨c1,h3⟩,⟨c2,h4⟩⟩:=aaS hc.1 (show(0:Int)<=d.1 by omega);refine NJ ⟨g,h1,NJ ⟨_,Xa (by omega) (by omega) (by omega),FN (λ_=>IG) λh5=>DK ?_⟩⟩;have hq:Ax / g=c1:=by rw[h3,Int.mul_ediv_cancel_left _ (by omega)]
 have hc1:1<=c1:=by
   by_cases h:1<=c1;exact h;have:=Int.mul_nonpos_of_nonneg_of_nonpos (show 0<=g by omega) (show c1<=0 by omega);omega
 have hc2:c1<=1000000:=by
   have:=Int.mul_le_mul_of_nonneg_right h2 (show 0<=c1 by omega);omega
 have hw:BM (Ax / g) d.1=c1*d.1:=by
   rw[hq];have a1:=Int.mul_le_mul hc2 hd.2 (by omega) (by omega);have a2:=Int.mul_nonneg (show 0<=c1 by omega) (show 0<=d.1 by omega);exact Ir (by omega)
 have h6:=Kj h5
 have a1:1<=c1*d.1:=by
   have:=Int.mul_le_mul_of_nonneg_right hc1 (show 0<=d.1 by omega);omega
 refine⟨by rw[hw];exact a1,h6,hd.1,hd.2,?_⟩;dsimp only;rcases hs with rfl | rfl
 rw[Ir (by omega)];omega;rw[Ir (by omega)];omega
def ZT{Ax:Int}(hc:1<=Ax/\Ax<=1000000)(from_:Int):UT n st PcP (MI en Ax from_) :=
 Bw (ES _) λ_ _ _=>Vf (λ_=>Bw Yp λ_ _ _=>ZU hc _ _) (Bw Yp λ_ _ _=>ZU hc _ _)
def agO(before:List Pt){Ax:Int}(hc:1<=Ax/\Ax<=1000000):UT n st (λx=>PcP x/\before.length<=63) (Ri en before Ax):=by
 refine Bw Yp λv hv _=>FN (λh=>FN (λ_=>(ZT hc _).imp λx hx=>⟨hx,?_⟩) λ_=>IG) λh=>?_;have:=Fo h;omega;have hb:before.length≠0:=λe=>Zd h (by rw[e];rfl);refine NJ ⟨before[before.length - 1]'(by omega),List.getElem?_eq_getElem (by omega),FN (λ_=>IG) λ_=>FN (λ_=>IG) λh2=>(ZT hc _).imp λx hx=>⟨hx,?_⟩⟩;have:=acN h2;omega
end
end Mo
end Go.Proofs.YtpbkhogolfegfaaGreatDoor
namespace Go.Proofs.YtpbkhogolfegfaaGreatDoor
open AI Go
namespace Mo
set_option maxRecDepth 100000
section
variable {α β:Type} {n:Nat} {en:Int} {st:Bool} {P:α->Prop}
abbrev TT{α:Type}:α->Prop:=λ_=>True
theorem jF{K:Nat->Rd α}(h:∀k,k<=n->UT k st P (K (k+1))):UT n st P (λs=>K (s.length+1) s):=λl hg hl=>h l.length hl hg (Nat.le_refl _)
theorem aoV{read:Rd Nd}:∀(q n:Nat) (ns:List Nd),n < q->ns.length+n<=100000->UT n true TT read->UT n false (λr:List Nd=>r.length<=ns.length+n) (Qs read q ns):=by
 intro q
 induction q with
 | zero=>intro n ns h;omega
 | succ q ih =>
   intro n ns hn hl hr;refine Vf (λh1=>Bw (hr.le (by omega)) λx _ h2=>Ve (by omega) ?_) (DK (by omega));refine(ih (n - 1 - 1) (ns++[x]) (by omega) (by simp only[List.length_append,List.length_singleton];omega) (hr.le (by omega))).imp λr hr=>?_;simp only[List.length_append,List.length_singleton] at hr;omega
theorem sH{read:Rd Nd}(hn:n<=10000)(hr:UT n true TT read):UT n st (λr:List Nd=>r.length<=n+1) (Re read) :=
 Bw hr λx _ h1=>jF (K:=λq=>Qs read q [x]) λk hk=>(aoV (k+1) k [x] (by omega) (by simp only[List.length_singleton];omega) (hr.le (by omega))).imp λr h=>by simp only[List.length_singleton] at h;omega
theorem amQ:∃y,Jl JO JO Kv 1=some y:=⟨_,rfl⟩
theorem amP:∃y,Jl Hc JO Kv 1=some y:=⟨_,rfl⟩
theorem eF(op:ByteArray)(l r:Nd):∃x,A7 op l r=some x:=by
 unfold A7;cases h1:BY op.data.toList JO.data.toList with
 | true =>
   obtain⟨y,hy⟩:=amQ;rw[N4 h1,hy];exact⟨_,rfl⟩
 | false =>
   cases h2:BY op.data.toList Hc.data.toList with
   | true =>
     obtain⟨y,hy⟩:=amP;rw[N4 h2,hy];exact⟨_,rfl⟩
   | false=>exact⟨_,rfl⟩
theorem asF{yes:ByteArray->Rd α}{no:Rd α}(h1:∀x,1<=n->UT (n - 1) false P (yes x))(h2:UT n st P no):∀ops:List ByteArray,UT n st P (kO yes no ops):=by
 intro ops
 induction ops with
 | nil=>exact h2
 | cons x ops ih=>exact Vf (h1 x) ih
theorem jH{sub:Rd Nd}(h:UT n true TT sub)(op:ByteArray)(l:Nd):UT n st TT (P5 en sub op l) :=
 Bw (FN (λ_=>SA) λ_=>h) λr _ _=>by
   obtain⟨x,hx⟩:=eF op l r;exact NJ ⟨x,hx,DK trivial⟩
theorem agN{ops:List ByteArray}{sub:Rd Nd}:∀(q n:Nat) (l:Nd),n < q->UT n true TT sub->UT n false TT (KB en ops sub q l):=by
 intro q
 induction q with
 | zero=>intro n l h;omega
 | succ q ih =>
   intro n l hn hs;exact asF (λx h1=>Bw (jH (hs.le (by omega)) x l) λb _ h2=>ih (n - 1 - 1) b (by omega) (hs.le (by omega))) (DK trivial) ops
def PsP(r:List Pt×Int):Prop:=r.1.length<=64/\1<=r.2/\r.2<=1000000/\∀x∈r.1,1<=x.den/\-1000000<=x.num/\x.num<=1000000
theorem wK:∀(q n:Nat) (ps:List Pt) (c:Int),n < q->1<=c->c<=1000000->(∀x∈ps,1<=x.den/\-1000000<=x.num/\x.num<=1000000)->UT n st PsP (Lx en q ps c):=by
 intro q
 induction q generalizing st with
 | zero=>intro n ps c h;omega
 | succ q ih =>
   intro n ps c hn h1 h2 h3;refine Bw (agO ps ⟨h1,h2⟩) λx hx h4=>?_;obtain⟨⟨a1,a2,a3,a4,a5,a6⟩,hb⟩:=hx
   have h5:∀y∈ps++[x.1],1<=y.den/\-1000000<=y.num/\y.num<=1000000:=by
     intro y hy;rcases List.mem_append.1 hy with hy | hy
     exact h3 y hy;rw[List.mem_singleton.1 hy];exact⟨a3,a5,a6⟩
   exact Ve (by omega) (Vf (λh6=>ih (n - 1 - 1) _ _ (by omega) a1 a2 h5) (DK ⟨by simp only[List.length_append,List.length_singleton];omega,a1,a2,h5⟩))
theorem wL{c:Int}(hc:1<=c/\c<=1000000)(p:Int):∀(ps:List Pt) (acc:List Pc),(∀x∈ps,1<=x.den)->acc.length+ps.length<=1000->UT n false TT (LC c p ps acc):=by
 intro ps
 induction ps with
 | nil=>intro acc _ _;exact DK trivial
 | cons x ps ih =>
   intro acc h1 h2;have:=h1 x (List.mem_cons_self ..);simp only[List.length_cons] at h2;exact NJ ⟨_,Xa (by omega) (by omega) (by omega),FN (λ_=>IG) λ_=>FN (λ_=>IG) λ_=>Ve (by omega) (ih _ (λy hy=>h1 y (List.mem_cons_of_mem _ hy)) (by simp only[List.length_append,List.length_singleton];omega))⟩
def UW(n:Nat)(m:Rd Nd):Prop:=∀t s,Gl (t::s)->(t::s).length<=n->∃r s',m (t::s)=some (r,s')/\(∃k,s'=(t::s).drop k)/\∀a,r=.inl a->True/\(true=true->s'.length < (t::s).length)
structure Tot(q:Nat)(g:Ek->Rd Nd)(li:Rd (List Nd)):Prop where
 ex:∀n,n<=10000->10*n+11<=q->UT n true TT (g .ex)
 lv:∀i n,i<=6->n<=10000->10*n+10 - i<=q->UT n true TT (g (.lv i))
 at_:∀n,n<=10000->10*n+3<=q->UT n true TT (g .at_)
 wd:∀t n,n<=10000->10*n+2<=q->UW n (g (.wd t))
 ca:∀n,n<=10000->10*n+1<=q->UT n true TT (g .ca)
 ta:∀n,n<=10000->10*n+1<=q->UT n true TT (g .ta)
 li:∀n,n<=10000->10*n+12<=q->UT n true (λr:List Nd=>r.length<=n+1) li
section
variable {q:Nat} {g:Ek->Rd Nd} {li:Rd (List Nd)} (A:Tot q g li)
include A
theorem Uq{i:Nat}(hi:i<=5)(hn:n<=10000)(hq:10*n+9 - i<=q):UT n true TT (Ni en g i) :=
 Bw (A.lv (i+1) n (by omega) hn (by omega)) λl _ h1=>jF (K:=λq=>KB en (opsOf i) (g (.lv (i+1))) q l) λk hk=>agN (k+1) k l (by omega) (A.lv (i+1) k (by omega) (by omega) (by omega))
theorem aoU(hn:n<=10000)(hq:10*n+6<=q):UT n true TT (eU en g) :=
 Bw (A.lv 4 n (by omega) hn (by omega)) λl _ h1=>asF (λx h2=>jH (A.lv 4 _ (by omega) (by omega) (by omega)) x l) (DK trivial) _
theorem ayE(hn:n<=10000)(hq:10*n+7<=q):UT n true TT (XP en g):=by
 intro l hg hl;unfold XP;cases hx:IW T5 l with
 | false=>exact A.lv 3 n (by omega) hn (by omega) hg hl
 | true=>exact Bw (ES _) (λt _ h1=>Bw (A.lv 2 (n - 1) (by omega) (by omega) (by omega)) λk _ _=>DK trivial) hg hl
theorem aoT(hn:n<=10000)(hq:10*n<=q):UT n true TT (W4 en g li):=by
 refine Yo λt hg s Zn hl=>Rq (Bw (ES _) λ_ _ h1=>Bw (A.ex _ (by omega) (by omega)) λa _ h2=>Bw (ES _) λ_ _ h3=>Bw (A.li _ (by omega) (by omega)) λl hl h4=>Ve (by omega) (Bw (ES _) λ_ _ _=>DK trivial)) Zn hl
theorem agP(hn:n<=10000)(hq:10*n<=q):UT n true TT (Ye en g):=by
 refine Bw (ES _) λt _ h1=>Bw (ES _) λ_ _ h2=>Bw (A.ex _ (by omega) (by omega)) λa _ h3=>Bw (ES _) λ_ _ h4=>Bw (P:=PsP) (jF (K:=λq=>Lx en q [] 1) λk hk=>wK (k+1) k [] 1 (by omega) (by omega) (by omega) (λx hx=>by cases hx)) λr hr h5=>Bw (ES _) λe _ h6=>?_;exact Ve (by have:=hr.1;omega) (aoS (wL ⟨hr.2.1,hr.2.2.1⟩ _ _ _ (λx hx=>(hr.2.2.2 x hx).1) (by have:=hr.1;simp only[List.length_nil];omega)) λ_ _=>DK trivial)
theorem aoX(t:Tk)(hn:n<=10000)(hq:10*n+1<=q):UW n (Qz en g t):=by
 intro t' s hg hl;have one:∀{x:Nd},∃r s',UC (Fw x) (t'::s)=some (r,s')/\(∃k,s'=(t'::s).drop k)/\∀a,r=.inl a->True/\(true=true->s'.length < (t'::s).length):=λ{x}=>Rq (DK trivial) hg hl;have h1:1<=n:=by simp only[List.length_cons] at hl;omega
 unfold Qz;cases BY t.text.data.toList Yj.data.toList;rotate_left;exact one;cases BY t.text.data.toList SN.data.toList;rotate_left;exact one;cases BY t.text.data.toList aD.data.toList;rotate_left;exact Rq (Bw (NK _) λ_ _ _=>DK trivial) hg hl;cases BY t.text.data.toList K0.data.toList;rotate_left;exact one;cases BY t.text.data.toList aL.data.toList;rotate_left;exact one;cases BY t.text.data.toList PW.data.toList;rotate_left;exact one;cases BY t.text.data.toList UB.data.toList;rotate_left;exact one;cases BY t.text.data.toList Kc.data.toList;rotate_left;exact A.ca n hn hq hg hl;cases BY t.text.data.toList Fx.data.toList;rotate_left;exact A.ca n hn hq hg hl;cases BY t.text.data.toList Qc.data.toList;rotate_left;exact A.ta n hn hq hg hl;cases BY t.text.data.toList bY.data.toList;rotate_left;exact Rq (UT.Yt (Bw (st:=true) (A.ex (n - 1) (by omega) (by omega)) λ_ _ _=>Bw (ES _) λ_ _ _=>DK trivial)) hg hl;exact IG (st:=true) (P:=TT) hg hl
theorem aoR(hn:n<=10000)(hq:10*n+2<=q):UT n true TT (WX en g):=by
 refine Yo λt ht s hg hl=>?_;cases DV t.kind 3;rotate_left;exact Bw (st:=true) (P2:=TT) ZS (λ_ _ _=>Vf (λ_=>DK trivial) (DK trivial)) hg hl;cases DV t.kind 2;rotate_left;refine Rq (Bw (MQ λt=>DT ⟨_,rfl⟩ ⟨_,rfl⟩) λa ha _=>?_) hg hl;obtain⟨z,h1,_⟩:=ha.1.oU (.inr (Fo (PS ha.2).symm));exact NJ ⟨z,h1,DK trivial⟩;obtain⟨b,hb⟩:=Vw t;unfold cond K4;dsimp only;rw[hb];cases b;exact A.wd t n hn hq t s hg hl;exact Rq (DK trivial) hg hl
end
theorem sA:∀q:Nat,Tot q (gP en q).1 (gP en q).2:=by
 intro q
 induction q with
 | zero=>constructor<;>intros<;>omega
 | succ q A =>
   constructor
   case ex=>intro n hn hq;exact A.lv 0 n (by omega) hn (by omega)
   case lv =>
     intro i n hi hn hq;show UT n true TT (Oh en (gP en q).1 (gP en q).2 (.lv i));have:i=0\/i=1\/i=2\/i=3\/i=4\/i=5\/i=6:=by omega
     rcases this with rfl | rfl | rfl | rfl | rfl | rfl | rfl
     exact Uq A (by omega) hn (by omega);exact Uq A (by omega) hn (by omega);exact ayE A hn (by omega);exact aoU A hn (by omega);exact Uq A (by omega) hn (by omega);exact Uq A (by omega) hn (by omega);exact A.at_ n hn (by omega)
   case at_=>intro n hn hq;exact aoR A hn (by omega)
   case wd=>intro t n hn hq;exact aoX A t hn (by omega)
   case ca=>intro n hn hq;exact aoT A hn (by omega)
   case ta=>intro n hn hq;exact agP A hn (by omega)
   case li=>intro n hn hq;exact sH hn (A.ex n hn (by omega))
end
end Mo
end Go.Proofs.YtpbkhogolfegfaaGreatDoor
namespace Go.Proofs.YtpbkhogolfegfaaGreatDoor
open AI Go
namespace Mo
set_option maxRecDepth 100000
theorem pE:∀l:List Tk,F2 (·=·) l l
 | []=>.nil
 | t::l=>.cons ⟨rfl,rfl,rfl⟩ (pE l)
theorem azL{l l':List Tk}(h:F2 (·=·) l l'):l=l':=by
 induction h with
 | nil=>rfl
 | cons ht _ ih =>
   rename_i t t' l l' _;obtain⟨k,x,a⟩:=t;obtain⟨k',x',a'⟩:=t';obtain⟨h1,h2,h3⟩:=ht;dsimp only at h1 h2 h3;subst h1 h2 h3;rw[ih]
theorem aBE{n n':Nd}(h:NR (·=·) n n'):n=n' :=
 NR.rec (S:=(·=·)) (motive_1:=λa b _=>a=b) (motive_2:=λa b _=>a=b) (λ_ h ih=>by rw[ih,h]) rfl (λ_ _ h1 h2=>by rw[h1,h2]) h
theorem aBT{en:Int}{r r':Nd⊕Dg}(h:RR (·=·) en en (NR (·=·)) r r'):r=r':=by
 cases h with
 | l h=>rw[aBE h]
 | r h =>
   rename_i d d';obtain⟨h1,h2 | ⟨rfl,rfl⟩⟩:=h;obtain⟨e,a⟩:=d;obtain⟨e',a'⟩:=d';dsimp only at h1 h2;subst h1 h2;rfl;rfl
def OS(en:Int):Rd Nd:=λl=>(gP en (10*l.length+11)).1 .ex l
theorem asE{n:Nat}{en:Int}(hn:n<=10000):UT n true TT (OS en):=λl hg hl=>(sA (10*l.length+11)).ex l.length (by omega) (Nat.le_refl _) hg (Nat.le_refl _)
theorem ajR{en:Int}{l s:List Tk}{r:Nd⊕Dg}(hg:Gl l)(hl:l.length<=10000)(h:OS en l=some (r,s))(q:Nat)(hq:10*l.length+11<=q):(gP en q).1 .ex l=some (r,s):=by
 obtain⟨r',s',h2,_⟩:=(sA (en:=en) q).ex l.length hl hq hg (Nat.le_refl _);have h3:=(amO (S:=(·=·)) (en:=en) (en':=en) (w:=[]) (10*l.length+11) q).rg .ex (pE l) h (by rw[List.append_nil];exact h2);rcases h3 with ⟨s1,rfl,h4,h5⟩ | ⟨h3,_⟩
 rw[h2,List.append_nil,aBT h5,azL h4];exact absurd rfl h3
section
variable {ts:List Tk} (DN:ts.length<=10000) (hg:Gl ts) {en:Int}
include DN hg
theorem pB{k:Nat}(hk:k<=ts.length){r l}(hS:OS en (ts.drop k)=some (r,l)):IY ts k (Fq ⟨ts,k,en⟩) r l:=by
 have hd:(ts.drop k).length<=10000:=by rw[List.length_drop];omega
 have key:∀q,10*(ts.drop k).length+11<=q->IY ts k (Ba q ⟨ts,k,en⟩) r l:=λq hq=>(aiV (by omega) en q).ex hk (ajR (hg.drop k) hd hS q hq);obtain⟨k',a1,a2,a3,a4⟩:=key _ (Nat.le_refl _);refine⟨k',a1,a2,a3,SM (10*(ts.drop k).length+11) λq hq=>?_⟩;obtain⟨k2,b1,b2,b3,b4⟩:=key q hq
 have:k2=k':=by
   have h:=congrArg List.length (a3.symm.trans b3);simp only[List.length_drop] at h;omega
 rw[b4,this]
theorem eM(kind:Int){k:Nat}(hk:k<=ts.length){r l}(hS:Js en (OS en) kind (ts.drop k)=some (r,l)):IY ts k (CL ⟨ts,k,en⟩ kind) r l:=by
 have h6:ts.length<=1000000:=by omega
 refine U7 hk (λt h1 h2 hS=>?_) (λ_=>rfl) hS;have hS:=YT h2 hS;dsimp only[Sum.elim];rw[Eh h6 hk];refine KU (Nat.le_succ k) ?_;revert hS;cases DV kind 7;intro hS;refine Bz (λh=>pB DN hg h1 h) (λa k h hk hS=>?_) (λ_ _=>rfl) hS;refine Bz (λh=>It h6 _ hk h) (λ_ k h hk hS=>?_) (λ_ _=>rfl) hS;exact Ec hk rfl hS;intro hS;refine Bz (λh=>alI h6 (λhk _ _ h=>T6 h6 hk h) h1 h) (λa k h hk hS=>?_) (λ_ _=>rfl) hS;refine Bz (λh=>It h6 _ hk h) (λ_ k h hk hS=>?_) (λ_ _=>rfl) hS;exact Ec hk rfl hS
theorem amD(t1 t4:Tk)(n2:Int×Int)(k0:Int):∀(q:Nat) (ns:List Nd) (un am:Bool) (k:Nat) (r:Nd⊕Dg) (l:List Tk),k<=ts.length->ID en (OS en) (λl=>EP 4 t4.text bE n2.1 l t1.AF) q ns un am (ts.drop k)=some (r,l) ->
   ∃k':Nat,k<=k'/\k'<=ts.length/\l=ts.drop k'/\∃n,GL (λx:List Nd×Int×Bool×Bool=>Br ⟨ts,k0,en⟩ t1 n2 t4 x.1 x.2.1 x.2.2.1 x.2.2.2) n (ns,(k:Int),un,am)=some (.inr (r,(k':Int))):=by
 have h6:ts.length<=1000000:=by omega
 intro q
 induction q with
 | zero=>intro ns un am k r l hk hS;cases hS
 | succ q ih =>
   intro ns un am k r l hk hS
   have stop:∀{y:(Nd⊕Dg)×Int},Br ⟨ts,k0,en⟩ t1 n2 t4 ns (k:Int) un am=some (.rt y)->GL (λx:List Nd×Int×Bool×Bool=>Br ⟨ts,k0,en⟩ t1 n2 t4 x.1 x.2.1 x.2.2.1 x.2.2.2) 1 (ns,(k:Int),un,am)=some (.inr y):=by
     intro y h;show(Br ⟨ts,k0,en⟩ t1 n2 t4 ns (k:Int) un am).bind _=_;rw[h];rfl
   have go:∀{y:List Nd×Int×Bool×Bool} {n:Nat} {z},Br ⟨ts,k0,en⟩ t1 n2 t4 ns (k:Int) un am=some (.nx y)->GL (λx:List Nd×Int×Bool×Bool=>Br ⟨ts,k0,en⟩ t1 n2 t4 x.1 x.2.1 x.2.2.1 x.2.2.2) n y=z->GL (λx:List Nd×Int×Bool×Bool=>Br ⟨ts,k0,en⟩ t1 n2 t4 x.1 x.2.1 x.2.2.1 x.2.2.2) (n+1) (ns,(k:Int),un,am)=z:=by
     intro y n z h h2;show(Br ⟨ts,k0,en⟩ t1 n2 t4 ns (k:Int) un am).bind _=_;rw[h];exact h2
   unfold ID Ua at hS;unfold Br at stop go;rcases I8 ts hk with ⟨h1,h2⟩ | ⟨t,h1,h2,h3⟩
   · rw[h2] at hS
     dsimp only at hS;simp only[Option.some.injEq,Prod.mk.injEq] at hS;obtain⟨rfl,rfl⟩:=hS;refine⟨k,Nat.le_refl k,hk,h2.symm,1,stop ?_⟩
     have:AD ⟨ts,k,en⟩=some (.inr ⟨72,en⟩):=by
       unfold AD;rw[acO (by dsimp only;omega)];rfl
     dsimp only;rw[this];rfl
   · rw[h3] at hS
     dsimp only at hS;rw[<- h3] at hS
     have hpk:AD ⟨ts,k,en⟩=some (.inl t):=by
       unfold AD;rw[qE (by dsimp only;omega)];dsimp only[cond];unfold L9;rw[if_pos (by omega),Int.toNat_natCast,h2];rfl
     dsimp only at stop go;rw[hpk] at stop go;dsimp only[Option.bind,Sum.elim] at stop go
     have one:∀(kind:Int) (dP dC:Bool),(Cp (Js en (OS en) kind) λc=>NX (ns.length+1) (ID en (OS en) (λl=>EP 4 t4.text bE n2.1 l t1.AF) q (ns++[c]) dP dC)) (ts.drop k)=some (r,l) ->
         (∃(k1:Nat) (c:Nd),k<=k1/\k1<=ts.length/\CL ⟨ts,k,en⟩ kind=some (.inl c,(k1:Int))/\ns.length+1<=100000000/\∃k':Nat,k1<=k'/\k'<=ts.length/\l=ts.drop k'/\∃n,GL (λx:List Nd×Int×Bool×Bool=>Br ⟨ts,k0,en⟩ t1 n2 t4 x.1 x.2.1 x.2.2.1 x.2.2.2) n (ns++[c],(k1:Int),dP,dC)=some (.inr (r,(k':Int)))) \/
         (∃(k':Nat) (d:Dg),k<=k'/\k'<=ts.length/\l=ts.drop k'/\r=.inr d/\CL ⟨ts,k,en⟩ kind=some (.inr d,(k':Int))):=by
       intro kind dP dC h;rcases IL h with ⟨c,s',h4,h5⟩ | ⟨d,h4,rfl⟩
       obtain⟨k1,a1,a2,rfl,a4⟩:=eM DN hg kind hk h4;obtain⟨hl,h5⟩:=Nk h5;exact .inl ⟨k1,c,a1,a2,a4,hl,ih _ _ _ _ _ _ a2 h5⟩;obtain⟨k1,a1,a2,a3,a4⟩:=eM DN hg kind hk h4;exact .inr ⟨k1,d,a1,a2,a3,rfl,a4⟩
     cases hw:BY t.text.data.toList Z2.data.toList with
     | true =>
       rw[hw] at hS stop go;dsimp only[cond] at hS stop go;rcases one 6 un am hS with ⟨k1,c,a1,a2,a3,a4,k',b1,b2,b3,n,b4⟩ | ⟨k',d,a1,a2,a3,rfl,a4⟩
       rw[a3] at go;dsimp only[Option.bind,Sum.elim] at go;rw[GN a4] at go;exact⟨k',by omega,b2,b3,n+1,go rfl b4⟩
       · rw[a4] at stop
         exact⟨k',a1,a2,a3,1,stop rfl⟩
     | false =>
       rw[hw] at hS stop go;dsimp only[cond] at hS stop go;cases hu:BY t.text.data.toList RM.data.toList with
       | true =>
         rw[hu] at hS stop go;dsimp only at hS stop go;cases un with
         | true =>
           dsimp only at hS stop go;obtain⟨rfl,rfl⟩:=Ml hS;exact⟨k,Nat.le_refl k,hk,rfl,1,stop rfl⟩
         | false =>
           dsimp only at hS stop go;rcases one 7 true am hS with ⟨k1,c,a1,a2,a3,a4,k',b1,b2,b3,n,b4⟩ | ⟨k',d,a1,a2,a3,rfl,a4⟩
           rw[a3] at go;dsimp only[Option.bind,Sum.elim] at go;rw[GN a4] at go;exact⟨k',by omega,b2,b3,n+1,go rfl b4⟩
           · rw[a4] at stop
             exact⟨k',a1,a2,a3,1,stop rfl⟩
       | false =>
         rw[hu] at hS stop go;dsimp only at hS stop go;cases ha:BY t.text.data.toList PH.data.toList with
         | true =>
           rw[ha] at hS stop go;dsimp only at hS stop go;cases am with
           | true =>
             dsimp only at hS stop go;obtain⟨rfl,rfl⟩:=Ml hS;exact⟨k,Nat.le_refl k,hk,rfl,1,stop rfl⟩
           | false =>
             dsimp only at hS stop go;rcases one 8 un true hS with ⟨k1,c,a1,a2,a3,a4,k',b1,b2,b3,n,b4⟩ | ⟨k',d,a1,a2,a3,rfl,a4⟩
             rw[a3] at go;dsimp only[Option.bind,Sum.elim] at go;rw[GN a4] at go;exact⟨k',by omega,b2,b3,n+1,go rfl b4⟩
             · rw[a4] at stop
               exact⟨k',a1,a2,a3,1,stop rfl⟩
         | false =>
           rw[ha] at hS stop go;dsimp only at hS stop go;cases hc:BY t.text.data.toList amL.data.toList with
           | true =>
             rw[hc] at hS stop;dsimp only at hS stop;cases am with
             | true =>
               have hS:=YT h3 hS;obtain⟨rfl,rfl⟩:=KV hS;refine⟨k+1,by omega,h1,rfl,1,stop ?_⟩;dsimp only;rw[Eh h6 hk];rfl
             | false =>
               obtain⟨rfl,rfl⟩:=Ml hS;exact⟨k,Nat.le_refl k,hk,rfl,1,stop rfl⟩
           | false =>
             rw[hc] at hS stop;dsimp only at hS stop;obtain⟨rfl,rfl⟩:=Ml hS;exact⟨k,Nat.le_refl k,hk,rfl,1,stop rfl⟩
theorem tI{k:Nat}(hk:k<=ts.length){r l}(hS:OZ en (OS en) (ts.drop k)=some (r,l)):IY ts k (FD ⟨ts,k,en⟩) r l:=by
 have h6:ts.length<=1000000:=by omega
 refine Bz (λh=>It h6 _ hk h) (λt k1 h hk hS=>?_) (λ_ _=>rfl) hS;refine Bz (λh=>Of h6 _ hk h) (λn k1 h hk hS=>?_) (λ_ _=>rfl) hS;refine Bz (λh=>It h6 _ hk h) (λ_ k1 h hk hS=>?_) (λ_ _=>rfl) hS;refine Bz (λh=>adG h6 hk h) (λm k1 h hk hS=>?_) (λ_ _=>rfl) hS;refine Bz (λh=>auK h6 hk h) (λhd k1 h hk hS=>?_) (λ_ _=>rfl) hS;dsimp only[Sum.elim];rw[GN (by omega)];refine Bz (λh=>It h6 _ hk h) (λ_ k1 h hk hS=>?_) (λ_ _=>rfl) hS;obtain⟨k',a1,a2,a3,j,a4⟩:=amD DN hg t m n (k:Int) _ [hd] false false k1 r l hk hS;refine⟨k',a1,a2,a3,?_⟩;dsimp only[Sum.elim];rw[List.nil_append,IN a4];rfl
theorem acG{k:Nat}(hk:k<=ts.length){r l}(hS:Rc en (OS en) (ts.drop k)=some (r,l)):IY ts k (GU ⟨ts,k,en⟩) r l:=by
 have h6:ts.length<=1000000:=by omega
 refine U7 hk (λt h1 h2 hS=>?_) (λ_=>rfl) hS;revert hS;dsimp only[Sum.elim];cases BY t.text.data.toList Sk.data.toList;rotate_left;exact λhS=>P3 (zM h6 hk hS);cases BY t.text.data.toList N9.data.toList;rotate_left;exact λhS=>P3 (zM h6 hk hS);cases BY t.text.data.toList Hq.data.toList;rotate_left;exact λhS=>P3 (tI DN hg hk hS);exact λhS=>Ec hk rfl hS
end
end Mo
end Go.Proofs.YtpbkhogolfegfaaGreatDoor
namespace Go.Proofs.YtpbkhogolfegfaaGreatDoor
open AI Go
namespace Mo
set_option maxRecDepth 100000
section
variable {n:Nat} {en:Int} {st:Bool}
def wJ(kind:Int)(hn:n<=10000):UT n st TT (Js en (OS en) kind) :=
 Yo λt _ s Zn hl=>Rq (FN (λ_=>Bw (sH (by omega) SA) λ_ _ _=>Bw (ES _) λ_ _ _=>DK trivial) λ_=>Bw (asE (by omega)) λ_ _ _=>Bw (ES _) λ_ _ _=>DK trivial) Zn hl
def jG{mk:List Nd->Nd}:∀(q n:Nat) (ns:List Nd) (un am:Bool),n<=10000->n < q->ns.length+n<=100000->UT n st TT (ID en (OS en) mk q ns un am):=by
 intro q
 induction q generalizing st with
 | zero=>intro n ns un am _ h;omega
 | succ q ih =>
   intro n ns un am hn h1 h2
   have go:∀{st:Bool} (kind:Int) (dP dC:Bool),UT n st TT (Cp (Js en (OS en) kind) λc=>NX (ns.length+1) (ID en (OS en) mk q (ns++[c]) dP dC)):=λkind dP dC =>
     Bw (wJ kind hn) λc _ h3=>Ve (by omega) (ih (n - 1) _ _ _ (by omega) (by omega) (by simp only[List.length_append,List.length_singleton];omega))
   refine Yo λt _ s Zn hl=>?_;cases BY t.text.data.toList Z2.data.toList;rotate_left;exact go (st:=st) _ _ _ Zn hl;cases BY t.text.data.toList RM.data.toList;rotate_left;exact FN (st:=st) (P:=TT) (λ_=>IG) (λ_=>go _ _ _) Zn hl;cases BY t.text.data.toList PH.data.toList;rotate_left;exact FN (st:=st) (P:=TT) (λ_=>IG) (λ_=>go _ _ _) Zn hl;cases BY t.text.data.toList amL.data.toList;exact IG (st:=st) (P:=TT) Zn hl;cases am;exact IG (st:=st) (P:=TT) Zn hl;exact Rq (DK trivial) Zn hl
def oG(hn:n<=10000):UT n st TT (OZ en (OS en)) :=
 Bw (ES _) λt _ h1=>Bw (NK _) λm _ h2=>Bw (ES _) λ_ _ h3=>Bw Wz λu _ h4=>Bw sF λh _ h5=>Bw (ES _) λ_ _ h6 =>
   jF (K:=λq=>ID en (OS en) (λl=>EP 4 u.text bE m.1 l t.AF) q [h] false false) λk hk=>jG (k+1) k [h] false false (by omega) (by omega) (by simp only[List.length_singleton];omega)
def sG(hn:n<=10000):UT n st TT (Rc en (OS en)):=by
 refine Yo λt _ s Zn hl=>?_;cases BY t.text.data.toList Sk.data.toList;rotate_left;exact sD (st:=st) Zn hl;cases BY t.text.data.toList N9.data.toList;rotate_left;exact sD (st:=st) Zn hl;cases BY t.text.data.toList Hq.data.toList;rotate_left;exact oG (st:=st) hn Zn hl;exact IG (st:=st) (P:=TT) Zn hl
end
def SR(t:Tk):Bool:=BY t.text.data.toList Sk.data.toList||(BY t.text.data.toList N9.data.toList||BY t.text.data.toList Hq.data.toList)
def Qv:List Tk->List Tk
 | []=>[]
 | t::s=>if SR t then t::s else Qv s
def Pn:∀l:List Tk,∃k,Qv l=l.drop k
 | []=>⟨0,rfl⟩
 | t::s=>by
   unfold Qv;split;exact⟨0,rfl⟩;obtain⟨k,hk⟩:=Pn s;exact⟨k+1,by rw[hk];rfl⟩
def MW{en:Int}{t:Tk}{l s:List Tk}{r:Nd⊕Dg}(hg:Gl (t::l))(hl:(t::l).length<=10000)(h:Rc en (OS en) (t::l)=some (r,s)):(∃k,s=(t::l).drop k)/\(Qv s).length<=l.length/\∀n,r=.inl n->s.length<=l.length:=by
 obtain⟨r',s',h2,h3,h4⟩:=sG (st:=true) (en:=en) (n:=(t::l).length) hl hg (Nat.le_refl _);rw[h] at h2;simp only[Option.some.injEq,Prod.mk.injEq] at h2;obtain⟨rfl,rfl⟩:=h2;refine⟨h3,?_,λn hn=>Nat.le_of_lt_succ ((h4 n hn).2 rfl)⟩
 have small:∀{k:Nat},(Qv (l.drop k)).length<=l.length:=λ{k}=>by
   obtain⟨j,hj⟩:=Pn (l.drop k);rw[hj,List.length_drop,List.length_drop];omega
 have sk:∀{x:List Tk},(∃k,x=l.drop k)->(Qv x).length<=l.length:=by
   rintro x ⟨k,rfl⟩;exact small
 have Xs:Gl l:=λt ht=>hg t (List.mem_cons_of_mem _ ht);have xE:l.length<=10000:=by simp only[List.length_cons] at hl;omega
 cases hi:SR t with
 | false =>
   have OU:=hi;unfold SR at hi;simp only[Bool.or_eq_false_iff] at hi
   have:Rc en (OS en) (t::l)=some (.inr ⟨71,t.AF⟩,t::l):=by
     unfold Rc Ua;dsimp only;rw[hi.1,hi.2.1,hi.2.2];rfl
   rw[this] at h;simp only[Option.some.injEq,Prod.mk.injEq] at h;rw[<- h.2];unfold Qv;rw[OU];obtain⟨k,hk⟩:=Pn l;simp only[Bool.false_eq_true,if_false];rw[hk,List.length_drop];omega
 | true =>
   unfold Rc Ua at h;dsimp only at h
   have decl:TS en (t::l)=some (r,s)->(Qv s).length<=l.length:=by
     intro h;unfold TS Ua UC at h;dsimp only at h;refine sk ?_
     obtain⟨r2,s2,e2,h5,_⟩:=(show UT l.length false TT _ from Bw Wz λm _ _=>Bw (ES iD) λ_ _ _=>Bw sK λu _ _=>FN (c:=BY t.text.data.toList N9.data.toList)
       (A:=Cp (rL en) λr=>K4 (Ef r.text) λn=>Cp (I9 en V1) λ_=>Fw (EP 3 m.text u.text n [] t.AF)) (B:=Cp (I9 en V1) λ_=>Fw (EP 2 m.text u.text 0 [] t.AF))
       (λ_=>Bw sJ λr _ _=>by obtain⟨b,hb⟩:=Rm r.text;exact NJ ⟨b,hb,Bw (ES _) λ_ _ _=>DK trivial⟩) λ_=>Bw (ES _) λ_ _ _=>DK trivial) Xs (Nat.le_refl _)
     rw[h] at e2;simp only[Option.some.injEq,Prod.mk.injEq] at e2;rw[e2.2];exact h5
   revert h;cases hf:BY t.text.data.toList Sk.data.toList;rotate_left;exact decl;cases hli:BY t.text.data.toList N9.data.toList;rotate_left;exact decl;cases ha:BY t.text.data.toList Hq.data.toList;unfold SR at hi;rw[hf,hli,ha] at hi;cases hi;intro h;refine sk ?_;have h:OZ en (OS en) (t::l)=some (r,s):=h;unfold OZ at h
   have he:I9 en Hq (t::l)=some (.inl t,l):=by
     unfold I9 KZ Ua K4 Dl;dsimp only;rw[ha];rfl
   rcases IL h with ⟨a,s',h3,h4⟩ | ⟨d,h3,_⟩
   rw[he] at h3;simp only[Option.some.injEq,Prod.mk.injEq,Sum.inl.injEq] at h3;obtain⟨rfl,rfl⟩:=h3
   obtain⟨r2,s2,e2,h5,_⟩:=(show UT l.length false TT _ from Bw (NK (en:=en) 1) λm _ h2=>Bw (ES (en:=en) aaM) λ_ _ h3=>Bw (Wz (en:=en)) λu _ h4=>Bw (sF (en:=en)) λh _ h5=>Bw (ES (en:=en) awY) λ_ _ h6 =>
     jF (K:=λq=>ID en (OS en) (λl=>EP 4 u.text bE m.1 l t.AF) q [h] false false) λk hk=>jG (k+1) k [h] false false (by omega) (by omega) (by simp only[List.length_singleton];omega)) Xs (Nat.le_refl _)
   have h6:=h4.symm.trans e2;simp only[Option.some.injEq,Prod.mk.injEq] at h6;rw[h6.2];exact h5;rw[he] at h3;cases h3
end Mo
end Go.Proofs.YtpbkhogolfegfaaGreatDoor
namespace Go.Proofs.YtpbkhogolfegfaaGreatDoor
open AI Go
namespace Mo
set_option maxRecDepth 100000
def QL(en:Int):Nat->List Tk->List Nd->List Dg->Option (List Nd×List Dg)
 | 0,_,_,_=>none
 | _+1,[],ks,ds=>some (ks,ds)
 | q+1,t::l,ks,ds=>cond (EK ((ds.length:Nat):Int) 20) (match Rc en (OS en) (t::l) with
   | none=>none
   | some (.inl n,s)=>QL en q s (ks++[n]) ds
   | some (.inr d,s)=>QL en q (Qv s) ks (ds++[d])) (some (ks,ds))
theorem agD{en:Int}:∀(q:Nat) (l:List Tk) (ks:List Nd) (ds:List Dg),Gl l->l.length<=10000->l.length < q->∃r,QL en q l ks ds=some r:=by
 intro q
 induction q with
 | zero=>intro l ks ds _ _ h;omega
 | succ q ih =>
   intro l ks ds hg hl h;cases l with
   | nil=>exact⟨_,rfl⟩
   | cons t l =>
     unfold QL;cases EK ((ds.length:Nat):Int) 20 with
     | false=>exact⟨_,rfl⟩
     | true =>
       obtain⟨r,s,h2,_⟩:=sG (st:=true) (en:=en) (n:=(t::l).length) hl hg (Nat.le_refl _);obtain⟨⟨k,rfl⟩,h4,h5⟩:=MW hg hl h2;dsimp only[cond];rw[h2];simp only[List.length_cons] at h hl;cases r with
       | inl n =>
         have h6:=h5 n rfl;exact ih _ _ _ (hg.drop k) (by omega) (by omega)
       | inr d =>
         obtain⟨j,hj⟩:=Pn ((t::l).drop k);refine ih _ _ _ ?_ (by omega) (by omega);rw[hj];exact(hg.drop k).drop j
section
variable {source:ByteArray} {ts:List Tk} (DN:ts.length<=10000)
include DN
theorem axJ:∀(j k:Nat),k<=ts.length->ts.length - k<=j->∃n k':Nat,k<=k'/\k'<=ts.length/\Qv (ts.drop k)=ts.drop k'/\GL (λx=>CU source ts x) n (k:Int)=some (.inl (k':Int)):=by
 have stop:∀{k:Nat} {y:Int},CU source ts (k:Int)=some (.ex y)->GL (λx=>CU source ts x) 1 (k:Int)=some (.inl y):=by
   intro k y h;show(CU source ts (k:Int)).bind _=_;rw[h];rfl
 intro j
 induction j with
 | zero =>
   intro k hk hj;have:k=ts.length:=by omega
   refine⟨1,k,Nat.le_refl k,hk,?_,stop ?_⟩;rw[List.drop_eq_nil_of_le (by omega)];rfl;unfold CU;rw[Kk (by omega)];rfl
 | succ j ih =>
   intro k hk hj;rcases I8 ts hk with ⟨h1,h2⟩ | ⟨t,h1,h2,h3⟩
   · refine⟨1,k,Nat.le_refl k,hk,?_,stop ?_⟩
     rw[h2];rfl;unfold CU;rw[Kk (by omega)];rfl
   · have hs:∀x,IW x (ts.drop k)=BY t.text.data.toList x.data.toList:=λx=>by rw[h3];rfl
     have hL:CU source ts (k:Int)=if SR t then some (.ex (k:Int)) else some (.nx ((k+1:Nat):Int)):=by
       unfold CU SR;rw[Nl (by omega)];dsimp only[cond];rw[Gq hk,Gq hk,Gq hk,Option.bind_some,hs,hs,hs];cases BY t.text.data.toList Sk.data.toList;cases BY t.text.data.toList N9.data.toList;cases BY t.text.data.toList Hq.data.toList;rw[<- Eh (by omega) hk];rfl;rfl;rfl;rfl
     cases hi:SR t with
     | true =>
       refine⟨1,k,Nat.le_refl k,hk,?_,stop ?_⟩;rw[h3];unfold Qv;rw[hi];rfl;rw[hL,hi];rfl
     | false =>
       obtain⟨n,k',a1,a2,a3,a4⟩:=ih (k+1) h1 (by omega);refine⟨n+1,k',by omega,a2,?_,?_⟩;rw[h3];unfold Qv;rw[hi];exact a3;show(CU source ts (k:Int)).bind _=_;rw[hL,hi];exact a4
theorem aCH(hg:Gl ts):∀(q k:Nat) (ks:List Nd) (ds:List Dg) (r:List Nd×List Dg),k<=ts.length->ks.length+ds.length+q<=100000->QL ((source.data.toList.length:Nat):Int) q (ts.drop k) ks ds=some r ->
   ∃n k':Nat,GL (λx:List Dg×List Nd×Int=>Ca source ts x.1 x.2.1 x.2.2) n (ds,ks,(k:Int))=some (.inl (r.2,r.1,(k':Int))):=by
 intro q
 induction q with
 | zero=>intro k ks ds r hk hq h;cases h
 | succ q ih =>
   intro k ks ds r hk hq h
   have stop:Ca source ts ds ks (k:Int)=some (.ex (ds,ks,(k:Int)))->GL (λx:List Dg×List Nd×Int=>Ca source ts x.1 x.2.1 x.2.2) 1 (ds,ks,(k:Int))=some (.inl (ds,ks,(k:Int))):=by
     intro h;show(Ca source ts ds ks (k:Int)).bind _=_;rw[h];rfl
   rcases I8 ts hk with ⟨h1,h2⟩ | ⟨t,h1,h2,h3⟩
   · rw[h2] at h
     have:r=(ks,ds):=(Option.some.inj h).symm;subst this;refine⟨1,k,stop ?_⟩;unfold Ca;rw[Kk (by omega)];rfl
   · rw[h3] at h
     unfold QL at h;rw[<- h3] at h;cases hd:EK ((ds.length:Nat):Int) 20 with
     | false =>
       rw[hd] at h;have:r=(ks,ds):=(Option.some.inj h).symm;subst this;refine⟨1,k,stop ?_⟩;unfold Ca;rw[Nl (by omega),hd];rfl
     | true =>
       rw[hd] at h;dsimp only[cond] at h;split at h;cases h;rename_i n s hi;obtain⟨k1,a1,a2,rfl,a4⟩:=acG DN hg hk hi;obtain⟨m,k',b1⟩:=ih k1 (ks++[n]) ds r a2 (by simp only[List.length_append,List.length_singleton];omega) h;refine⟨m+1,k',?_⟩
       have hL:Ca source ts ds ks (k:Int)=some (.nx (ds,ks++[n],(k1:Int))):=by
         unfold Ca GV;rw[Nl (by omega),hd,a4];dsimp only[cond,Option.bind,agF];rw[GN (by omega)]
       show(Ca source ts ds ks (k:Int)).bind _=_;rw[hL];exact b1;rename_i d s hi;obtain⟨k1,a1,a2,rfl,a4⟩:=acG DN hg hk hi;obtain⟨j,k2,c1,c2,c3,c4⟩:=axJ (source:=source) DN (ts.length - k1) k1 a2 (Nat.le_refl _);rw[c3] at h;obtain⟨m,k',b1⟩:=ih k2 ks (ds++[d]) r c2 (by simp only[List.length_append,List.length_singleton];omega) h;refine⟨m+1,k',?_⟩
       have hL:Ca source ts ds ks (k:Int)=some (.nx (ds++[d],ks,(k2:Int))):=by
         unfold Ca GV;rw[Nl (by omega),hd,a4];dsimp only[cond,Option.bind,agF];rw[GN (by omega),IN c4];rfl
       show(Ca source ts ds ks (k:Int)).bind _=_;rw[hL];exact b1
end
def Ff(s:ByteArray):List Tk:=(LexS.Mc s.data.toList).1.map OG
def UX(s:ByteArray):Nat:=(LexS.Mc s.data.toList).2.1
def aJG(s:ByteArray):Nat:=(LexS.Mc s.data.toList).2.2
def Jm(ks:List Nd):Nd:=⟨1,ByteArray.empty,ByteArray.empty,0,0,0,0,⟨0,[]⟩,ks,0⟩
theorem ZA{s:ByteArray}(h:UX s≠0):CV s=some (z0,[⟨(UX s:Int),(aJG s:Int)⟩]):=by
 unfold CV Ki;rw[Option.bind_some];dsimp only;rw[Sj (by unfold UX at h;omega)];rfl
theorem vM{s:ByteArray}(h:UX s=0)(hg:Gl (Ff s))(hl:(Ff s).length<=10000):∃ks ds,QL ((s.data.toList.length:Nat):Int) ((Ff s).length+1) (Ff s) [] []=some (ks,ds)/\CV s=cond (EK 0 ((ds.length:Nat):Int)) (some (z0,ds)) (Dj (Jm ks)):=by
 obtain⟨⟨ks,ds⟩,h1⟩:=agD (en:=((s.data.toList.length:Nat):Int)) ((Ff s).length+1) (Ff s) [] [] hg hl (Nat.lt_succ_self _);refine⟨ks,ds,h1,?_⟩;obtain⟨n,k',h2⟩:=aCH (source:=s) hl hg ((Ff s).length+1) 0 [] [] _ (Nat.zero_le _) (by simp only[List.length_nil];omega) (by rw[List.drop_zero];exact h1);unfold CV Ki;rw[Option.bind_some];dsimp only;rw[N5 (by unfold UX at h;omega)];dsimp only[cond];have h2:GL (λx:List Dg×List Nd×Int=>Ca s (List.map OG (LexS.Mc s.data.toList).fst) x.1 x.2.1 x.2.2) n ([],[],0)=some (.inl (ds,ks,(k':Int))):=h2;rw[IN h2,Option.bind_some];dsimp only[PD];cases EK 0 ((ds.length:Nat):Int);dsimp only;show(Dj (Jm ks)).bind _=Dj (Jm ks);cases Dj (Jm ks)<;>rfl
 rfl
end Mo
end Go.Proofs.YtpbkhogolfegfaaGreatDoor
namespace Go.Proofs.YtpbkhogolfegfaaGreatDoor
open AI Go LexS
namespace Mo
set_option maxRecDepth 100000
def RW(c:UInt8):Prop:=48<=c.toNat/\c.toNat<=57
theorem yW:∀n < 128,(Q4 n &&& 8)≠0->48<=n/\n<=57:=by decide
theorem ajF{c:UInt8}(h:cin 8 c=true):RW c:=by
 unfold cin at h;by_cases hc:c.toNat < 128;exact yW _ hc (by simpa using h)
 rw[aJ _ (by omega)] at h;simp at h
theorem iX(t:List UInt8):∀c∈t.take (BU 8 t),RW c:=by
 unfold BU
 induction t with
 | nil=>intro c hc;cases hc
 | cons x t ih =>
   intro c hc;rw[List.takeWhile_cons] at hc;split at hc;rename_i hx;rw[List.length_cons,List.take_succ_cons] at hc;rcases List.mem_cons.1 hc with rfl | hc
   exact ajF hx;exact ih c hc;cases hc
theorem ajL:∀(l:List UInt8) (acc:Nat),(∀c∈l,RW c)->∃n,Lib.decFrom acc l=some n/\n < (acc+1)*10 ^ l.length:=by
 intro l
 induction l with
 | nil=>intro acc _;exact⟨acc,rfl,by simp⟩
 | cons c l ih =>
   intro acc h;have hc:=h c (List.mem_cons_self ..);obtain⟨n,h1,h2⟩:=ih (acc*10+(c.toNat - 48)) (λx hx=>h x (List.mem_cons_of_mem _ hx));refine⟨n,?_,Nat.lt_of_lt_of_le h2 ?_⟩;unfold Lib.decFrom Lib.digitVal;rw[if_pos (show 48<=c.toNat/\c.toNat<=57 from hc)];exact h1;rw[List.length_cons,Nat.pow_succ,Nat.mul_comm (10 ^ l.length) 10,<- Nat.mul_assoc];exact Nat.mul_le_mul_right _ (by have:=hc.2;omega)
theorem yC{l:List UInt8}(h0:l≠[])(hl:l.length<=12)(h:∀c∈l,RW c):∃z,Lib.atoi l=some z/\0<=z/\z<=999999999999:=by
 cases l with
 | nil=>exact absurd rfl h0
 | cons c l =>
   obtain⟨n,h1,h2⟩:=ajL (c::l) 0 h;have hc:=h c (List.mem_cons_self ..);have hlt:n < 10 ^ 12:=Nat.lt_of_lt_of_le h2 (by rw[Nat.zero_add,Nat.one_mul];exact Nat.pow_le_pow_right (by omega) hl);refine⟨(n:Int),?_,by omega,by omega⟩
   have e1:(c == 45)=false:=by
     apply beq_false_of_ne;rintro rfl;exact absurd hc.1 (by decide)
   have e2:(c == 43)=false:=by
     apply beq_false_of_ne;rintro rfl;exact absurd hc.1 (by decide)
   unfold Lib.atoi Lib.decNat;dsimp only;rw[e1,e2];simp only[Bool.false_eq_true,if_false,List.isEmpty_cons];rw[h1];rfl
theorem Zp:∀(d r:List UInt8),(∀c∈d,RW c)->Lib.indexByte (d++46::r) 46=d.length
 | [],r,_=>by unfold Lib.indexByte;rfl
 | c::d,r,h=>by
   have ih:=Zp d r (λx hx=>h x (List.mem_cons_of_mem _ hx));have hc:=h c (List.mem_cons_self ..)
   have e1:(c == 46)=false:=by
     apply beq_false_of_ne;rintro rfl;exact absurd hc.1 (by decide)
   rw[List.cons_append];unfold Lib.indexByte;rw[e1,ih];simp
theorem WW{l:List UInt8}(h0:l≠[])(hl:l.length<=12)(h:∀c∈l,RW c):∃z,QX ⟨l.toArray⟩=some (z,())/\0<=z/\z<=999999999999:=by
 obtain⟨z,h1,h2⟩:=yC h0 hl h;refine⟨z,?_,h2⟩;unfold QX;rw[if_pos (by simp;omega)];simp only[List.toList_toArray,h1,Option.map_some]
theorem vO{s:List UInt8}(k:Nat)(h:Lib.index s [46]=-1):Lib.replaceK [46] [] k s=s:=by
 cases k with
 | zero=>rfl
 | succ k=>unfold Lib.replaceK;rw[h];rfl
theorem fZ:∀(d:List UInt8),(∀c∈d,RW c)->Lib.indexByte d 46=-1
 | [],_=>rfl
 | c::d,h=>by
   have ih:=fZ d (λx hx=>h x (List.mem_cons_of_mem _ hx));have hc:=h c (List.mem_cons_self ..)
   have e1:(c == 46)=false:=by
     apply beq_false_of_ne;rintro rfl;exact absurd hc.1 (by decide)
   unfold Lib.indexByte;rw[e1,ih];simp
theorem amR{d:List UInt8}(h:∀c∈d,RW c):Lib.replace d [46] [] 1=d:=by
 unfold Lib.replace;rw[if_neg (by decide)];exact vO _ (by rw[Lib.index_one,fZ d h])
theorem aeB{d r:List UInt8}(h:∀c∈d,RW c):Lib.replace (d++46::r) [46] [] 1=d++r:=by
 have hi:Lib.index (d++46::r) [46]=(d.length:Int):=by rw[Lib.index_one,Zp d r h]
 have hn:Lib.replaceNum (d++46::r) [46] 1=1:=by
   have:1<=Lib.count (d++46::r) [46]:=by
     unfold Lib.count Lib.countFrom;rw[hi,if_neg (by simp)];omega
   unfold Lib.replaceNum;rw[if_neg (by omega)];rfl
 unfold Lib.replace;rw[if_neg (by decide),hn,Lib.replaceK_hit _ _ _ _ _ hi];unfold Lib.replaceK;simp
theorem Za{k a:Int}{l m:List UInt8}(hr:Lib.replace l [46] [] 1=m)(hl:l.length<=20)(h0:m≠[])(hm:m.length<=12)(h:∀c∈m,RW c):∃z,Cl ⟨k,⟨l.toArray⟩,a⟩=some z/\0<=z/\z<=999999999999:=by
 obtain⟨z,h1,h2⟩:=WW h0 hm h;refine⟨z,?_,h2⟩;unfold Cl
 have:Jl ⟨l.toArray⟩ awX ByteArray.empty 1=some ⟨m.toArray⟩:=by
   unfold Jl
   rw[if_pos ⟨by decide,by
     have:(ByteArray.empty).size=0:=rfl;have h2:(⟨l.toArray⟩:ByteArray).size=l.length:=by simp[ByteArray.size]
     rw[this,h2];omega⟩]
   have:(awX).data.toList=[46]:=rfl;rw[this];simp only[List.toList_toArray];rw[show(ByteArray.empty).data.toList=[] from rfl,hr]
 dsimp only;rw[this,Option.bind_some,h1];rfl
def aqL(y m:Nat):Bool:=match FX (2000+y) m,Hr (12*y+m) with
 | some n,some f=>Nat.ble 1 n.toNat&&(Nat.ble 0 f.toNat&&(decide (0<=n/\n<=31/\0<=f/\f+n<=36525)))
 | _,_=>false
theorem ajD:((List.range 100).all λy=>(List.range 12).all λm=>aqL y m)=true:=by kernel_rfl
theorem atE{y m:Nat}(hy:y < 100)(hm:m < 12):∃n f:Int,FX (2000+y) m=some n/\Hr (12*y+m)=some f/\0<=n/\n<=31/\0<=f/\f+n<=36525:=by
 have h:=List.all_eq_true.1 (List.all_eq_true.1 ajD y (List.mem_range.2 hy)) m (List.mem_range.2 hm);unfold aqL at h;split at h;rename_i n f h1 h2;simp only[Bool.and_eq_true,decide_eq_true_eq] at h;exact⟨n,f,h1,h2,h.2.2.1,h.2.2.2.1,h.2.2.2.2.1,h.2.2.2.2.2⟩;cases h
theorem zL(y m d:Int)(hy:0<=y/\y<=100000)(hm:0<=m/\m<=100000)(hd:0<=d/\d<=100000):∃z e,I6 y m d=some (z,e)/\(e=0->0<=z/\z<=36524):=by
 have bad:∃z e,(some ((0:Int),(21:Int)):Option (Int×Int))=some (z,e)/\(e=0->0<=z/\z<=36524):=⟨0,21,rfl,λh=>by omega⟩;unfold I6;cases h1:EK y 2000;rotate_left;exact bad;cases h2:EK 2099 y;rotate_left;exact bad;cases h3:EK m 1;rotate_left;exact bad;cases h4:EK 12 m;rotate_left;exact bad;cases h5:EK d 1;rotate_left;exact bad;have h1:=Kj h1;have h2:=Kj h2;have h3:=Kj h3;have h4:=Kj h4;have h5:=Kj h5;obtain⟨n,f,a1,a2,a3,a4,a5,a6⟩:=atE (y:=(y - 2000).toNat) (m:=(m - 1).toNat) (by omega) (by omega);rw[show(2000:Int)+((y - 2000).toNat:Nat)=y by omega,show(((m - 1).toNat:Nat):Int)=m - 1 by omega] at a1;rw[show 12*(((y - 2000).toNat:Nat):Int)+(((m - 1).toNat:Nat):Int)=(y - 2000)*12+m - 1 by omega] at a2;dsimp only[cond];rw[Qi (a:=m) (by omega),a1,Option.bind_some];cases h6:EK n d;have h6:=Kj h6;dsimp only;rw[Qi (a:=y) (by omega),Ir (by omega),G3 (by omega),Qi (by omega),a2,Option.bind_some];rw[G3 (by omega),Qi (by omega)];exact⟨_,0,rfl,λ_=>by omega⟩;exact bad
theorem zZ{c:UInt8}(hc:RW c):w64 (Ms .u8 (cP ((c.toNat:Nat):Int) 48))=(c.toNat:Int) - 48:=by
 have h1:=hc.1;have h2:=hc.2
 have e:Ms .u8 (cP ((c.toNat:Nat):Int) 48)=(c.toNat:Int) - 48:=by
   rw[cQ,Uw];unfold IntKind.wrap;simp[IntKind.bits,IntKind.signed];omega
 rw[e];unfold w64;exact sY (by omega)
section
variable {i:Nat} {c:UInt8} (h4:i≠4) (h7:i≠7) (hc:RW c) {a b d:Int} (ha:0<=a/\a<=1000) (hb:0<=b/\b<=1000) (hd:0<=d/\d<=1000)
include h4 h7 hc
theorem cl0(ha:0<=a/\a<=1000):B5 i c 0 a b d=some (.nx (0,a*10+((c.toNat:Int) - 48),b,d)):=by
 have h1:=hc.1;have h2:=hc.2;unfold B5;rw[Sj (a:=(i:Int)) (b:=4) (by omega),Sj (a:=(i:Int)) (b:=7) (by omega),Kk (b:=48) (by omega),Kk (a:=57) (by omega),zZ hc];dsimp only[cond];rw[Ir (a:=a) (by omega),G3 (a:=a*10) (by omega)];rfl
theorem cl1(hb:0<=b/\b<=1000):B5 i c 1 a b d=some (.nx (1,a,b*10+((c.toNat:Int) - 48),d)):=by
 have h1:=hc.1;have h2:=hc.2;unfold B5;rw[Sj (a:=(i:Int)) (b:=4) (by omega),Sj (a:=(i:Int)) (b:=7) (by omega),Kk (b:=48) (by omega),Kk (a:=57) (by omega),zZ hc];dsimp only[cond];rw[Ir (a:=b) (by omega),G3 (a:=b*10) (by omega)];rfl
theorem cl2(hd:0<=d/\d<=1000):B5 i c 2 a b d=some (.nx (2,a,b,d*10+((c.toNat:Int) - 48))):=by
 have h1:=hc.1;have h2:=hc.2;unfold B5;rw[Sj (a:=(i:Int)) (b:=4) (by omega),Sj (a:=(i:Int)) (b:=7) (by omega),Kk (b:=48) (by omega),Kk (a:=57) (by omega),zZ hc];dsimp only[cond];rw[Ir (a:=d) (by omega),G3 (a:=d*10) (by omega)];rfl
end
abbrev yX:=Dh (λi y (x:Int×Int×Int×Int)=>B5 i y x.1 x.2.1 x.2.2.1 x.2.2.2) (λx:Int×Int×Int×Int=>(x.2.1,x.2.2.1,x.2.2.2))
section
variable {i:Nat} {c:UInt8} (h4:i≠4) (h7:i≠7) (hc:RW c) {a b d:Int} {l:List UInt8}
include h4 h7 hc
theorem fo0(ha:0<=a/\a<=1000):yX (c::l) i (0,a,b,d)=yX l (i+1) (0,a*10+((c.toNat:Int) - 48),b,d):=by
 show(B5 i c 0 a b d).bind _=_;rw[cl0 h4 h7 hc ha];rfl
theorem fo1(ha:0<=b/\b<=1000):yX (c::l) i (1,a,b,d)=yX l (i+1) (1,a,b*10+((c.toNat:Int) - 48),d):=by
 show(B5 i c 1 a b d).bind _=_;rw[cl1 h4 h7 hc ha];rfl
theorem fo2(ha:0<=d/\d<=1000):yX (c::l) i (2,a,b,d)=yX l (i+1) (2,a,b,d*10+((c.toNat:Int) - 48)):=by
 show(B5 i c 2 a b d).bind _=_;rw[cl2 h4 h7 hc ha];rfl
end
theorem fo4{l:List UInt8}{a b d:Int}:yX (45::l) (0+1+1+1+1) (0,a,b,d)=yX l (0+1+1+1+1+1) (1,a,b,d):=rfl
theorem fo7{l:List UInt8}{a b d:Int}:yX (45::l) (0+1+1+1+1+1+1+1) (1,a,b,d)=yX l (0+1+1+1+1+1+1+1+1) (2,a,b,d):=rfl
theorem tZ{c0 c1 c2 c3 c5 c6 c8 c9:UInt8}(h0:RW c0)(h1:RW c1)(h2:RW c2)(h3:RW c3)(h5:RW c5)(h6:RW c6)(h8:RW c8)(h9:RW c9) :
   ∃z e,E6 ⟨([c0,c1,c2,c3,45,c5,c6,45,c8,c9]:List UInt8).toArray⟩=some (z,e)/\(e=0->0<=z/\z<=36524):=by
 have b0:=h0;have b1:=h1;have b2:=h2;have b3:=h3;have b5:=h5;have b6:=h6;have b8:=h8;have b9:=h9;unfold RW at b0 b1 b2 b3 b5 b6 b8 b9;obtain⟨z,e,hz,he⟩:=zL ((((0*10+((c0.toNat:Int) - 48))*10+((c1.toNat:Int) - 48))*10+((c2.toNat:Int) - 48))*10+((c3.toNat:Int) - 48)) ((0*10+((c5.toNat:Int) - 48))*10+((c6.toNat:Int) - 48)) ((0*10+((c8.toNat:Int) - 48))*10+((c9.toNat:Int) - 48)) (by omega) (by omega) (by omega);refine⟨z,e,?_,he⟩;unfold E6;rw[N5 (by rfl)];dsimp only[cond]
 have key:Dh (λi y x=>B5 i y x.1 x.2.1 x.2.2.1 x.2.2.2) (λx:Int×Int×Int×Int=>(x.2.1,x.2.2.1,x.2.2.2)) [c0,c1,c2,c3,45,c5,c6,45,c8,c9] 0 (0,0,0,0)=some (.inl ((((0*10+((c0.toNat:Int) - 48))*10+((c1.toNat:Int) - 48))*10+((c2.toNat:Int) - 48))*10+((c3.toNat:Int) - 48),(0*10+((c5.toNat:Int) - 48))*10+((c6.toNat:Int) - 48),(0*10+((c8.toNat:Int) - 48))*10+((c9.toNat:Int) - 48))):=by
   show yX [c0,c1,c2,c3,45,c5,c6,45,c8,c9] 0 (0,0,0,0)=_;rw[fo0 (by decide) (by decide) h0 (by omega)];rw[fo0 (by decide) (by decide) h1 (by omega)];rw[fo0 (by decide) (by decide) h2 (by omega)];rw[fo0 (by decide) (by decide) h3 (by omega)];rw[fo4];rw[fo1 (by decide) (by decide) h5 (by omega)];rw[fo1 (by decide) (by decide) h6 (by omega)];rw[fo7];rw[fo2 (by decide) (by decide) h8 (by omega)];rw[fo2 (by decide) (by decide) h9 (by omega)];rfl
 have hl:Sx ([c0,c1,c2,c3,45,c5,c6,45,c8,c9]:List UInt8).length=λy:Option ((Int×Int×Int)⊕(Int×Int))=>y:=funext λy=>if_pos (by simp);simp only[List.toList_toArray,List.drop_zero];rw[hl,key];dsimp only[Option.bind,PD];rw[hz]
end Mo
end Go.Proofs.YtpbkhogolfegfaaGreatDoor
namespace Go.Proofs.YtpbkhogolfegfaaGreatDoor
open AI Go LexS
namespace Mo
set_option maxRecDepth 100000
def TZ{m:Nat}{t:List UInt8}(h:K3 m t=true):∃c u,t=c::u/\cin m c=true:=by
 cases t with
 | nil=>cases h
 | cons c u=>exact⟨c,u,rfl,h⟩
def RI:∀(t:List UInt8) (ys:List (List UInt8)),(Qb t ys).1=0\/(Qb t ys).1=6
 | _,[]=>.inl rfl
 | t,y::ys=>by
   unfold Qb;split;exact .inr rfl;exact RI t ys
def afD{t:List UInt8}(h:K3 8 t=true):1<=BU 8 t:=by
 obtain⟨c,u,rfl,hc⟩:=TZ h;rw[NH,if_pos hc];omega
def tY{t:List UInt8}(h:KF t=true):∃c0 c1 c2 c3 c5 c6 c8 c9,t.take 10=[c0,c1,c2,c3,45,c5,c6,45,c8,c9]/\RW c0/\RW c1/\RW c2/\RW c3/\RW c5/\RW c6/\RW c8/\RW c9:=by
 unfold KF at h;rw[Bool.and_eq_true] at h;obtain⟨hl,h⟩:=h;have hl:=of_decide_eq_true hl;have hd:=λi hi=>List.all_eq_true.1 h i (List.mem_range.2 hi)
 match t,hl with
 | c0::c1::c2::c3::c4::c5::c6::c7::c8::c9::u,_ =>
   have e4:c4=45:=by have:=hd 4 (by decide);simpa[M6] using this
   have e7:c7=45:=by have:=hd 7 (by decide);simpa[M6] using this
   have g:∀(i:Nat) (c:UInt8) (v:List UInt8),i < 10->i≠4->i≠7->(c0::c1::c2::c3::c4::c5::c6::c7::c8::c9::u).drop i=c::v->RW c:=by
     intro i c v h1 h4 h7 h;have:=hd i h1;unfold M6 at this;rw[if_neg (by omega),h] at this;exact ajF this
   subst e4 e7
   exact⟨c0,c1,c2,c3,c5,c6,c8,c9,rfl,g 0 _ _ (by decide) (by decide) (by decide) rfl,g 1 _ _ (by decide) (by decide) (by decide) rfl,g 2 _ _ (by decide) (by decide) (by decide) rfl,g 3 _ _ (by decide) (by decide) (by decide) rfl,
     g 5 _ _ (by decide) (by decide) (by decide) rfl,g 6 _ _ (by decide) (by decide) (by decide) rfl,g 8 _ _ (by decide) (by decide) (by decide) rfl,g 9 _ _ (by decide) (by decide) (by decide) rfl⟩
def lF{t:List UInt8}(h1:(t.drop (BU 8 t)).head?=some 46)(h2:K3 8 (t.drop (BU 8 t+1))=true)(h3:K3 8 (t.drop (BU 8 t+2))=true) :
   ∃x y,t.take (BU 8 t+3)=t.take (BU 8 t)++46::[x,y]/\RW x/\RW y:=by
 obtain⟨x,u,hx,xG⟩:=TZ h2;obtain⟨y,v,hy,Ej⟩:=TZ h3;generalize hd:BU 8 t=d at *
 have e1:t.drop d=46::t.drop (d+1):=by
   cases hq:t.drop d with
   | nil=>rw[hq] at h1;cases h1
   | cons a b =>
     rw[hq] at h1;have:t.drop (d+1)=b:=by rw[<- List.drop_drop,hq];rfl
     rw[this];simp only[List.head?_cons,Option.some.injEq] at h1;rw[h1]
 have e2:t.drop (d+1)=x::t.drop (d+2):=by
   rw[hx,show d+2=(d+1)+1 from rfl,<- List.drop_drop,hx];rfl
 refine⟨x,y,?_,ajF xG,ajF Ej⟩;rw[List.take_add,e1,e2,hy];rfl
def agC{t:List UInt8}{o:Nat}(ht:t.length<=6000)(h:(BL t).1≠0):Gd (OG ((BL t).1,t.take (BL t).2,o)):=by
 have hlen:(t.take (BL t).2).length<=6000:=by rw[List.length_take];omega
 have hlen:(OG ((BL t).1,t.take (BL t).2,o)).text.data.toList.length<=6000:=hlen
 have other:(BL t).1≠3->(BL t).1≠4->(BL t).1≠5->Gd (OG ((BL t).1,t.take (BL t).2,o)):=by
   intro h3 h4 h5;refine⟨λh=>?_,λh=>?_,λh=>?_,hlen⟩;have:(((BL t).1:Nat):Int)=3:=h;omega;have:(((BL t).1:Nat):Int)=3\/(((BL t).1:Nat):Int)=4:=h;omega;have:(((BL t).1:Nat):Int)=5:=h;omega
 by_cases c2:K3 2 t=true;refine other ?_ ?_ ?_<;>(unfold BL;rw[if_pos c2];split<;>simp)
 by_cases c4:K3 4 t=true;refine other ?_ ?_ ?_<;>(unfold BL;rw[if_neg c2,if_pos c4];split<;>simp)
 by_cases c8:K3 8 t=true;rotate_left;have:BL t=Qb t Gf:=by unfold BL;rw[if_neg c2,if_neg c4,if_neg c8]
 rcases RI t Gf with h1 | h1
 rw[this] at h;exact absurd h1 h;rw[<- this] at h1;exact other (by omega) (by omega) (by omega);have hr:BL t=KD t:=by unfold BL;rw[if_neg c2,if_neg c4,if_pos c8]
 have hp:=afD c8;have hsp:=X8 8 t;rw[hr] at h hlen ⊢;unfold KD at h hlen ⊢;dsimp only at h hlen ⊢;by_cases hd:KF t=true;rw[if_pos hd] at h hlen ⊢;split at h;rename_i hf;rw[if_pos hf] at hlen ⊢;refine⟨λh=>?_,λh=>?_,λh=>?_,hlen⟩;have:(((5:Nat)):Int)=3:=h;omega;have:(((5:Nat)):Int)=3\/((5:Nat):Int)=4:=h;omega;obtain⟨c0,c1,c2,c3,c5,c6,c8,c9,h0,a0,a1,a2,a3,a5,a6,a8,a9⟩:=tY hd;dsimp only[OG];rw[h0];exact tZ a0 a1 a2 a3 a5 a6 a8 a9;exact absurd rfl h;rw[if_neg hd] at h hlen ⊢;by_cases h0:t.head?=some 48/\1 < BU 8 t;rw[if_pos h0] at h;exact absurd rfl h;rw[if_neg h0] at h hlen ⊢;by_cases h1:(t.drop (BU 8 t)).head?=some 46;rw[if_pos h1] at h hlen ⊢;by_cases h2:10 < BU 8 t\/K3 8 (t.drop (BU 8 t+1))=false\/K3 8 (t.drop (BU 8 t+2))=false;rw[if_pos h2] at h;exact absurd rfl h;rw[if_neg h2] at h hlen ⊢;split at h;rename_i hf;rw[if_pos hf] at hlen ⊢;refine⟨λh=>?_,λ_=>?_,λh=>?_,hlen⟩;have:(((4:Nat)):Int)=3:=h;omega;simp only[not_or,Bool.not_eq_false] at h2;obtain⟨x,y,e,hx,hy⟩:=lF h1 h2.2.1 h2.2.2;dsimp only[OG];rw[e];have hs:=iX t;refine Za (m:=t.take (BU 8 t)++[x,y]) (aeB hs) ?_ (by simp) ?_ ?_;simp only[List.length_append,List.length_take,List.length_cons,List.length_nil];omega;simp only[List.length_append,List.length_take,List.length_cons,List.length_nil];omega;intro c hc;rcases List.mem_append.1 hc with hc | hc
 exact hs c hc;simp only[List.mem_cons,List.not_mem_nil,or_false] at hc;rcases hc with rfl | rfl
 exact hx;exact hy;have:(((4:Nat)):Int)=5:=h;omega;exact absurd rfl h;rw[if_neg h1] at h hlen ⊢;by_cases h2:12 < BU 8 t;rw[if_pos h2] at h;exact absurd rfl h;rw[if_neg h2] at h hlen ⊢;split at h;rename_i hf;rw[if_pos hf] at hlen ⊢;have hs:=iX t
 have hne:t.take (BU 8 t)≠[]:=λe=>by
   have:=congrArg List.length e;rw[List.length_take,List.length_nil] at this;omega
 refine⟨λh=>?_,λ_=>?_,λh=>?_,hlen⟩;exact WW hne (by rw[List.length_take];omega) hs;exact Za (amR hs) (by rw[List.length_take];omega) hne (by rw[List.length_take];omega) hs;have:(((3:Nat)):Int)=5:=h;omega;exact absurd rfl h
def Z3:∀(n o:Nat) (t:List UInt8) (x:LexS.Tok),x∈JP n o t->x.1≠0->∃u o',u.length<=t.length/\(BL u).1≠0/\x=((BL u).1,u.take (BL u).2,o'):=by
 intro n
 induction n with
 | zero=>intro o t x h;cases h
 | succ n ih =>
   intro o t x h h0;unfold JP at h;split at h;cases h;split at h;rw[List.mem_singleton.1 h] at h0;exact absurd rfl h0;rename_i hr;rcases List.mem_cons.1 h with rfl | h
   exact⟨t,o,Nat.le_refl _,hr,rfl⟩;obtain⟨u,o',h1,h2⟩:=ih _ _ _ h h0;refine⟨u,o',Nat.le_trans h1 ?_,h2⟩;simp only[List.length_drop];omega
def XH:∀(l acc:List LexS.Tok),acc.length<=2000->(Jc acc l).1.length<=2000/\∀x∈(Jc acc l).1,x∈acc\/x∈l/\x.1≠0:=by
 intro l
 induction l with
 | nil=>intro acc h;exact⟨h,λx hx=>.inl hx⟩
 | cons y l ih =>
   intro acc h;unfold Jc;split;exact⟨Nat.zero_le _,λx hx=>by cases hx⟩;split;exact⟨Nat.zero_le _,λx hx=>by cases hx⟩;rename_i h1 h2;obtain⟨a,b⟩:=ih (acc++[y]) (by simp only[List.length_append,List.length_singleton];omega);refine⟨a,λx hx=>?_⟩;rcases b x hx with hx | ⟨hx,h0⟩
   rcases List.mem_append.1 hx with hx | hx
   exact .inl hx;rw[List.mem_singleton.1 hx];exact .inr ⟨List.mem_cons_self ..,h2⟩;exact .inr ⟨List.mem_cons_of_mem _ hx,h0⟩
def Pp(s:ByteArray):Gl (Ff s)/\(Ff s).length<=2000:=by
 unfold Ff Mc;split;refine⟨?_,Nat.zero_le _⟩;intro t ht;cases ht;rename_i hs;obtain⟨a,b⟩:=XH (EH s.data.toList) [] (Nat.zero_le _);refine⟨?_,by rw[List.length_map];exact a⟩;intro t ht;obtain⟨x,hx,rfl⟩:=List.mem_map.1 ht;rcases b x hx with hx | ⟨hx,h0⟩
 cases hx;obtain⟨u,o',h1,h2,rfl⟩:=Z3 _ _ _ x hx h0;rw[List.length_drop] at h1;exact agC (by omega) h2
end Mo
end Go.Proofs.YtpbkhogolfegfaaGreatDoor
namespace Go.Proofs.YtpbkhogolfegfaaGreatDoor
open AI Go
namespace Mo
set_option maxRecDepth 100000
section
variable {α β:Type} {c:Nat} {f:α->Nat} {g:β->Nat}
def SU(c:Nat)(f:α->Nat)(m:Rd α):Prop:=∀⦃l:List Tk⦄ ⦃a:α⦄ ⦃s:List Tk⦄,m l=some (.inl a,s)->f a+s.length<=l.length+c
def BH{m:Rd α}{K:α->Rd β}(h1:SU c f m)(h2:∀a,SU (f a) g (K a)):SU c g (Cp m K):=by
 intro l b s h;rcases IL h with ⟨a,s',e1,e2⟩ | ⟨d,_,h⟩
 have a1:=h1 e1;have a2:=h2 a e2;omega;cases h
def DY{a:α}(h:f a<=c):SU c f (Fw a):=by
 intro l b s e;obtain⟨e1,rfl⟩:=KV e;cases e1;omega
def IF{e p:Int}:SU c f (L2 e p):=by
 intro l b s h;obtain⟨h,_⟩:=Ml h;cases h
def Mi{X:Option β}{K:β->Rd α}(h:∀b,X=some b->SU c f (K b)):SU c f (K4 X K):=by
 intro l a s e;obtain⟨b,hb,e⟩:=IQ e;exact h b hb e
def Yb{en:Int}{K:Tk->Rd α}(h:∀t,SU c f (K t)):SU c f (Ua en K):=by
 intro l a s e;cases l with
 | nil=>cases e
 | cons t l=>exact h t e
def Ro{K:Rd α}(h:SU (c+1) f K):SU c f (UC K):=by
 intro l a s e;cases l with
 | nil=>cases e
 | cons t l=>have:=h (l:=l) e;simp only[List.length_cons];omega
def Ce{b:Bool}{A B:Rd α}(h1:SU c f A)(h2:SU c f B):SU c f (cond b A B):=by cases b;exact h2;exact h1
def Vb{x:ByteArray}{A B:Rd α}(h1:SU (c+1) f A)(h2:SU c f B):SU c f (ND x A B):=by
 intro l a s e;unfold ND at e;cases hx:IW x l with
 | true=>rw[hx] at e;exact Ro h1 e
 | false=>rw[hx] at e;exact h2 e
def U9{n:Nat}{m:Rd α}(h:SU c f m):SU c f (NX n m):=λ_ _ _ e=>h (Nk e).2
def SU.le{c':Nat}{m:Rd α}(h:SU c f m)(hc:c<=c'):SU c' f m:=λ_ _ _ e=>by have:=h e;omega
end
section
variable {c:Nat} {en:Int}
def LD{f:Tk->Option Bool}:SU c (λ_=>c+1) (KZ en f):=Yb λt=>Mi λb _=>Ce (Ro (DY (Nat.le_refl _))) IF
def Gr{x:ByteArray}:SU c (λ_=>c+1) (I9 en x):=LD
def ZK:SU c (λ_=>c+1) (MD en):=BH LD λt=>Mi λn _=>DY (Nat.le_refl _)
def Po{least:Int}:SU c (λ_=>c+1) (Lm en least):=BH ZK λp=>Ce IF (Ce IF (DY (Nat.le_refl _)))
def Ww{least:Int}:SU c (λ_=>c+1) (TQ en least):=BH LD λt=>Mi λd _=>Ce (Ce IF (DY (Nat.le_refl _))) IF
def H5(k:Int)(nm u:ByteArray)(n:Int)(ks:List Nd)(p:Int):DM (EP k nm u n ks p)=1+GD ks:=rfl
def Oj(n:Nd):GD [n]=DM n:=by simp[GD]
def Yd(l m:List Nd):GD (l++m)=GD l+GD m:=by
 induction l with
 | nil=>simp[GD]
 | cons a l ih=>simp only[List.cons_append,GD,ih];omega
def anU:SU c (λn=>DM n+c) (Zm en) :=
 BH Gr λt=>BH Po λn=>BH Gr λ_=>BH Ww λf =>
   Vb (BH Ww λu=>BH Gr λ_=>BH Ww λk=>DY (by show 1+GD []+c<=_;simp only[GD];omega)) (BH Gr λ_=>BH Ww λk=>DY (by show 1+GD []+c<=_;simp only[GD];omega))
def rV:SU c (λn=>DM n+c) (TS en) :=
 Yb λt=>Ro (BH LD λm=>BH Gr λ_=>BH LD λu=>Ce (BH LD λr=>Mi λn _=>BH Gr λ_=>DY (by rw[H5];simp only[GD];omega)) (BH Gr λ_=>DY (by rw[H5];simp only[GD];omega)))
def Sz:SU c (λn=>DM n+c) (F7 en):=BH Po λp=>DY (by rw[H5];simp only[GD];omega)
def anW{read:Rd Nd}(hr:∀c,SU c (λn=>DM n+c) read):∀(q:Nat) (ns:List Nd) (c:Nat),SU (GD ns+c) (λr=>GD r+c) (Qs read q ns):=by
 intro q
 induction q with
 | zero=>intro ns c l a s h;cases h
 | succ q ih =>
   intro ns c;refine Vb (BH (hr _) λn=>U9 ((ih (ns++[n]) c).le ?_)) (DY (Nat.le_refl _));rw[Yd,Oj];omega
def rW{read:Rd Nd}(hr:∀c,SU c (λn=>DM n+c) read):SU c (λr=>GD r+c) (Re read) :=
 BH (hr c) λn l a s h=>by
   have:=anW hr _ [n] c h;rw[Oj] at this;exact this
def Yc:SU c (λ_=>c+1) (NM en):=BH LD λt=>Mi λd _=>Ce (Ce (DY (Nat.le_refl _)) IF) (DY (Nat.le_refl _))
def anX:SU c (λ_=>c+1) (VL en):=BH LD λt=>Ce (DY (Nat.le_refl _)) (DY (Nat.le_refl _))
def ZM{Ax a b:Int}:SU c (λ_=>c) (Oe en Ax a b):=BH anX λs=>BH Po λm=>BH Gr λ_=>BH Po λd=>Mi λg _=>Mi λz _=>Ce IF (DY (by omega))
def SU.imp{α:Type}{f f':α->Nat}{m:Rd α}(h:SU c f m)(hf:∀a,f' a<=f a):SU c f' m:=λ_ a _ e=>by have:=h e;have:=hf a;omega
def ZL{Ax a:Int}:SU c (λ_=>c) (MI en Ax a):=BH Gr λ_=>Vb (BH Yc λa=>ZM.imp λ_=>by omega) (BH Yc λa=>ZM.imp λ_=>by omega)
def afO{before:List Pt}{Ax:Int}:SU c (λ_=>c) (Ri en before Ax):=BH Yc λv=>Ce (Ce (ZL.imp λ_=>by omega) IF) (Mi λq _=>Ce IF (Ce IF (ZL.imp λ_=>by omega)))
def wB:∀(q:Nat) (l:List Pt) (k:Int) (c:Nat),SU c (λ_=>c) (Lx en q l k):=by
 intro q
 induction q with
 | zero=>intro l k c _ _ _ h;cases h
 | succ q ih=>intro l k c;exact BH afO λp=>U9 (Vb ((ih _ _ _).imp λ_=>by omega) (DY (Nat.le_refl _)))
def wC{k p:Int}:∀(l:List Pt) (acc:List Pc),SU c (λ_=>c) (LC k p l acc):=by
 intro l
 induction l with
 | nil=>intro acc;exact DY (Nat.le_refl _)
 | cons x l ih=>intro acc;exact Mi λz _=>Ce IF (Ce IF (U9 (ih _)))
def tR{op:ByteArray}{l r x:Nd}(h:A7 op l r=some x):DM x=1+DM l+DM r:=by
 unfold A7 at h;revert h;have e1:∀(nm:ByteArray) (a b:Nd) (p:Int),DM (⟨16,nm,ByteArray.empty,0,0,0,0,⟨0,[]⟩,[a,b],p⟩:Nd)=1+DM a+DM b:=by intro nm a b p;simp only[DM,GD];omega
 cases BY op.data.toList JO.data.toList;cases BY op.data.toList Hc.data.toList;intro h1;cases h1;exact e1 _ _ _ _;cases Jl op JO Kv 1 with
 | none=>intro h1;cases h1
 | some y=>intro h1;cases h1;rw[e1];omega
 cases Jl op JO Kv 1 with
 | none=>intro h1;cases h1
 | some y=>intro h1;cases h1;rw[e1];omega
def asB{α:Type}{f:α->Nat}{yes:ByteArray->Rd α}{no:Rd α}(h1:∀x,SU (c+1) f (yes x))(h2:SU c f no):∀ops:List ByteArray,SU c f (kO yes no ops):=by
 intro ops
 induction ops with
 | nil=>exact h2
 | cons x ops ih=>exact Vb (h1 x) ih
def iZ{sub:Rd Nd}(h:∀c,SU c (λn=>DM n+c) sub)(op:ByteArray)(l:Nd):SU (DM l+c+1) (λn=>DM n+c) (P5 en sub op l) :=
 BH (Ce Sz (h _)) λr=>Mi λx hx=>DY (by rw[tR hx];omega)
def afM{ops:List ByteArray}{sub:Rd Nd}(h:∀c,SU c (λn=>DM n+c) sub):∀(q:Nat) (l:Nd) (c:Nat),SU (DM l+c) (λn=>DM n+c) (KB en ops sub q l):=by
 intro q
 induction q with
 | zero=>intro l c _ _ _ h;cases h
 | succ q ih=>intro l c;exact asB (λx=>BH (iZ h x l) λb=>ih b c) (DY (Nat.le_refl _)) ops
structure Siz(g:Ek->Rd Nd)(li:Rd (List Nd)):Prop where
 sg:∀e c,SU c (λn=>DM n+c) (g e)
 sli:∀c,SU c (λr=>GD r+c) li
def anP:∀q:Nat,Siz (gP en q).1 (gP en q).2:=by
 intro q
 induction q with
 | zero =>
   constructor;intro e c _ _ _ h;cases h;intro c _ _ _ h;cases h
 | succ q A =>
   refine⟨λe c=>?_,λc=>rW (A.sg .ex)⟩;show SU c (λn=>DM n+c) (Oh en (gP en q).1 (gP en q).2 e);have lv:∀i,SU c (λn=>DM n+c) (Ni en (gP en q).1 i):=λi=>BH (A.sg _ _) λN l a s h=>afM (A.sg _) _ N c h;unfold Oh;split;exact A.sg _ _
   · intro l a s h
     unfold XP at h;cases hx:IW T5 l with
     | true =>
       rw[hx] at h;exact BH (g:=λn=>DM n+c) Gr (λt=>BH (A.sg _ _) λk=>DY (by rw[H5,Oj];omega)) h
     | false=>rw[hx] at h;exact A.sg _ _ h
   exact BH (A.sg _ _) λN=>asB (λx=>iZ (A.sg _) x N) (DY (Nat.le_refl _)) _;exact A.sg _ _;exact lv _;refine Yb λt=>Ce (BH ZK λn=>Vb (DY (by rw[H5];simp only[GD];omega)) (DY (by rw[H5];simp only[GD];omega))) (Ce (Ro (BH LD λa=>Mi λz _=>DY (by rw[H5];simp only[GD];omega))) (Mi λb _=>Ce (Ro (DY (by rw[H5];simp only[GD];omega))) (A.sg _ _)));have one:∀(k:Int) (nm u:ByteArray) (n p:Int),SU c (λn=>DM n+c) (UC (Fw (EP k nm u n [] p))):=λ_ _ _ _ _=>Ro (DY (by rw[H5];simp only[GD];omega))
   exact Ce (one _ _ _ _ _) (Ce (one _ _ _ _ _) (Ce (Ro (BH Po λp=>DY (by rw[H5];simp only[GD];omega))) (Ce (one _ _ _ _ _) (Ce (one _ _ _ _ _) (Ce (one _ _ _ _ _) (Ce (one _ _ _ _ _) (Ce (A.sg _ _) (Ce (A.sg _ _) (Ce (A.sg _ _)
     (Ce (Ro (BH (A.sg _ _) λa=>BH Gr λ_=>DY (by omega))) IF))))))))))
   exact Yb λt=>Ro (BH Gr λ_=>BH (A.sg _ _) λa=>BH Gr λ_=>BH (A.sli _) λl=>U9 (BH Gr λ_=>DY (by rw[H5];simp only[GD];omega)));exact BH Gr λt=>BH Gr λ_=>BH (A.sg _ _) λa=>BH Gr λ_=>BH (λl a s h=>wB _ _ _ _ h) λl=>BH Gr λe=>U9 (BH (wC _ _) λr=>DY (by show 1+GD [a]+c<=DM a+(c+1+1)+1+1;rw[Oj];omega))
def asA:SU c (λn=>DM n+c) (OS en):=λ_ _ _ h=>(anP _).sg .ex c h
def wA(kind:Int):SU c (λn=>DM n+c) (Js en (OS en) kind) :=
 Yb λt=>Ro (Ce (BH (rW λc=>Sz) λl=>BH Gr λ_=>DY (by rw[H5];omega)) (BH asA λe=>BH Gr λ_=>DY (by rw[H5,Oj];omega)))
def afN{mk:List Nd->Nd}(hm:∀l,DM (mk l)=1+GD l):∀(q:Nat) (ns:List Nd) (un am:Bool) (c:Nat),SU (GD ns+c+1) (λn=>DM n+c) (ID en (OS en) mk q ns un am):=by
 intro q
 induction q with
 | zero=>intro ns un am c _ _ _ h;cases h
 | succ q ih =>
   intro ns un am c
   have go:∀(kind:Int) (dP dC:Bool),SU (GD ns+c+1) (λn=>DM n+c) (Cp (Js en (OS en) kind) λx=>NX (ns.length+1) (ID en (OS en) mk q (ns++[x]) dP dC)):=λkind dP dC =>
     BH (wA kind) λx=>U9 ((ih (ns++[x]) dP dC c).le (by rw[Yd,Oj];omega))
   exact Yb λt=>Ce (go _ _ _) (Ce (Ce IF (go _ _ _)) (Ce (Ce IF (go _ _ _)) (Ce (Ce (Ro (DY (by rw[hm];omega))) IF) IF)))
def anV:SU c (λn=>DM n+c) (Rc en (OS en)) :=
 Yb λt=>Ce rV (Ce rV (Ce (BH Gr λt=>BH Po λn=>BH Gr λ_=>BH LD λm=>BH anU λh=>BH Gr λ_=>λl a s e=>by
   have:=afN (λl=>rfl) _ [h] false false c e;rw[Oj] at this;dsimp only at this ⊢;omega) IF))
end
def ahC(a b:Nat):ayJ (a:Int) (b:Int)=((max a b:Nat):Int):=by
 unfold ayJ;split<;>omega
def atH:∀n:Nd,N3 n<=DM n:=by
 intro n
 have key:∀(q:Nat) (n:Nd),DM n<=q->N3 n<=DM n:=by
   intro q
   induction q with
   | zero=>intro n h;rw[Ev] at h;omega
   | succ q ih =>
     intro n h;rw[M7,Ev];have:dF n.kids<=GD n.kids:=W9.2 λk hk=>Nat.le_trans (ih k (by have:=RJ hk;omega)) (KY hk);omega
 exact key _ n (Nat.le_refl _)
def vB:∀(q:Nat) (n:Nd),DM n<=q->DM n<=1000000->Dk q n=some (((DM n:Nat):Int),((N3 n:Nat):Int)):=by
 intro q
 induction q with
 | zero=>intro n h;have:=Ev n;omega
 | succ q ih =>
   intro n hq hz;have hsz:=Ev n;rw[Dk,Jw];rw[show Sx n.kids.length=λy:Option ((Int×Int)⊕(Int×Int))=>y from funext λy=>if_pos (by have:=Oi n.kids;omega),List.drop_zero]
   have key:∀(m:List Nd),(∀k∈m,k∈n.kids)->∀(i c d:Nat),c+GD m<=1000000->Dh (ρ:=Int×Int) (λi y x=>FC (Dk q) i y x.1 x.2) (λx=>(x.1,x.2)) m i ((c:Int),(d:Int))=some (.inl (((c+GD m:Nat):Int),((max d (dF m):Nat):Int))):=by
     intro m
     induction m with
     | nil=>intro _ i c d _;simp[Dh,GD,dF]
     | cons a m ihm =>
       intro hm i c d hc;simp only[GD] at hc;have ha:=hm a (List.mem_cons_self ..);rw[Dh,FC,ih a (by have:=KY ha;omega) (by have:=KY ha;omega),Option.bind_some];dsimp only;rw[G3 (by omega),ahC];have:=ihm (λk hk=>hm k (List.mem_cons_of_mem _ hk)) (i+1) (c+DM a) (max d (N3 a)) (by omega);rw[Option.bind_some];dsimp only[Q8];rw[show(c:Int)+(DM a:Int)=((c+DM a:Nat):Int) by omega,this];simp only[GD,dF,Nat.add_assoc,Nat.max_assoc]
   have h1:=key n.kids (λ_ h=>h) 0 1 0 (by omega);have h1:Dh (ρ:=Int×Int) (λi y x=>FC (Dk q) i y x.1 x.2) (λx=>(x.1,x.2)) n.kids 0 (1,0)=some (.inl (((1+GD n.kids:Nat):Int),((max 0 (dF n.kids):Nat):Int))):=h1;rw[h1,Option.bind_some];dsimp only[PD];have hd:=M7 n;have hd2:=atH n;rw[G3 (by omega),hsz,hd];congr 2;omega
def Zr{n:Nd}(hz:DM n<=1000000):Dj n=some (if 2000 < DM n\/40 < N3 n then (z0,[⟨2,0⟩]) else (n,[])):=by
 have:Ll n=some (((DM n:Nat):Int),((N3 n:Nat):Int)):=SM (DM n) λq hq=>vB q n hq hz;unfold Dj;rw[this,Option.bind_some];dsimp only;by_cases h1:2000 < DM n;rw[Nl (by omega),if_pos (.inl h1)];rfl;rw[Kk (by omega)];by_cases h2:40 < N3 n;rw[Nl (by omega),if_pos (.inr h2)];rfl;rw[Kk (by omega),if_neg (by omega)];rfl
end Mo
end Go.Proofs.YtpbkhogolfegfaaGreatDoor
namespace Go.Proofs.YtpbkhogolfegfaaGreatDoor
open AI Go
namespace Mo
set_option maxRecDepth 100000
def alG(n:Nd):Nd×List Dg:=if 2000 < DM n\/40 < N3 n then (z0,[⟨2,0⟩]) else (n,[])
def axX{en:Int}:∀(q:Nat) (l:List Tk) (ks:List Nd) (ds:List Dg) (r:List Nd×List Dg),Gl l->l.length<=10000->QL en q l ks ds=some r->GD r.1<=GD ks+l.length/\r.2.length<=max 20 ds.length:=by
 intro q
 induction q with
 | zero=>intro l ks ds r _ _ h;cases h
 | succ q ih =>
   intro l ks ds r hg hl h;cases l with
   | nil=>cases h;exact⟨by dsimp only;omega,by dsimp only;omega⟩
   | cons t l =>
     unfold QL at h;cases hd:EK ((ds.length:Nat):Int) 20 with
     | false=>rw[hd] at h;cases h;exact⟨by dsimp only;omega,by dsimp only;omega⟩
     | true =>
       rw[hd] at h;dsimp only[cond] at h;have hd:=XM hd;split at h;cases h;rename_i n s hi;have a:=anV (c:=0) hi;obtain⟨⟨k,rfl⟩,_,_⟩:=MW hg hl hi;have b:=ih _ _ _ _ (hg.drop k) (by rw[List.length_drop];omega) h;rw[Yd,Oj] at b;exact⟨by dsimp only at a;omega,b.2⟩;rename_i d s hi;obtain⟨⟨k,rfl⟩,h2,_⟩:=MW hg hl hi;obtain⟨j,hj⟩:=Pn ((t::l).drop k);have hl2:l.length<=10000:=by simp only[List.length_cons] at hl;omega
       have b:=ih _ _ _ _ (by rw[hj];exact(hg.drop k).drop j) (by omega) h;simp only[List.length_append,List.length_singleton] at b;simp only[List.length_cons];exact⟨by omega,by omega⟩
def asX(ks:List Nd):List Dg->Nd×List Dg
 | []=>alG (Jm ks)
 | ds=>(z0,ds)
def bV{s:ByteArray}(h:UX s=0):∃ks ds,QL ((s.data.toList.length:Nat):Int) ((Ff s).length+1) (Ff s) [] []=some (ks,ds)/\CV s=some (asX ks ds)/\GD ks<=2000/\ds.length<=20:=by
 obtain⟨hg,hl⟩:=Pp s;obtain⟨ks,ds,h1,h2⟩:=vM h hg (by omega);have h3:=axX _ _ _ _ _ hg (by omega) h1;simp only[GD,List.length_nil] at h3;refine⟨ks,ds,h1,?_,by omega,by omega⟩;rw[h2];cases ds with
 | nil =>
   rw[Kk (by simp)];exact Zr (by have:=Ev (Jm ks);simp only[Jm] at this;rw[show DM (Jm ks)=1+GD ks from rfl];omega)
 | cons d ds =>
   rw[Nl (by simp only[List.length_cons];omega)];rfl
def asW:(Nd⊕Dg)×List Tk->Nd×List Dg
 | (.inl n,[])=>alG n
 | (.inl _,t::_)=>(z0,[⟨71,t.AF⟩])
 | (.inr d,_)=>(z0,[d])
def qZ{s:ByteArray}(h:UX s=0):∃r l,OS ((s.data.toList.length:Nat):Int) (Ff s)=some (r,l)/\Dd s=some (asW (r,l)):=by
 obtain⟨hg,hl⟩:=Pp s;obtain⟨r,l,h1,_⟩:=asE (en:=((s.data.toList.length:Nat):Int)) (n:=(Ff s).length) (by omega) hg (Nat.le_refl _);refine⟨r,l,h1,?_⟩;obtain⟨k',a1,a2,rfl,a4⟩:=pB (by omega) hg (Nat.zero_le _) (by rw[List.drop_zero];exact h1);unfold Dd Ki;rw[Option.bind_some];dsimp only;rw[N5 (by unfold UX at h;omega)];dsimp only[cond];have a4:Fq ⟨List.map OG (LexS.Mc s.data.toList).fst,0,((s.data.toList.length:Nat):Int)⟩=some (r,(k':Int)):=a4;unfold J4 GO;rw[a4,Option.bind_some];cases r with
 | inr d=>rfl
 | inl n =>
   dsimp only[Sum.elim];rcases I8 (Ff s) a2 with ⟨h2,h3⟩ | ⟨t,h2,h3,h4⟩
   rw[h3,Kk (by show((List.map OG (LexS.Mc s.data.toList).fst).length:Int)<=_;unfold Ff at h2;omega)];dsimp only[cond,Option.bind,agF]
   have hz:DM n<=1000000:=by
     have:=asA (c:=0) h1;dsimp only at this;omega
   have:=Zr hz;rw[this];rfl;rw[h4,Nl (by show _ < ((List.map OG (LexS.Mc s.data.toList).fst).length:Int);unfold Ff at h2;omega)];dsimp only[cond]
   have hgt:L9 (List.map OG (LexS.Mc s.data.toList).fst) (k':Int)=some t:=by
     unfold L9;rw[if_pos (by omega),Int.toNat_natCast];exact h3
   rw[hgt];rfl
end Mo
end Go.Proofs.YtpbkhogolfegfaaGreatDoor
namespace Go.Proofs.YtpbkhogolfegfaaGreatDoor
open AI Go LexS
namespace Mo
set_option maxRecDepth 100000
structure Gy(t:Tk):Prop where
 name:t.kind=1->(1<=t.text.data.toList.length/\t.text.data.toList.length<=16)/\(∃b,t.text.data.toList[0]?=some b/\97<=b.toNat/\b.toNat<=122)/\∀c∈t.text.data.toList,sX c
 cur:t.kind=2->tX t.text
def Wc:∀n < 128,((Q4 n &&& 26)≠0->(97<=n/\n<=122)\/(48<=n/\n<=57)\/n=95)/\((Q4 n &&& 4)≠0->65<=n/\n<=90)/\((Q4 n &&& 2)≠0->97<=n/\n<=122):=by decide
def Wb{m:Nat}{c:UInt8}(h:cin m c=true):c.toNat < 128/\(Q4 c.toNat &&& m)≠0:=by
 unfold cin at h;refine⟨?_,by simpa using h⟩
 by_cases hc:c.toNat < 128;exact hc;rw[aJ _ (by omega)] at h;simp at h
def iW(m:Nat)(t:List UInt8):∀c∈t.take (BU m t),cin m c=true:=by
 unfold BU
 induction t with
 | nil=>intro c hc;cases hc
 | cons x t ih =>
   intro c hc;rw[List.takeWhile_cons] at hc;split at hc;rename_i hx;rw[List.length_cons,List.take_succ_cons] at hc;rcases List.mem_cons.1 hc with rfl | hc
   exact hx;exact ih c hc;cases hc
def axW{t:List UInt8}{o:Nat}:Gy (OG ((BL t).1,t.take (BL t).2,o)):=by
 by_cases c2:K3 2 t=true;by_cases hc:BU 30 t<=16/\BU 26 t=BU 30 t;have hr:BL t=(1,BU 30 t):=by unfold BL;rw[if_pos c2,if_pos hc]
 rw[hr];refine⟨λ_=>?_,λh=>?_⟩;obtain⟨c,u,rfl,azY⟩:=TZ c2
 have hp:1<=BU 26 (c::u):=by
   rw[NH,if_pos (by
     obtain⟨a,b⟩:=Wb azY;have:=(Wc _ a).2.2 b;unfold cin;have:∀n < 128,(Q4 n &&& 2)≠0->((Q4 n &&& 26) != 0)=true:=by decide
     exact this _ a b)]
   omega
 have hsp:=X8 30 (c::u);dsimp only[OG];refine⟨⟨by rw[List.length_take];omega,by rw[List.length_take];omega⟩,⟨c,?_,?_⟩,λx hx=>?_⟩;rw[List.getElem?_take_of_lt (by omega)];rfl;obtain⟨a,b⟩:=Wb azY;exact(Wc _ a).2.2 b;rw[<- hc.2] at hx;obtain⟨a,b⟩:=Wb (iW 26 _ x hx);exact(Wc _ a).1 b;have:(((1:Nat)):Int)=2:=h;omega;have hr:BL t=(0,0):=by unfold BL;rw[if_pos c2,if_neg hc]
 rw[hr];exact⟨λh=>by have:(((0:Nat)):Int)=1:=h;omega,λh=>by have:(((0:Nat)):Int)=2:=h;omega⟩;by_cases c4:K3 4 t=true;by_cases hc:BU 30 t=3/\BU 4 t=BU 30 t;have hr:BL t=(2,BU 30 t):=by unfold BL;rw[if_neg c2,if_pos c4,if_pos hc]
 rw[hr];refine⟨λh=>by have:(((2:Nat)):Int)=1:=h;omega,λ_=>?_⟩;have hsp:=X8 30 t;unfold tX;dsimp only[OG];refine⟨by rw[List.length_take];omega,λx hx=>?_⟩;rw[<- hc.2] at hx;obtain⟨a,b⟩:=Wb (iW 4 _ x hx);exact(Wc _ a).2.1 b;have hr:BL t=(0,0):=by unfold BL;rw[if_neg c2,if_pos c4,if_neg hc]
 rw[hr];exact⟨λh=>by have:(((0:Nat)):Int)=1:=h;omega,λh=>by have:(((0:Nat)):Int)=2:=h;omega⟩
 have:(BL t).1≠1/\(BL t).1≠2:=by
   unfold BL;rw[if_neg c2,if_neg c4];split
   · unfold KD
     dsimp only
     repeat' split
     all_goals simp
   rcases RI t Gf with h | h<;>omega
 exact⟨λh=>absurd (show(((BL t).1:Nat):Int)=1 from h) (by omega),λh=>absurd (show(((BL t).1:Nat):Int)=2 from h) (by omega)⟩
def Gx(l:List Tk):Prop:=∀t∈l,Gd t/\Gy t
def rZ(s:ByteArray):Gx (Ff s):=by
 intro t ht;refine⟨(Pp s).1 t ht,?_⟩;unfold Ff Mc at ht;split at ht;cases ht;obtain⟨a,b⟩:=XH (EH s.data.toList) [] (Nat.zero_le _);obtain⟨x,hx,rfl⟩:=List.mem_map.1 ht;rcases b x hx with hx | ⟨hx,h0⟩
 cases hx;obtain⟨u,o',h1,h2,rfl⟩:=Z3 _ _ _ x hx h0;exact axW
section
variable {α β:Type} {P:α->Prop} {P2:β->Prop}
def Va(P:α->Prop)(m:Rd α):Prop:=∀⦃l:List Tk⦄ ⦃a:α⦄ ⦃s:List Tk⦄,Gx l->m l=some (.inl a,s)->P a/\Gx s
def BI{m:Rd α}{K:α->Rd β}(h1:Va P m)(h2:∀a,P a->Va P2 (K a)):Va P2 (Cp m K):=by
 intro l b s hg h;rcases IL h with ⟨a,s',e1,e2⟩ | ⟨d,_,h⟩
 obtain⟨pa,hg⟩:=h1 hg e1;exact h2 a pa hg e2;cases h
def DL{a:α}(h:P a):Va P (Fw a):=by
 intro l b s hg e;obtain⟨e1,rfl⟩:=KV e;cases e1;exact⟨h,hg⟩
def IH{e p:Int}:Va P (L2 e p):=by
 intro l b s _ h;obtain⟨h,_⟩:=Ml h;cases h
def NL{X:Option β}{K:β->Rd α}(h:∀b,X=some b->Va P (K b)):Va P (K4 X K):=by
 intro l a s hg e;obtain⟨b,hb,e⟩:=IQ e;exact h b hb hg e
def jI{en:Int}{K:Tk->Rd α}(h:∀t,Gd t/\Gy t->Va P (K t)):Va P (Ua en K):=by
 intro l a s hg e;cases l with
 | nil=>cases e
 | cons t l=>exact h t (hg t (List.mem_cons_self ..)) hg e
def Pq{K:Rd α}(h:Va P K):Va P (UC K):=by
 intro l a s hg e;cases l with
 | nil=>cases e
 | cons t l=>exact h (λt ht=>hg t (List.mem_cons_of_mem _ ht)) e
def DD{b:Bool}{A B:Rd α}(h1:b=true->Va P A)(h2:b=false->Va P B):Va P (cond b A B):=by cases b;exact h2 rfl;exact h1 rfl
def Vh{x:ByteArray}{A B:Rd α}(h1:Va P A)(h2:Va P B):Va P (ND x A B):=by
 intro l a s hg e;unfold ND at e;cases hx:IW x l with
 | true=>rw[hx] at e;exact Pq h1 hg e
 | false=>rw[hx] at e;exact h2 hg e
def Vg{n:Nat}{m:Rd α}(h:Va P m):Va P (NX n m):=λ_ _ _ hg e=>h hg (Nk e).2
def Va.imp{P':α->Prop}{m:Rd α}(h:Va P m)(f:∀a,P a->P' a):Va P' m:=λ_ a _ hg e=>⟨f a (h hg e).1,(h hg e).2⟩
end
section
variable {en:Int}
def LF{f:Tk->Option Bool}:Va (λt=>(Gd t/\Gy t)/\f t=some true) (KZ en f) :=
 jI λt ht=>NL λb hb=>DD (λh=>Pq (DL ⟨ht,by rw[hb,h]⟩)) λ_=>IH
def Gs{x:ByteArray}:Va TT (I9 en x):=LF.imp λ_ _=>trivial
def Wm{t:Tk}(hg:Gd t/\Gy t)(h:Cr t=some true):Qt t.text:=by
 unfold Cr at h;rw[acJ] at h;cases hk:DV t.kind 1 with
 | false=>rw[hk] at h;cases h
 | true =>
   rw[hk] at h;obtain⟨h1,h2,h3⟩:=hg.2.name (Fo hk);refine⟨h1,h2,λhm=>?_,h3⟩;rw[Db.2 hm] at h;cases h
def sC{t:Tk}(hg:Gd t/\Gy t)(h:EQ t=some true):Un t.text:=by
 unfold EQ at h;cases h1:BY t.text.data.toList GH.data.toList with
 | true=>exact .inl (N4 h1)
 | false =>
   rw[h1] at h;cases h2:BY t.text.data.toList Ep.data.toList with
   | true=>exact .inr (.inl (N4 h2))
   | false =>
     rw[h2] at h;cases h3:BY t.text.data.toList Je.data.toList with
     | true=>exact .inr (.inr (.inl (N4 h3)))
     | false =>
       rw[h3] at h;exact .inr (.inr (.inr (hg.2.cur (Fo (PS h).symm))))
def ZV:Va (λp:Int×Int=>0<=p.1/\p.1<=999999999999) (MD en):=by
 refine BI LF λt ht=>NL λn hn=>DL ?_;obtain⟨z,h1,h2⟩:=ht.1.1.num (Fo (PS ht.2).symm);rw[h1] at hn;cases hn;exact h2
def Pu(least:Int):Va (λp:Int×Int=>least<=p.1/\p.1<=1000000) (Lm en least) :=
 BI ZV λp _=>DD (λ_=>IH) λh1=>DD (λ_=>IH) λh2=>DL ⟨Kj h1,Kj h2⟩
def WA(least:Int):Va (λd:Int=>least<=d/\0<=d/\d<=36524) (TQ en least):=by
 refine BI LF λt ht=>NL λd hd=>DD (λh=>DD (λ_=>IH) λh3=>DL ⟨Kj h3,?_⟩) λ_=>IH;obtain⟨d',e,h1,h2⟩:=ht.1.1.date (Fo (PS ht.2).symm);rw[h1] at hd;cases hd;exact h2 (Fo h)
def aoY:Va Qo (Zm en):=by
 have mk:∀{n f u k p:Int},(0<=n/\n<=1000000)->(0<=f/\f<=36524)->(f < u/\u<=36525)->(0<=k/\k<=36524)->Qo ⟨5,bE,bE,n,f,u,k,⟨0,[]⟩,[],p⟩ :=
   λh1 h2 h3 h4=>⟨rfl,h1,rfl,h2,h3,h4,rfl,rfl,rfl,rfl,rfl,rfl,rfl,rfl⟩
 exact BI Gs λt _=>BI (Pu _) λn hn=>BI Gs λ_ _=>BI (WA _) λf hf =>
   Vh (BI (WA _) λu hu=>BI Gs λ_ _=>BI (WA _) λk hk=>DL (mk hn hf.2 ⟨by have:=hu.1;rw[G3 (by have:=hf.2;omega)] at this;omega,by have:=hu.2;omega⟩ hk.2))
     (BI Gs λ_ _=>BI (WA _) λk hk=>DL (mk hn hf.2 ⟨by have:=hf.2;omega,by omega⟩ hk.2))
def amU{x:ByteArray}{n:Int}(h:Ef x=some n):0<=n/\n<=4:=by
 unfold Ef at h;revert h;cases BY Si.data.toList x.data.toList;cases BY Ls.data.toList x.data.toList;cases BY OA.data.toList x.data.toList;cases BY Sw.data.toList x.data.toList<;>(intro h;cases h;decide)
 intro h;cases h;decide;intro h;cases h;decide;intro h;cases h;decide
def sM:Va Ib (TS en):=by
 refine jI λt _=>Pq (BI LF λm hm=>BI Gs λ_ _=>BI LF λu hu=>DD (λ_=>BI LF λr hr=>NL λn hn=>BI Gs λ_ _=>DL (.inr (.inl ?_))) λ_=>BI Gs λ_ _=>DL (.inl ?_));have h1:=amU hn
 have h2:0 < n:=by
   have h:=hr.2;unfold BS at h;rw[hn] at h;exact XM (by cases hq:EK 0 n with | true=>rfl | false=>(simp only[Option.bind_some,hq,cond_false] at h;cases h))
 exact⟨rfl,Wm hm.1 hm.2,sC hu.1 hu.2,(by omega:1<=n),h1.2,rfl,rfl,rfl,rfl,rfl,rfl,rfl,rfl,rfl⟩;exact⟨rfl,Wm hm.1 hm.2,sC hu.1 hu.2,rfl,rfl,rfl,rfl,rfl,rfl,rfl,rfl,rfl⟩
end
end Mo
end Go.Proofs.YtpbkhogolfegfaaGreatDoor
namespace Go.Proofs.YtpbkhogolfegfaaGreatDoor
open AI Go LexS
namespace Mo
set_option maxRecDepth 100000
section
variable {en:Int}
def Yq:Va (λp:Int×Int=>0<=p.1/\p.1<=999999999999) (NM en):=by
 refine BI LF λt ht=>NL λc hc=>?_
 have hk:t.kind=3\/t.kind=4:=by
   have h:=ht.2;unfold C6 at h;cases h4:DV t.kind 4 with
   | true=>exact .inr (Fo h4)
   | false =>
     rw[h4] at h;exact .inl (Fo (PS h).symm)
 obtain⟨z,h1,h2⟩:=ht.1.1.oU hk;rw[h1] at hc;cases hc;exact DD (λ_=>DD (λ_=>DL h2) λ_=>IH) λ_=>DL h2
def apC:Va (λs:Int=>s=1\/s=-1) (VL en):=BI LF λt _=>DD (λ_=>DL (.inr rfl)) λ_=>DL (.inl rfl)
def avW{Ax d g z:Int}(hc:1<=Ax/\Ax<=1000000)(hd:1<=d/\d<=1000000)(h1:aaQ Ax d=some g)(h2:RX Ax g=some z):1<=BM z d:=by
 obtain⟨g',e1,kL,⟨c1,h3⟩,_⟩:=aaS hc.1 (show(0:Int)<=d by omega);rw[h1] at e1;cases e1;rw[Xa (by omega) (by omega) (by omega)] at h2;cases h2;have hq:Ax / g=c1:=by rw[h3,Int.mul_ediv_cancel_left _ (by omega)]
 have hc1:1<=c1:=by
   by_cases h:1<=c1;exact h;have:=Int.mul_nonpos_of_nonneg_of_nonpos (show 0<=g by omega) (show c1<=0 by omega);omega
 have hc2:c1<=1000000:=by
   have:=Int.mul_le_mul_of_nonneg_right kL (show 0<=c1 by omega);omega
 rw[hq];have a1:=Int.mul_le_mul hc2 hd.2 (by omega) (by omega);have a2:=Int.mul_nonneg (show 0<=c1 by omega) (show 0<=d by omega);rw[Ir (by omega)];have:=Int.mul_le_mul_of_nonneg_right hc1 (show 0<=d by omega);omega
def PtP(before:List Pt)(x:Pt×Int):Prop:=(0<=x.1.fr/\x.1.fr<=999999999999)/\(before=[]->x.1.fr=0)/\(∀q,before[before.length - 1]?=some q->q.fr < x.1.fr)/\before.length<=63/\(-999999999999<=x.1.AF/\x.1.AF<=999999999999)/\1<=x.2/\x.2<=1000000
def ZX{Ax:Int}(hc:1<=Ax/\Ax<=1000000)(from_ a:Int):Va (λx:Pt×Int=>x.1.fr=from_/\x.1.AF=a/\1<=x.2/\x.2<=1000000) (Oe en Ax from_ a) :=
 BI apC λs hs=>BI (Pu _) λm hm=>BI Gs λ_ _=>BI (Pu _) λd hd=>NL λg hg=>NL λz hz=>DD (λ_=>IH) λh5=>DL ⟨rfl,rfl,avW hc hd hg hz,Kj h5⟩
def ZW{Ax:Int}(hc:1<=Ax/\Ax<=1000000)(from_:Int):Va (λx:Pt×Int=>x.1.fr=from_/\(-999999999999<=x.1.AF/\x.1.AF<=999999999999)/\1<=x.2/\x.2<=1000000) (MI en Ax from_) :=
 BI Gs λ_ _=>Vh (BI Yq λa ha=>(ZX hc _ _).imp λx hx=>⟨hx.1,by rw[hx.2.1,Ir (by omega)];omega,hx.2.2⟩) (BI Yq λa ha=>(ZX hc _ _).imp λx hx=>⟨hx.1,by rw[hx.2.1,Ir (by omega)];omega,hx.2.2⟩)
def agS(before:List Pt){Ax:Int}(hc:1<=Ax/\Ax<=1000000):Va (PtP before) (Ri en before Ax):=by
 refine BI Yq λv hv=>DD (λh=>DD (λh0=>(ZW hc _).imp λx hx=>?_) λ_=>IH) λh=>NL λq hq=>DD (λ_=>IH) λh1=>DD (λ_=>IH) λh2=>(ZW hc _).imp λx hx=>?_;have hn:before=[]:=List.eq_nil_of_length_eq_zero (by have:=Fo h;omega);have h0:=Fo h0;exact⟨by rw[hx.1];omega,λ_=>by rw[hx.1];exact h0,λq hq=>(by rw[hn] at hq;cases hq),by rw[hn];exact Nat.zero_le _,hx.2⟩;have h1:=acN h1;have h2:=acN h2;have hne:before≠[]:=λe=>Zd h (by rw[e];rfl);exact⟨by rw[hx.1];omega,λe=>absurd e hne,λq' kN=>(by rw[hq] at kN;cases kN;rw[hx.1];exact h1),by omega,hx.2⟩
def PLP(ps:List Pt):Prop:=(∀x,ps[0]?=some x->x.fr=0)/\∀(i:Nat) p,ps[i]?=some p->(0<=p.fr/\p.fr<=999999999999)/\(∀q,0 < i->ps[i - 1]?=some q->q.fr < p.fr)/\-999999999999<=p.AF/\p.AF<=999999999999
def rB{ps:List Pt}{x:Pt×Int}(h:PLP ps)(hx:PtP ps x):PLP (ps++[x.1]):=by
 obtain⟨a1,a2,a3,a4,a5,a6⟩:=hx
 have get:∀{i:Nat} {p:Pt},(ps++[x.1])[i]?=some p->(i < ps.length/\ps[i]?=some p)\/(i=ps.length/\p=x.1):=by
   intro i p hp;by_cases hi:i < ps.length;rw[List.getElem?_append_left hi] at hp;exact .inl ⟨hi,hp⟩;rw[List.getElem?_append_right (by omega)] at hp;cases hj:i - ps.length with
   | zero=>rw[hj] at hp;cases hp;exact .inr ⟨by omega,rfl⟩
   | succ j=>rw[hj] at hp;cases hp
 refine⟨λy hy=>?_,λi p hp=>?_⟩;rcases get hy with ⟨h1,h2⟩ | ⟨h1,rfl⟩
 exact h.1 y h2;exact a2 (List.eq_nil_of_length_eq_zero h1.symm);rcases get hp with ⟨h1,h2⟩ | ⟨rfl,rfl⟩
 obtain⟨b1,b2,b3⟩:=h.2 i p h2;refine⟨b1,λq hq YD=>?_,b3⟩;rcases get YD with ⟨_,h4⟩ | ⟨h3,_⟩
 exact b2 q hq h4;omega;refine⟨a1,λq hq YD=>?_,a5⟩;rcases get YD with ⟨_,h4⟩ | ⟨h3,_⟩
 exact a3 q h4;omega
def wN:∀(q:Nat) (ps:List Pt) (c:Int),1<=c/\c<=1000000->PLP ps->Va (λr:List Pt×Int=>PLP r.1/\(1<=r.1.length/\r.1.length<=64)/\1<=r.2/\r.2<=1000000) (Lx en q ps c):=by
 intro q
 induction q with
 | zero=>intro ps c _ _ _ _ _ _ h;cases h
 | succ q ih =>
   intro ps c hc hp;refine BI (agS ps hc) λx hx=>Vg (Vh (ih _ _ hx.2.2.2.2.2 (rB hp hx)) (DL ⟨rB hp hx,?_,hx.2.2.2.2.2⟩));have:=hx.2.2.2.1;simp only[List.length_append,List.length_singleton];omega
def wO{c p:Int}:∀(ps:List Pt) (acc:List Pc),Va (λr:List Pc=>∃out,r=acc++out/\out.length=ps.length/\∀(i:Nat) x,ps[i]?=some x->∃sl,out[i]?=some ⟨x.fr,BM x.AF c,sl⟩/\-1000000<=sl/\sl<=1000000) (LC c p ps acc):=by
 intro ps
 induction ps with
 | nil=>intro acc;exact DL ⟨[],by simp,rfl,λi x h=>by cases h⟩
 | cons y ps ih =>
   intro acc;refine NL λz _=>DD (λ_=>IH) λh1=>DD (λ_=>IH) λh2=>Vg ((ih _).imp λr hr=>?_);obtain⟨out,rfl,h3,h4⟩:=hr;refine⟨⟨y.fr,BM y.AF c,BM y.num z⟩::out,by simp,by simp[h3],λi x hx=>?_⟩;cases i with
   | zero=>cases hx;exact⟨_,rfl,Kj h2,Kj h1⟩
   | succ i=>exact h4 i x hx
def axU{ps:List Pt}{c:Int}{r:List Pc}(h:PLP ps)(hl:1<=ps.length/\ps.length<=64)(hc:1<=c/\c<=1000000)(h2:r.length=ps.length)(h3:∀(i:Nat) x,ps[i]?=some x->∃sl,r[i]?=some ⟨x.fr,BM x.AF c,sl⟩/\-1000000<=sl/\sl<=1000000):jB ⟨c,r⟩:=by
 have back:∀{i:Nat} {y:Pc},r[i]?=some y->∃x sl,ps[i]?=some x/\y=⟨x.fr,BM x.AF c,sl⟩/\-1000000<=sl/\sl<=1000000:=by
   intro i y hy;have hi:i < ps.length:=by have:=(List.getElem?_eq_some_iff.1 hy).1;omega
   obtain⟨sl,e,b⟩:=h3 i ps[i] (List.getElem?_eq_getElem hi);rw[hy] at e;exact⟨ps[i],sl,List.getElem?_eq_getElem hi,Option.some.inj e,b⟩
 refine⟨hc,by rw[h2];exact hl,λy hy=>?_,λi y hy=>?_⟩;obtain⟨x,sl,h4,rfl,_⟩:=back hy;exact h.1 x h4;obtain⟨x,sl,h4,rfl,h5,h6⟩:=back hy;obtain⟨a1,a2,a3,a4⟩:=h.2 i x h4;have m1:=Int.mul_le_mul_of_nonneg_right a4 (show 0<=c by omega);have m2:=Int.mul_le_mul_of_nonneg_right a3 (show 0<=c by omega);have e:BM x.AF c=x.AF*c:=Ir (by omega);refine⟨a1.2,λq hq YD=>?_,?_,?_,?_,h6,h5⟩;obtain⟨x',sl',h7,rfl,_⟩:=back YD;exact a2 x' hq h7;dsimp only;unfold Xb jM;rw[if_neg (by omega),e,Int.mul_tmod_left];dsimp only;rw[e,Ir (by omega)];exact m1;dsimp only;rw[e,Ir (by omega)];exact m2
def apA{P:Nd->Prop}{read:Rd Nd}(hr:Va P read):∀(q:Nat) (ns:List Nd),ns≠[]->(∀n∈ns,P n)->Va (λr:List Nd=>r≠[]/\∀n∈r,P n) (Qs read q ns):=by
 intro q
 induction q with
 | zero=>intro ns _ _ _ _ _ _ h;cases h
 | succ q ih =>
   intro ns h0 h;refine Vh (BI hr λn hn=>Vg (ih _ (by simp) λy hy=>?_)) (DL ⟨h0,h⟩);rcases List.mem_append.1 hy with hy | hy
   exact h y hy;rw[List.mem_singleton.1 hy];exact hn
def sO{P:Nd->Prop}{read:Rd Nd}(hr:Va P read):Va (λr:List Nd=>r≠[]/\∀n∈r,P n) (Re read) :=
 BI hr λn hn _ _ _ hg h=>apA hr _ [n] (by simp) (λy hy=>by rw[List.mem_singleton.1 hy];exact hn) hg h
def awJ{n p:Int}(h:1<=n/\n<=1000000):Jt (EP 11 bE Ep n [] p)/\PY (EP 11 bE Ep n [] p) :=
 ⟨(IM _).2 ⟨.inl ⟨rfl,.inr (.inl rfl),by show 0<=n;omega,by show n<=_;omega,λe=>absurd e (show Ep≠GH by decide),rfl,rfl,rfl,rfl,rfl,rfl,rfl,rfl,rfl⟩,λk hk=>by cases hk⟩,rfl,rfl,h⟩
def SB:Va (λn=>Jt n/\PY n) (F7 en):=BI (Pu _) λp hp=>DL (awJ hp)
end
end Mo
end Go.Proofs.YtpbkhogolfegfaaGreatDoor
namespace Go.Proofs.YtpbkhogolfegfaaGreatDoor
open AI Go LexS
namespace Mo
set_option maxRecDepth 100000
def opQ{nm:ByteArray}{a b:Nd}{p:Int}(ho:XR nm)(ha:Jt a)(hb:Jt b)(hn:nm=E4->PY b):Jt ⟨16,nm,ByteArray.empty,0,0,0,0,⟨0,[]⟩,[a,b],p⟩:=by
 refine(IM _).2 ⟨.inr (.inr (.inr (.inr (.inr (.inl ⟨rfl,⟨rfl,rfl,rfl,rfl,rfl,rfl,rfl,rfl⟩,rfl,ho,λe k hk=>?_⟩))))),λk hk=>?_⟩;cases hk;exact hn e;simp only[List.mem_cons,List.not_mem_nil,or_false] at hk;rcases hk with rfl | rfl
 exact ha;exact hb
def UE:List ByteArray:=[gW,OY,Jj,Kf,Kv,JN,JO,Hc,Rj,ML,S9,E4,eE]
def qY(i:Nat):∀x∈opsOf i,x∈UE:=by
 unfold opsOf;split<;>(intro x hx;simp only[List.mem_cons,List.not_mem_nil,or_false] at hx)<;>(try (unfold UE;simp only[List.mem_cons]))
 exact .inl hx;exact .inr (.inl hx);rcases hx with h | h | h | h | h | h<;>simp[h]
 rcases hx with h | h<;>simp[h]
 rcases hx with h | h | h<;>simp[h]
def tP{op:ByteArray}{l r x:Nd}(ho:op∈UE)(hl:Jt l)(hr:Jt r)(hn:op=E4->PY r)(h:A7 op l r=some x):Jt x:=by
 unfold A7 at h;revert h;cases h1:BY op.data.toList JO.data.toList with
 | true =>
   rw[N4 h1,show Jl JO JO Kv 1=some Kv from rfl];intro h;cases h;exact opQ (by unfold XR;simp) hr hl λe=>absurd e (by decide)
 | false =>
   cases h2:BY op.data.toList Hc.data.toList with
   | true =>
     rw[N4 h2,show Jl Hc JO Kv 1=some JN from rfl];intro h;cases h;exact opQ (by unfold XR;simp) hr hl λe=>absurd e (by decide)
   | false =>
     intro h;cases h;refine opQ ?_ hl hr hn;unfold UE at ho;simp only[List.mem_cons,List.not_mem_nil,or_false] at ho;have n1:=aaD h1;have n2:=aaD h2;unfold XR;rcases ho with h | h | h | h | h | h | h | h | h | h | h | h | h
     all_goals first | exact absurd h n1 | exact absurd h n2 | simp[h]
section
variable {en:Int}
def asH{α:Type}{P:α->Prop}{yes:ByteArray->Rd α}{no:Rd α}(h2:Va P no):∀ops:List ByteArray,(∀x∈ops,Va P (yes x))->Va P (kO yes no ops):=by
 intro ops
 induction ops with
 | nil=>intro _;exact h2
 | cons x ops ih=>intro h;exact Vh (h x (List.mem_cons_self ..)) (ih λy hy=>h y (List.mem_cons_of_mem _ hy))
def jJ{sub:Rd Nd}(h:Va Jt sub){op:ByteArray}(ho:op∈UE){l:Nd}(hl:Jt l):Va Jt (P5 en sub op l):=by
 refine BI (P:=λr=>Jt r/\(op=E4->PY r)) (DD (λ_=>SB.imp λn hn=>⟨hn.1,λ_=>hn.2⟩) λh1=>h.imp λn hn=>⟨hn,λe=>absurd e (aaD h1)⟩) λr hr=>NL λx hx=>DL (tP ho hl hr.1 hr.2 hx)
def agQ{ops:List ByteArray}(aHX:∀x∈ops,x∈UE){sub:Rd Nd}(h:Va Jt sub):∀(q:Nat) (l:Nd),Jt l->Va Jt (KB en ops sub q l):=by
 intro q
 induction q with
 | zero=>intro l _ _ _ _ _ h;cases h
 | succ q ih=>intro l hl;exact asH (DL hl) ops λx hx=>BI (jJ h (aHX x hx) hl) λb hb=>ih b hb
def awZ{nm:ByteArray}{p:Int}(h:Qt nm):Jt (EP 12 nm bE 0 [] p):=(IM _).2 ⟨.inr (.inl ⟨rfl,h,rfl,rfl,rfl,rfl,rfl,rfl,rfl,rfl,rfl⟩),λk hk=>by cases hk⟩
def XI{u:ByteArray}{n p:Int}(h:Un u)(h0:0<=n/\n<=999999999999)(h1:u=GH->n<=1):Jt (EP 11 bE u n [] p):=(IM _).2 ⟨.inl ⟨rfl,h,h0.1,h0.2,h1,rfl,rfl,rfl,rfl,rfl,rfl,rfl,rfl,rfl⟩,λk hk=>by cases hk⟩
def bO{a:Nd}(h:Jt a):∀k∈[a],Jt k:=λk hk=>by rw[List.mem_singleton.1 hk];exact h
def awG{k:Nd}{p:Int}(hk:Jt k):Jt (EP 15 bE bE 0 [k] p):=(IM _).2 ⟨.inr (.inr (.inr (.inr (.inl ⟨rfl,rfl,rfl,rfl,rfl,rfl,rfl,rfl,rfl,rfl⟩)))),bO hk⟩
def asZ{n p:Int}(h:1<=n/\n<=1000000):Jt (EP 13 bE bE n [] p):=(IM _).2 ⟨.inr (.inr (.inl ⟨rfl,h,rfl,rfl,rfl,rfl,rfl,rfl,rfl,rfl,rfl⟩)),λk hk=>(by cases hk)⟩
def amI:PLP []:=⟨λx h=>(by cases h),λi p h=>(by cases h)⟩
def ajE{nm:ByteArray}{a:Nd}{l:List Nd}{p:Int}(hn:nm=Kc\/nm=Fx)(ha:Jt a)(hl:l≠[]/\∀n∈l,Jt n):Jt (EP 17 nm bE 0 (a::l) p):=by
 refine(IM _).2 ⟨.inr (.inr (.inr (.inr (.inr (.inr (.inl ⟨rfl,hn,⟨rfl,rfl,rfl,rfl,rfl,rfl,rfl,rfl⟩,?_⟩)))))),λk hk=>?_⟩;have:=List.length_pos_iff.2 hl.1;show 2<=(a::l).length;rw[List.length_cons];omega;rcases List.mem_cons.1 hk with rfl | hk
 exact ha;exact hl.2 k hk
structure VaE(g:Ek->Rd Nd)(li:Rd (List Nd)):Prop where
 vg:∀e,e≠.ca->(∀t,e≠.wd t)->Va Jt (g e)
 vw:∀⦃t:Tk⦄ ⦃l s:List Tk⦄ ⦃a:Nd⦄,Gx (t::l)->g (.wd t) (t::l)=some (.inl a,s)->Jt a/\Gx s
 vc:∀⦃t:Tk⦄ ⦃l s:List Tk⦄ ⦃a:Nd⦄,Gx (t::l)->(t.text=Kc\/t.text=Fx)->g .ca (t::l)=some (.inl a,s)->Jt a/\Gx s
 vli:Va (λr:List Nd=>r≠[]/\∀n∈r,Jt n) li
def ajK{u:ByteArray}(h:tX u):u≠GH:=by
 rintro rfl;have:=h.1;revert this;decide
def ayF:∀q:Nat,VaE (gP en q).1 (gP en q).2:=by
 intro q
 induction q with
 | zero =>
   constructor;intro e _ _ _ _ _ _ h;cases h;intro _ _ _ _ _ h;cases h;intro _ _ _ _ _ _ h;cases h;intro _ _ _ _ h;cases h
 | succ q A =>
   have lv:∀i,Va Jt (Ni en (gP en q).1 i):=λi=>BI (A.vg _ (by simp) (by simp)) λN hN _ _ _ hg h=>agQ (qY i) (A.vg _ (by simp) (by simp)) _ N hN hg h;refine⟨λe hc hw=>?_,λt l s a hg h=>?_,λt l s a hg ht h=>?_,sO (A.vg .ex (by simp) (by simp))⟩
   · show Va Jt (Oh en (gP en q).1 (gP en q).2 e)
     unfold Oh;split;exact A.vg _ (by simp) (by simp)
     · intro l a s hg h
       unfold XP at h;cases hx:IW T5 l with
       | true =>
         rw[hx] at h;exact BI (P2:=Jt) Gs (λt _=>BI (A.vg _ (by simp) (by simp)) λk hk=>DL (awG hk)) hg h
       | false=>rw[hx] at h;exact A.vg _ (by simp) (by simp) hg h
     exact BI (A.vg _ (by simp) (by simp)) λN hN=>asH (DL hN) _ λx hx=>jJ (A.vg _ (by simp) (by simp)) (qY 3 x hx) hN;exact A.vg _ (by simp) (by simp);exact lv _
     · intro l a s hg h
       cases l with
       | nil=>cases h
       | cons t l =>
         have ht:=hg t (List.mem_cons_self ..);unfold WX Ua at h;dsimp only at h;cases hk3:DV t.kind 3 with
         | true =>
           rw[hk3] at h;exact BI (P2:=Jt) ZV (λn hn=>Vh (DL (XI (.inr (.inr (.inl rfl))) hn λe=>absurd e (by decide))) (DL (XI (.inr (.inl rfl)) hn λe=>absurd e (by decide)))) hg h
         | false =>
           rw[hk3] at h;dsimp only[cond] at h;cases hk:DV t.kind 2 with
           | true =>
             rw[hk] at h;refine Pq (P:=Jt) (BI LF λa ha=>NL λz hz=>DL ?_) hg h;obtain⟨z',h1,h2⟩:=ha.1.1.oU (.inr (Fo (PS ha.2).symm));rw[h1] at hz;cases hz;have hc:=ht.2.cur (Fo hk);exact XI (.inr (.inr (.inr hc))) h2 λe=>absurd e (ajK hc)
           | false =>
             rw[hk] at h;obtain⟨b,hb,h⟩:=IQ h;cases b with
             | true=>exact Pq (P:=Jt) (DL (awZ (Wm ht hb))) hg h
             | false=>exact A.vw hg h
     rename_i t;exact absurd rfl (hw t);exact absurd rfl hc;refine BI Gs λt _=>BI Gs λ_ _=>BI (A.vg _ (by simp) (by simp)) λa ha=>BI Gs λ_ _=>BI (λ_ _ _ hg h=>wN _ [] 1 (by decide) amI hg h) λl hl=>BI Gs λe _=>Vg (BI (wO _ _) λr hr=>DL ?_);obtain⟨out,e,h3,h4⟩:=hr;rw[List.nil_append] at e;subst e;exact(IM _).2 ⟨.inr (.inr (.inr (.inr (.inr (.inr (.inr ⟨rfl,⟨rfl,rfl,rfl,rfl,rfl,rfl,rfl,rfl⟩,axU hl.1 hl.2.1 hl.2.2 h3 h4,rfl⟩)))))),bO ha⟩
   · have h:Qz en (gP en q).1 t (t::l)=some (.inl a,s):=h
     have dt:aM t.text->Va Jt (TP t):=λh=>Pq (DL ((IM _).2 ⟨.inr (.inr (.inr (.inl ⟨rfl,h,rfl,rfl,rfl,rfl,rfl,rfl,rfl,rfl,rfl⟩))),λk hk=>by cases hk⟩))
     have key:(t.text=Kc\/t.text=Fx)/\(gP en q).1 .ca (t::l)=some (.inl a,s)\/(Jt a/\Gx s):=by
       unfold Qz at h;revert h;cases BY t.text.data.toList Yj.data.toList;rotate_left;exact λh=>.inr (Pq (P:=Jt) (DL (XI (.inl rfl) (by decide) λ_=>by decide)) hg h);cases BY t.text.data.toList SN.data.toList;rotate_left;exact λh=>.inr (Pq (P:=Jt) (DL (XI (.inl rfl) (by decide) λ_=>by decide)) hg h);cases BY t.text.data.toList aD.data.toList;rotate_left;exact λh=>.inr (Pq (P:=Jt) (BI (Pu _) λp hp=>DL (asZ hp)) hg h);cases h1:BY t.text.data.toList K0.data.toList;rotate_left;exact λh=>.inr (dt (.inl (N4 h1)) hg h);cases h1:BY t.text.data.toList aL.data.toList;rotate_left;exact λh=>.inr (dt (.inr (.inl (N4 h1))) hg h);cases h1:BY t.text.data.toList PW.data.toList;rotate_left;exact λh=>.inr (dt (.inr (.inr (.inl (N4 h1)))) hg h);cases h1:BY t.text.data.toList UB.data.toList;rotate_left;exact λh=>.inr (dt (.inr (.inr (.inr (N4 h1)))) hg h);cases h1:BY t.text.data.toList Kc.data.toList;rotate_left;exact λh=>.inl ⟨.inl (N4 h1),h⟩;cases h1:BY t.text.data.toList Fx.data.toList;rotate_left;exact λh=>.inl ⟨.inr (N4 h1),h⟩;cases BY t.text.data.toList Qc.data.toList;rotate_left;exact λh=>.inr (A.vg _ (by simp) (by simp) hg h);cases BY t.text.data.toList bY.data.toList;rotate_left;exact λh=>.inr (Pq (P:=Jt) (BI (A.vg _ (by simp) (by simp)) λa ha=>BI Gs λ_ _=>DL ha) hg h);exact λh=>.inr (IH (P:=Jt) hg h)
     rcases key with ⟨h1,h2⟩ | h1
     exact A.vc hg h1 h2;exact h1
   have h:W4 en (gP en q).1 (gP en q).2 (t::l)=some (.inl a,s):=h;unfold W4 Ua at h;dsimp only at h;exact Pq (P:=Jt) (BI Gs λ_ _=>BI (A.vg _ (by simp) (by simp)) λa ha=>BI Gs λ_ _=>BI A.vli λl hl=>Vg (BI Gs λ_ _=>DL (ajE ht ha hl))) hg h
def asG:Va Jt (OS en):=λ_ _ _ hg h=>(ayF _).vg .ex (by simp) (by simp) hg h
def wM{kind:Int}:Va (λn=>J0 n/\n.kind=kind) (Js en (OS en) kind):=by
 refine jI λt _=>Pq (DD (λhk=>BI (sO SB) λl hl=>BI Gs λ_ _=>DL ⟨⟨⟨rfl,rfl,rfl,rfl,rfl,rfl,rfl,rfl⟩,λ_=>⟨?_,hl.2⟩,λh=>absurd (Fo hk) h⟩,rfl⟩) λhk=>BI asG λe he=>BI Gs λ_ _=>DL ⟨⟨⟨rfl,rfl,rfl,rfl,rfl,rfl,rfl,rfl⟩,λh=>absurd h (Zd hk),λ_=>⟨rfl,bO he⟩⟩,rfl⟩);exact List.length_pos_iff.2 hl.1
def eR(k:Int)(l m:List Nd):GK k (l++m)=GK k l+GK k m:=by
 induction l with
 | nil=>simp[GK]
 | cons a l ih=>simp only[List.cons_append,GK,ih];omega
def agR{t1 t4:Tk}{n2:Int}(h4:Qt t4.text)(hn:1<=n2/\n2<=1000000){h:Nd}(hh:Qo h):∀(q:Nat) (cs:List Nd) (un am:Bool),kinds cs->(∀k∈cs,J0 k)->GK 8 cs=(if am then 1 else 0)->GK 7 cs=(if un then 1 else 0) ->
   Va Ib (ID en (OS en) (λl=>EP 4 t4.text bE n2 l t1.AF) q (h::cs) un am):=by
 intro q
 induction q with
 | zero=>intro cs un am _ _ _ _ _ _ _ _ h;cases h
 | succ q ih =>
   intro cs un am k1 k2 k3 k4
   have go:∀(kind:Int) (dP dC:Bool),(6<=kind/\kind<=8)->(if am then 1 else 0)+(if kind=8 then 1 else 0)=(if dC then 1 else 0)->(if un then 1 else 0)+(if kind=7 then 1 else 0)=(if dP then 1 else 0) ->
       Va Ib (Cp (Js en (OS en) kind) λc=>NX ((h::cs).length+1) (ID en (OS en) (λl=>EP 4 t4.text bE n2 l t1.AF) q (h::cs++[c]) dP dC)):=by
     intro kind dP dC hk h8 h7;refine BI wM λc hc=>Vg (ih (cs++[c]) dP dC ?_ ?_ ?_ ?_);intro y hy;rcases List.mem_append.1 hy with hy | hy
     exact k1 y hy;rw[List.mem_singleton.1 hy,hc.2];exact hk;intro y hy;rcases List.mem_append.1 hy with hy | hy
     exact k2 y hy;rw[List.mem_singleton.1 hy];exact hc.1;rw[eR,k3];simp only[GK,hc.2];omega;rw[eR,k4];simp only[GK,hc.2];omega
   refine jI λt _=>DD (λ_=>go 6 un am (by decide) (by simp) (by simp)) λ_=>DD (λ_=>DD (λ_=>IH) λhu=>go 7 true am (by decide) (by simp) (by simp[hu])) λ_ =>
     DD (λ_=>DD (λ_=>IH) λha=>go 8 un true (by decide) (by simp[ha]) (by simp)) λ_=>DD (λ_=>DD (λha=>Pq (DL (.inr (.inr ⟨rfl,hn,h4,⟨rfl,rfl,rfl,rfl,rfl,rfl,rfl,rfl⟩,h,cs,rfl,k1,by rw[k3,ha];rfl,?_,hh,k2⟩)))) λ_=>IH) λ_=>IH
   rw[k4];split<;>omega
def aoZ:Va Ib (Rc en (OS en)):=by
 refine jI λt _=>DD (λ_=>sM) λ_=>DD (λ_=>sM) λ_=>DD (λ_=>?_) λ_=>IH
 exact BI Gs λt _=>BI (Pu _) λn hn=>BI Gs λ_ _=>BI LF λm hm=>BI aoY λh hh=>BI Gs λ_ _ _ _ _ hg e =>
   agR (Wm hm.1 hm.2) hn hh _ [] false false (λk hk=>by cases hk) (λk hk=>by cases hk) rfl rfl hg e
end
end Mo
end Go.Proofs.YtpbkhogolfegfaaGreatDoor
namespace Go.Proofs.YtpbkhogolfegfaaGreatDoor
open AI Go
namespace Mo
set_option maxRecDepth 100000
set_option maxHeartbeats 4000000
section
variable (n:Nd)
def MO:(GY n).kind=n.kind:=by rw[Jo]
def Uh:(GY n).name=n.name:=by rw[Jo]
def Ui:(GY n).unit=n.unit:=by rw[Jo]
def nY:(GY n).n=n.n:=by rw[Jo]
def afF:(GY n).fr=n.fr:=by rw[Jo]
def afG:(GY n).to=n.to:=by rw[Jo]
def Ya:(GY n).known=n.known:=by rw[Jo]
def cO:(GY n).CJ=n.CJ:=by rw[Jo]
def J6:(GY n).kids=n.kids.map GY:=by rw[Jo]
def axP:(GY n).AF=0:=by rw[Jo]
end
def afZ:∀{l:List Nd},(∀k∈l,DM (GY k)=DM k/\N3 (GY k)=N3 k)->GD (l.map GY)=GD l/\dF (l.map GY)=dF l
 | [],_=>⟨rfl,rfl⟩
 | a::l,h=>by
   obtain⟨h1,h2⟩:=h a (by simp);obtain⟨h3,h4⟩:=afZ (l:=l) λk hk=>h k (by simp[hk]);simp only[List.map_cons,GD,dF,h1,h2,h3,h4,and_self]
def awF{p:Nd->Prop}(h:∀n,(∀k∈n.kids,p k)->p n):∀(m:Nat) (n:Nd),DM n<=m->p n:=by
 intro m
 induction m with
 | zero=>intro n h;have:=Ev n;omega
 | succ m ih =>
   intro n hn;have hsz:=Ev n;exact h n λk hk=>ih k (by have:=KY hk;omega)
def S1{p:Nd->Prop}(h:∀n,(∀k∈n.kids,p k)->p n)(n:Nd):p n:=awF h (DM n) n (Nat.le_refl _)
def rY(n:Nd):DM (GY n)=DM n/\N3 (GY n)=N3 n:=by
 refine S1 (p:=λn=>DM (GY n)=DM n/\N3 (GY n)=N3 n) (λn ih=>?_) n;obtain⟨h1,h2⟩:=afZ (l:=n.kids) ih;rw[Ev (GY n),M7 (GY n),M7 n,Ev n,J6,h1,h2];exact⟨rfl,rfl⟩
def arN{n:Nd}:Ku n->Ku (GY n):=by
 refine S1 (p:=λn=>Ku n->Ku (GY n)) (λn ih TW=>?_) n;obtain⟨p1,p2,p3⟩:=(Pb n).1 TW;rw[Jo];refine(Pb _).2 ⟨p1,by simpa using p2,λy hy=>?_⟩
 obtain⟨k,hk,rfl⟩:=List.mem_map.1 hy;exact ih k hk (p3 k hk)
def ayW{n:Nd}{i:Nat}{q:Nd->Prop}(hq:∀k,q (GY k)↔q k):(∀k,(GY n).kids[i]?=some k->q k)↔∀k,n.kids[i]?=some k->q k:=by
 rw[J6];constructor;intro h k hk;exact(hq k).1 (h _ (by rw[List.getElem?_map,hk];rfl));intro h k hk;rw[List.getElem?_map] at hk;obtain⟨y,hy,rfl⟩:=Option.map_eq_some_iff.1 hk;exact(hq y).2 (h y hy)
def SG{l:List Nd}{q:Nd->Prop}(hq:∀k∈l,q (GY k)↔q k):(∀k∈l.map GY,q k)↔∀k∈l,q k:=by
 constructor;intro h k hk;exact(hq k hk).1 (h _ (List.mem_map_of_mem hk));intro h k hk;obtain⟨y,hy,rfl⟩:=List.mem_map.1 hk;exact(hq y hy).2 (h y hy)
def adN(k:Nd):PY (GY k)↔PY k:=by unfold PY;rw[MO,Ui,nY]
def Rz(n f:Nd):F6 (GY n) f↔F6 n f:=by unfold F6;rw[Uh,Ui,nY,afF,afG,Ya,cO]
def atO(n:Nd):RY (GY n)↔RY n:=by
 unfold RY;rw[ayW adN];simp only[Rz,MO,Ui,nY,Uh,cO,J6,List.length_map]
def lP(n:Nd):Jt (GY n)↔Jt n:=by
 refine S1 (p:=λn=>Jt (GY n)↔Jt n) (λn ih=>?_) n;rw[IM,IM,atO,J6,SG ih]
def TO(k:Int):∀l:List Nd,GK k (l.map GY)=GK k l
 | []=>rfl
 | a::l=>by rw[List.map_cons,GK,GK,MO,TO k l]
def Zb(x:Nd):J0 (GY x)↔J0 x:=by
 unfold J0;rw[Rz,MO,J6,List.length_map,SG (λk _=>and_congr (lP k) (adN k)),SG (λk _=>lP k)]
def pN(x:Nd):Qo (GY x)↔Qo x:=by
 unfold Qo;simp only[Rz,MO,nY,afF,afG,Ya,J6,List.length_map]
def atA(n:Nd):tH (GY n)↔tH n:=by
 unfold tH;rw[Rz,Uh,nY,J6];refine and_congr_right λ_=>and_congr_right λ_=>and_congr_right λ_=>?_;cases n.kids with
 | nil=>exact⟨λ⟨h,cs,e,_⟩=>(nomatch e),λ⟨h,cs,e,_⟩=>(nomatch e)⟩
 | cons a l =>
   have hk:kinds (l.map GY)↔kinds l:=by unfold kinds;exact SG λk _=>by rw[MO]
   constructor;rintro⟨h,cs,e,h1,h2,h3,h4,h5⟩;rw[List.map_cons] at e;cases e;exact⟨a,l,rfl,hk.1 h1,by rwa[TO] at h2,by rwa[TO] at h3,(pN a).1 h4,(SG λk _=>Zb k).1 h5⟩;rintro⟨h,cs,e,h1,h2,h3,h4,h5⟩;cases e;exact⟨GY a,l.map GY,rfl,hk.2 h1,by rwa[TO],by rwa[TO],(pN a).2 h4,(SG λk _=>Zb k).2 h5⟩
def akX(n:Nd):Ib (GY n)↔Ib n:=by
 unfold Ib;rw[atA];simp only[Rz,MO,nY,Uh,Ui,J6,List.length_map]
def adR(n:Nd):okV (GY n)↔okV n:=by
 unfold okV;rw[Rz,MO,lP,(rY n).1,(rY n).2,J6,SG λk _=>akX k]
def yO:∀{l:List Nd},(∀k∈l,cN k=DM k)->cL l=GD l
 | [],_=>by rw[cL,GD]
 | a::l,h=>by rw[cL,GD,h a (by simp),yO λk hk=>h k (by simp[hk])]
def atD(n:Nd):cN n=DM n:=by
 refine S1 (p:=λn=>cN n=DM n) (λn ih=>?_) n;rw[yP,Ev,yO ih]
end Mo
end Go.Proofs.YtpbkhogolfegfaaGreatDoor
namespace Go.Proofs.YtpbkhogolfegfaaGreatDoor
open AI Go
namespace Mo
set_option maxRecDepth 100000
set_option maxHeartbeats 4000000
def Wk{α:Type}{l:List α}{body:Nat->α->Unit->Option (Lp Unit Unit Bool)}{x:Option Bool}(hl:l.length<=9223372036854775807)(hb:∀i y,l[i]?=some y->body i y ()=some (.nx ())):(Sx l.length (Dh body (λ_=>()) (l.drop 0) 0 ())).bind (PD (λ(_:Unit)=>x) (λv=>some v))=x:=by
 have key:∀(m:List α) (i:Nat),(∀j y,m[j]?=some y->body (i+j) y ()=some (.nx ()))->Dh body (λ_=>()) m i ()=some (.inl ()):=by
   intro m
   induction m with
   | nil=>intro i _;rfl
   | cons y m ih =>
     intro i h;rw[Dh,show body i y ()=some (.nx ()) from h 0 y rfl,Option.bind_some];exact ih (i+1) λj z hz=>by rw[Nat.add_assoc,Nat.add_comm 1 j];exact h (j+1) z hz
 rw[show Sx l.length=λy:Option (Unit⊕Bool)=>y from funext λy=>if_pos hl,List.drop_zero,key l 0 (λj y hy=>by rw[Nat.zero_add];exact hb j y hy)];rfl
def iS(x:Pc):OO x x=true:=by unfold OO;simp
def nT(f:Fn)(h:f.ps.length<=9223372036854775807):HV f f=some true:=by
 rw[HV,N5 rfl,N5 rfl];refine Wk h (λi y hy=>?_);rw[IV,hy,Option.bind_some,iS,cond_true]
def fA(x:ByteArray):BY x.data.toList x.data.toList=true:=by rw[UK];simp
def axE:∀(q:Nat) (e:Nd),DM e<=q->DM e<=1000000->VG e->GX q e e=some true:=by
 intro q
 induction q with
 | zero=>intro e h;have:=Ev e;omega
 | succ q ih =>
   intro e hq hz ho;have he:=Ev e;have hl:=Oi e.kids;obtain⟨h1,h2⟩:=(MJ e).1 ho;rw[GX,MM,N5 rfl,fA,fA,N5 rfl,N5 rfl,N5 rfl,N5 rfl,N5 rfl,nT _ (by omega),Option.bind_some,N5 rfl];dsimp only[cond];refine Wk (by omega) (λi y hy=>?_);have hm:=List.mem_of_getElem? hy;have:=KY hm;rw[Ly,hy,Option.bind_some,ih y (by omega) (by omega) (h2 y hm),Option.bind_some,cond_true]
def cJ{e:Nd}(hz:DM e<=1000000)(ho:VG e):Io e e=some true:=SM (DM e) λq hq=>axE q e hq hz ho
def aeM:∀(q:Nat) (n:Nd),DM n<=q->DM n<=100000->Fl q n=some (GY n):=by
 intro q
 induction q with
 | zero=>intro n h;have:=Ev n;omega
 | succ q ih =>
   intro n hq hz;have hsz:=Ev n;have hl:=Oi n.kids
   have key:∀(m:List Nd) (i:Nat) (acc:List Nd),(∀k∈m,k∈n.kids)->acc.length+m.length<=100000->Dh (ρ:=Nd) (λi y x=>Jk (Fl q) i y x) (λx=>x) m i acc=some (.inl (acc++m.map GY)):=by
     intro m
     induction m with
     | nil=>intro i acc _ _;simp[Dh]
     | cons y m ihm =>
       intro i acc hm hc;simp only[List.length_cons] at hc;have hy:=KY (hm y (List.mem_cons_self ..));rw[Dh,Jk,ih y (by omega) (by omega),Option.bind_some,GN (by omega),Option.bind_some];have:=ihm (i+1) (acc++[GY y]) (λk hk=>hm k (List.mem_cons_of_mem _ hk)) (by simp only[List.length_append,List.length_singleton];omega);dsimp only[Q8];rw[this,List.append_assoc];rfl
   rw[Fl,LA,show Sx n.kids.length=λy:Option (List Nd⊕Nd)=>y from funext λy=>if_pos (by omega),List.drop_zero,key n.kids 0 [] (λ_ h=>h) (by simp only[List.length_nil];omega),Jo];rfl
def iP{n:Nd}(hz:DM n<=100000):JV n=some (GY n):=SM (DM n) λq hq=>aeM q n hq hz
def hU{n:Nd}(hs:DM n<=10000)(hp:VG n):Ht n=some (GY n):=by
 unfold Ht;rw[if_pos ⟨by rw[cL,cL,atD];omega,hp⟩]
def ayL:∀(q:Nat) (n:Nd),DM n<=q->DM n<=100000->GM q (GY n)=some true:=by
 intro q
 induction q with
 | zero=>intro n h;have:=Ev n;omega
 | succ q ih =>
   intro n hq hz;have hsz:=Ev n;have hl:=Oi n.kids;rw[GM,MA,J6,axP,N5 rfl];dsimp only[cond];refine Wk (by rw[List.length_map];omega) (λi y hy=>?_);obtain⟨k,hk,rfl⟩:=List.mem_map.1 (List.mem_of_getElem? hy);have:=KY hk;rw[Lu,ih k (by omega) (by omega),Option.bind_some,cond_true]
def aqE{n:Nd}(hz:DM n<=100000):PV (GY n)=some true:=SM (DM n) λq hq=>ayL q n hq hz
def aCB(n:Nd):GY (GY n)=GY n:=by
 refine S1 (p:=λn=>GY (GY n)=GY n) (λn ih=>?_) n;rw[Jo (GY n),MO,Uh,Ui,nY,afF,afG,Ya,cO,J6,Jo n,List.map_map];congr 1;exact List.map_congr_left λk hk=>ih k hk
end Mo
end Go.Proofs.YtpbkhogolfegfaaGreatDoor
namespace Go.Proofs.YtpbkhogolfegfaaGreatDoor
open AI Go
namespace Mo
set_option maxRecDepth 100000
set_option maxHeartbeats 4000000
def axT{f:Fn}(h:jB f):∀(i:Nat) p,f.ps[i]?=some p->0<=p.fr:=by
 intro i
 induction i with
 | zero=>intro p hp;rw[h.2.2.1 p hp];omega
 | succ i ih =>
   intro p hp;have hi:i < f.ps.length:=by have:=(List.getElem?_eq_some_iff.1 hp).1;omega
   have h1:=(h.2.2.2 (i+1) p hp).2.1 f.ps[i] (by omega) (List.getElem?_eq_getElem hi);have:=ih _ (List.getElem?_eq_getElem hi);omega
def agA{f:Fn}(h:jB f):nE f/\f.ps.length<=64:=by
 refine⟨⟨by have:=h.2.1;omega,λy hy=>?_⟩,h.2.1.2⟩;obtain⟨i,hi⟩:=List.getElem?_of_mem hy;have h0:=axT h i y hi;obtain⟨a1,_,_,a4,a5,a6,a7⟩:=h.2.2.2 i y hi;have hr:=h.1;unfold ON at hr;rw[Ir (by omega)] at a4;rw[Ir (by omega)] at a5;exact⟨⟨by omega,by omega⟩,⟨by omega,by omega⟩,by omega,by omega⟩
def KM{f:Fn}(h:f.ps=[]):nE f/\f.ps.length<=64:=by
 unfold nE;rw[h];exact⟨⟨by simp,λy hy=>(by cases hy)⟩,by simp⟩
def ajP{n:Nd}(h:RY n):nE n.CJ/\n.CJ.ps.length<=64:=by
 unfold RY at h;rcases h with h | h | h | h | h | h | h | h
 exact KM h.2.2.2.2.2.2.2.2.2.2.2.2.2;exact KM h.2.2.2.2.2.2.2.2.2.2;exact KM h.2.2.2.2.2.2.2.2.2.2;exact KM h.2.2.2.2.2.2.2.2.2.2;exact KM h.2.2.2.2.2.2.2.2.2;exact KM h.2.1.2.2.2.2.2.2.2;exact KM h.2.2.1.2.2.2.2.2.2.2;exact agA h.2.2.1
def pA(n:Nd):Jt n->DM n<=1000000->Ku n/\VG n:=by
 refine S1 (p:=λn=>Jt n->DM n<=1000000->Ku n/\VG n) (λn ih h hz=>?_) n;obtain⟨h1,h2⟩:=(IM n).1 h;obtain⟨t1,t2⟩:=ajP h1;have hs:=Ev n;have hl:=Oi n.kids;exact⟨(Pb n).2 ⟨t1,by omega,λk hk=>(ih k hk (h2 k hk) (by have:=RJ hk;omega)).1⟩,(MJ n).2 ⟨by omega,λk hk=>(ih k hk (h2 k hk) (by have:=RJ hk;omega)).2⟩⟩
def RG{n:Nd}(ht:n.CJ.ps=[])(hk:n.kids.length=0):Ku n/\VG n:=by
 have:=List.eq_nil_of_length_eq_zero hk;obtain⟨t1,t2⟩:=KM ht;exact⟨(Pb n).2 ⟨t1,by omega,by rw[this];exact λk hk=>(by cases hk)⟩,(MJ n).2 ⟨by omega,by rw[this];exact λk hk=>(by cases hk)⟩⟩
def U0{n:Nd}(ht:n.CJ.ps=[])(hz:DM n<=1000000)(hk:∀k∈n.kids,Ku k/\VG k):Ku n/\VG n:=by
 obtain⟨t1,t2⟩:=KM ht;have hs:=Ev n;have hl:=Oi n.kids;exact⟨(Pb n).2 ⟨t1,by omega,λk h=>(hk k h).1⟩,(MJ n).2 ⟨by omega,λk h=>(hk k h).2⟩⟩
def eO{n:Nd}(h:J0 n)(hz:DM n<=1000000):Ku n/\VG n:=by
 refine U0 h.1.2.2.2.2.2.2.2 hz λk hk=>pA k ?_ (by have:=RJ hk;omega);by_cases h7:n.kind=7;exact((h.2.1 h7).2 k hk).1;exact(h.2.2 h7).2 k hk
def uU{n:Nd}(h:Ib n)(hz:DM n<=1000000):Ku n/\VG n:=by
 rcases h with h | h | h
 exact RG h.2.2.2.2.2.2.2.2.2.2.2 h.2.2.2.1;exact RG h.2.2.2.2.2.2.2.2.2.2.2.2.2 h.2.2.2.2.2.1;obtain⟨_,_,hb,hd,cs,hk,_,_,_,hh,hc⟩:=h.2;refine U0 hb.2.2.2.2.2.2.2 hz λk hm=>?_;have:=RJ hm;rw[hk] at hm;rcases List.mem_cons.1 hm with rfl | hm
 exact RG hh.2.2.2.2.2.2.2.2.2.2.2.2.2 hh.2.2.1;exact eO (hc k hm) (by omega)
def ZD{ks:List Nd}(h:∀k∈ks,Ib k)(hz:GD ks<=10000):Ku (Jm ks)/\VG (Jm ks):=by
 refine U0 rfl (by have:=Ev (Jm ks);rw[show DM (Jm ks)=1+GD ks from rfl];omega) λk hk=>uU (h k hk) (by have:=KY (show k∈ks from hk);omega)
def X0{ks:List Nd}(h:∀k∈ks,Ib k)(hz:DM (Jm ks)<=2000)(hd:N3 (Jm ks)<=40):okV (Jm ks):=⟨.inl ⟨rfl,⟨rfl,rfl,rfl,rfl,rfl,rfl,rfl,rfl⟩,h⟩,hz,hd⟩
def pK{l:List Tk}(h:Gx l)(k:Nat):Gx (l.drop k):=λt ht=>h t (List.mem_of_mem_drop ht)
def axY{en:Int}:∀(q:Nat) (l:List Tk) (ks:List Nd) (ds:List Dg) (r:List Nd×List Dg),Gx l->l.length<=10000->(∀k∈ks,Ib k)->QL en q l ks ds=some r->∀k∈r.1,Ib k:=by
 intro q
 induction q with
 | zero=>intro l ks ds r _ _ _ h;cases h
 | succ q ih =>
   intro l ks ds r hg hl hk h;cases l with
   | nil=>cases h;exact hk
   | cons t l =>
     unfold QL at h;cases hd:EK ((ds.length:Nat):Int) 20 with
     | false=>rw[hd] at h;cases h;exact hk
     | true =>
       rw[hd] at h;dsimp only[cond] at h;split at h;cases h;rename_i n s hi;obtain⟨hn,hs⟩:=aoZ hg hi;obtain⟨⟨j,rfl⟩,_⟩:=MW (λt ht=>(hg t ht).1) hl hi;refine ih _ _ _ _ hs (by rw[List.length_drop];omega) (λk hm=>?_) h;rcases List.mem_append.1 hm with hm | hm
       exact hk k hm;rw[List.mem_singleton.1 hm];exact hn;rename_i d s hi;obtain⟨⟨k,rfl⟩,_⟩:=MW (λt ht=>(hg t ht).1) hl hi;obtain⟨j,hj⟩:=Pn ((t::l).drop k);rw[hj] at h;exact ih _ _ _ _ (pK (pK hg k) j) (by simp only[List.length_drop];omega) hk h
def gZ{s:ByteArray}{n:Nd}{ds:List Dg}(h:CV s=some (n,ds)) :
   (ds≠[]/\n=z0/\ds.length<=20)\/(ds=[]/\∃ks,UX s=0/\QL ((s.data.toList.length:Nat):Int) ((Ff s).length+1) (Ff s) [] []=some (ks,[])/\n=Jm ks/\(∀k∈ks,Ib k)/\DM n<=2000/\N3 n<=40):=by
 by_cases he:UX s=0
 · obtain⟨ks,ds',h1,h2,h3,h4⟩:=bV he
   rw[h] at h2;have hv:=axY _ _ _ _ _ (rZ s) (by have:=(Pp s).2;omega) (λk hk=>by cases hk) h1;cases ds' with
   | nil =>
     unfold asX alG at h2;by_cases hc:2000 < DM (Jm ks)\/40 < N3 (Jm ks);rw[if_pos hc] at h2;simp only[Option.some.injEq,Prod.mk.injEq] at h2;obtain⟨rfl,rfl⟩:=h2;exact .inl ⟨by simp,rfl,by simp⟩;rw[if_neg hc] at h2;simp only[Option.some.injEq,Prod.mk.injEq] at h2;obtain⟨rfl,rfl⟩:=h2;exact .inr ⟨rfl,ks,he,h1,rfl,hv,by omega,by omega⟩
   | cons d ds'=>cases h2;exact .inl ⟨by simp,rfl,h4⟩
 rw[ZA he] at h;cases h;exact .inl ⟨by simp,rfl,by simp⟩
def vL(s:ByteArray):∃n ds,CV s=some (n,ds):=by
 by_cases he:UX s=0;obtain⟨ks,ds',h1,h2,_⟩:=bV he;exact⟨_,_,h2⟩;exact⟨_,_,ZA he⟩
end Mo
end Go.Proofs.YtpbkhogolfegfaaGreatDoor
namespace Go.Proofs.YtpbkhogolfegfaaGreatDoor
open AI Go
namespace Mo
set_option maxRecDepth 100000
mutual
def VE(hi:Int):Nd->Prop
 | ⟨_,_,_,_,_,_,_,_,kids,AF⟩=>AF<=hi/\orL hi AF kids
def orL(hi lo:Int):List Nd->Prop
 | []=>True
 | k::ks=>(lo<=k.AF/\VE hi k)/\orL hi lo ks
end
def alY{hi lo:Int}{l:List Nd}:orL hi lo l↔∀k∈l,lo<=k.AF/\VE hi k:=by
 induction l with
 | nil=>simp[orL]
 | cons k l ih=>simp[orL,ih]
def KO{hi:Int}(n:Nd):VE hi n↔n.AF<=hi/\∀k∈n.kids,n.AF<=k.AF/\VE hi k:=by cases n;rw[VE,alY]
def So(hi:Int):List Tk->Prop
 | []=>True
 | t::s=>t.AF<=hi/\(∀u∈s,t.AF<=u.AF)/\So hi s
def Lo(l:List Tk)(x:Int):Prop:=∀t∈l,x<=t.AF
section
variable {α β:Type} {hi x y:Int} {P:α->List Tk->Prop} {P2:β->List Tk->Prop}
def Vo(hi x:Int)(P:α->List Tk->Prop)(m:Rd α):Prop:=∀⦃l:List Tk⦄ ⦃a:α⦄ ⦃s:List Tk⦄,So hi l->Lo l x->m l=some (.inl a,s)->P a s/\So hi s/\Lo s x
def B8{m:Rd α}{K:α->Rd β}(h1:Vo hi x P m)(h2:∀a,(∃l,P a l)->Vo hi x P2 (K a)):Vo hi x P2 (Cp m K):=by
 intro l b s hs hl h;rcases IL h with ⟨a,s',e1,e2⟩ | ⟨d,_,h⟩
 obtain⟨p,a1,a2⟩:=h1 hs hl e1;exact h2 a ⟨_,p⟩ a1 a2 e2;cases h
def Rr(key:α->Int){m:Rd α}{K:α->Rd β}(h1:Vo hi x P m)(hk:∀a l,P a l->x<=key a/\Lo l (key a))(h2:∀a,(∃l,P a l)->Vo hi (key a) P2 (K a)):Vo hi x P2 (Cp m K):=by
 intro l b s hs hl h;rcases IL h with ⟨a,s',e1,e2⟩ | ⟨d,_,h⟩
 obtain⟨p,a1,_⟩:=h1 hs hl e1;obtain⟨k1,k2⟩:=hk a _ p;obtain⟨q,b1,b2⟩:=h2 a ⟨_,p⟩ a1 k2 e2;exact⟨q,b1,λt ht=>Int.le_trans k1 (b2 t ht)⟩;cases h
def DU{a:α}(h:∀s,Lo s x->P a s):Vo hi x P (Fw a):=by
 intro l b s hs hl e;obtain⟨e1,rfl⟩:=KV e;cases e1;exact⟨h _ hl,hs,hl⟩
def II{e p:Int}:Vo hi x P (L2 e p):=by
 intro l b s _ _ h;obtain⟨h,_⟩:=Ml h;cases h
def NN{X:Option β}{K:β->Rd α}(h:∀b,X=some b->Vo hi x P (K b)):Vo hi x P (K4 X K):=by
 intro l a s hs hl e;obtain⟨b,hb,e⟩:=IQ e;exact h b hb hs hl e
def sU{en:Int}{K:Tk->Rd α}(h:∀t,x<=t.AF->t.AF<=hi->Vo hi t.AF P (K t)):Vo hi x P (Ua en K):=by
 intro l a s hs hl e;cases l with
 | nil=>cases e
 | cons t l =>
   have hx:=hl t (List.mem_cons_self ..)
   obtain⟨p,b1,b2⟩:=h t hx hs.1 hs (λu hu=>by
     rcases List.mem_cons.1 hu with rfl | hu
     exact Int.le_refl _;exact hs.2.1 u hu) e
   exact⟨p,b1,λu hu=>Int.le_trans hx (b2 u hu)⟩
def Qy{K:Rd α}(h:Vo hi x P K):Vo hi x P (UC K):=by
 intro l a s hs hl e;cases l with
 | nil=>cases e
 | cons t l=>exact h hs.2.2 (λu hu=>hl u (List.mem_cons_of_mem _ hu)) e
def Cm{b:Bool}{A B:Rd α}(h1:Vo hi x P A)(h2:Vo hi x P B):Vo hi x P (cond b A B):=by cases b;exact h2;exact h1
def Vj{t:ByteArray}{A B:Rd α}(h1:Vo hi x P A)(h2:Vo hi x P B):Vo hi x P (ND t A B):=by
 intro l a s hs hl e;unfold ND at e;cases hx:IW t l with
 | true=>rw[hx] at e;exact Qy h1 hs hl e
 | false=>rw[hx] at e;exact h2 hs hl e
def Vi{n:Nat}{m:Rd α}(h:Vo hi x P m):Vo hi x P (NX n m):=λ_ _ _ hs hl e=>h hs hl (Nk e).2
end
section
variable {hi x y en:Int}
abbrev PT(hi x:Int):Tk->List Tk->Prop:=λt s=>x<=t.AF/\t.AF<=hi/\Lo s t.AF
abbrev PA(hi x:Int):Int×Int->List Tk->Prop:=λp s=>x<=p.2/\p.2<=hi/\Lo s p.2
abbrev PN(hi x:Int):Nd->List Tk->Prop:=λn s=>VE hi n/\x<=n.AF/\Lo s n.AF
abbrev T2{α:Type}:α->List Tk->Prop:=λ_ _=>True
def LG{f:Tk->Option Bool}:Vo hi x (PT hi x) (KZ en f):=sU λt h1 h2=>NN λb _=>Cm (Qy (DU λs hs=>⟨h1,h2,hs⟩)) II
def Gt{b:ByteArray}:Vo hi x (PT hi x) (I9 en b):=LG
def ZZ:Vo hi x (PA hi x) (MD en):=Rr (λt=>t.AF) LG (λt l h=>⟨h.1,h.2.2⟩) λt ⟨_,h1,h2,_⟩=>NN λn _=>DU λs hs=>⟨h1,h2,hs⟩
def Pw{least:Int}:Vo hi x (PA hi x) (Lm en least):=Rr (λp=>p.2) ZZ (λp l h=>⟨h.1,h.2.2⟩) λp ⟨_,h1,h2,_⟩=>Cm II (Cm II (DU λs hs=>⟨h1,h2,hs⟩))
def WB{least:Int}:Vo hi x T2 (TQ en least):=B8 LG λt _=>NN λd _=>Cm (Cm II (DU λ_ _=>trivial)) II
def IR{k n p:Int}{nm u:ByteArray}{ks:List Nd}(hp:p<=hi)(h:∀a∈ks,p<=a.AF/\VE hi a):VE hi (EP k nm u n ks p):=(KO _).2 ⟨hp,h⟩
def J3{p:Int}:∀a∈([]:List Nd),p<=a.AF/\VE hi a:=λa ha=>(by cases ha)
def acK{p:Int}{k:Nd}(h:p<=k.AF/\VE hi k):∀a∈[k],p<=a.AF/\VE hi a:=λa ha=>by rw[List.mem_singleton.1 ha];exact h
def apF:Vo hi x (PN hi x) (Zm en) :=
 Rr (λt=>t.AF) Gt (λt l h=>⟨h.1,h.2.2⟩) λt ⟨_,h1,h2,_⟩=>B8 Pw λn _=>B8 Gt λ_ _=>B8 WB λf _ =>
   Vj (B8 WB λu _=>B8 Gt λ_ _=>B8 WB λk _=>DU λs hs=>⟨(KO _).2 ⟨h2,J3⟩,h1,hs⟩) (B8 Gt λ_ _=>B8 WB λk _=>DU λs hs=>⟨(KO _).2 ⟨h2,J3⟩,h1,hs⟩)
def sS:Vo hi x (PN hi x) (TS en) :=
 sU λt h1 h2=>Qy (B8 LG λm _=>B8 Gt λ_ _=>B8 LG λu _=>Cm (B8 LG λr _=>NN λn _=>B8 Gt λ_ _=>DU λs hs=>⟨IR h2 J3,h1,hs⟩) (B8 Gt λ_ _=>DU λs hs=>⟨IR h2 J3,h1,hs⟩))
def SC:Vo hi x (PN hi x) (F7 en):=Rr (λp=>p.2) Pw (λp l h=>⟨h.1,h.2.2⟩) λp ⟨_,h1,h2,_⟩=>DU λs hs=>⟨IR h2 J3,h1,hs⟩
abbrev PL(hi x:Int):List Nd->List Tk->Prop:=λl _=>∀a∈l,x<=a.AF/\VE hi a
def apH{read:Rd Nd}(hr:Vo hi x (PN hi x) read):∀(q:Nat) (ns:List Nd),(∀a∈ns,x<=a.AF/\VE hi a)->Vo hi x (PL hi x) (Qs read q ns):=by
 intro q
 induction q with
 | zero=>intro ns _ _ _ _ _ _ h;cases h
 | succ q ih =>
   intro ns h;refine Vj (B8 hr λn ⟨_,h1,h2,_⟩=>Vi (ih _ λa ha=>?_)) (DU λ_ _=>h);rcases List.mem_append.1 ha with ha | ha
   exact h a ha;rw[List.mem_singleton.1 ha];exact⟨h2,h1⟩
def sT{read:Rd Nd}(hr:Vo hi x (PN hi x) read):Vo hi x (PL hi x) (Re read) :=
 B8 hr λn ⟨_,h1,h2,_⟩ _ _ _ hs hl h=>apH hr _ [n] (acK ⟨h2,h1⟩) hs hl h
def Yr:Vo hi x T2 (NM en):=B8 LG λt _=>NN λc _=>Cm (Cm (DU λ_ _=>trivial) II) (DU λ_ _=>trivial)
def apI:Vo hi x T2 (VL en):=B8 LG λt _=>Cm (DU λ_ _=>trivial) (DU λ_ _=>trivial)
def Z1{c a b:Int}:Vo hi x T2 (Oe en c a b):=B8 apI λs _=>B8 Pw λm _=>B8 Gt λ_ _=>B8 Pw λd _=>NN λg _=>NN λz _=>Cm II (DU λ_ _=>trivial)
def Z0{c a:Int}:Vo hi x T2 (MI en c a):=B8 Gt λ_ _=>Vj (B8 Yr λa _=>Z1) (B8 Yr λa _=>Z1)
def agV{b:List Pt}{c:Int}:Vo hi x T2 (Ri en b c):=B8 Yr λv _=>Cm (Cm Z0 II) (NN λq _=>Cm II (Cm II Z0))
def wS:∀(q:Nat) (l:List Pt) (c:Int),Vo hi x T2 (Lx en q l c):=by
 intro q
 induction q with
 | zero=>intro l c _ _ _ _ _ h;cases h
 | succ q ih=>intro l c;exact B8 agV λp _=>Vi (Vj (ih _ _) (DU λ_ _=>trivial))
def wT{c p:Int}:∀(l:List Pt) (acc:List Pc),Vo hi x T2 (LC c p l acc):=by
 intro l
 induction l with
 | nil=>intro acc;exact DU λ_ _=>trivial
 | cons a l ih=>intro acc;exact NN λz _=>Cm II (Cm II (Vi (ih _)))
def tQ{op:ByteArray}{l r b:Nd}(hl:VE hi l)(hr:VE hi r)(h:l.AF<=r.AF)(e:A7 op l r=some b):VE hi b/\b.AF=l.AF:=by
 have ha:=((KO l).1 hl).1
 have two:∀a∈[l,r],l.AF<=a.AF/\VE hi a:=λa ha=>by
   simp only[List.mem_cons,List.not_mem_nil,or_false] at ha;rcases ha with rfl | rfl
   exact⟨Int.le_refl _,hl⟩;exact⟨h,hr⟩
 have aCK:∀a∈[r,l],l.AF<=a.AF/\VE hi a:=λa ha=>two a (by simp only[List.mem_cons,List.not_mem_nil,or_false] at ha ⊢;exact ha.symm);unfold A7 at e;revert e;cases BY op.data.toList JO.data.toList;cases BY op.data.toList Hc.data.toList;intro h;cases h;exact⟨(KO _).2 ⟨ha,two⟩,rfl⟩;cases Jl op JO Kv 1 with
 | none=>intro h;cases h
 | some y=>intro h;cases h;exact⟨(KO _).2 ⟨ha,aCK⟩,rfl⟩
 cases Jl op JO Kv 1 with
 | none=>intro h;cases h
 | some y=>intro h;cases h;exact⟨(KO _).2 ⟨ha,aCK⟩,rfl⟩
def asI{α:Type}{P:α->List Tk->Prop}{yes:ByteArray->Rd α}{no:Rd α}(h1:∀t,Vo hi x P (yes t))(h2:Vo hi x P no):∀ops:List ByteArray,Vo hi x P (kO yes no ops):=by
 intro ops
 induction ops with
 | nil=>exact h2
 | cons t ops ih=>exact Vj (h1 t) ih
def Vx(hi:Int)(m:Rd Nd):Prop:=∀x,Vo hi x (PN hi x) m
def jL{sub:Rd Nd}(h:Vx hi sub)(op:ByteArray){l:Nd}(hl:VE hi l):Vo hi l.AF (λb _=>VE hi b/\b.AF=l.AF) (P5 en sub op l) :=
 B8 (P:=PN hi l.AF) (Cm SC (h _)) λr ⟨_,h1,h2,_⟩=>NN λb hb=>DU λ_ _=>tQ hl h1 h2 hb
def agT{ops:List ByteArray}{sub:Rd Nd}(h:Vx hi sub):∀(q:Nat) (l:Nd),VE hi l->x<=l.AF->Vo hi l.AF (PN hi x) (KB en ops sub q l):=by
 intro q
 induction q with
 | zero=>intro l _ _ _ _ _ _ _ h;cases h
 | succ q ih =>
   intro l hl hx;refine asI (λt=>B8 (jL h t hl) λb ⟨_,h1,h2⟩=>?_) (DU λs hs=>⟨hl,hx,hs⟩) ops;rw[<- h2];exact ih b h1 (by omega)
structure VoE(hi:Int)(g:Ek->Rd Nd)(li:Rd (List Nd)):Prop where
 og:∀e,(∀t,e≠.wd t)->Vx hi (g e)
 ow:∀⦃t:Tk⦄ ⦃l s:List Tk⦄ ⦃a:Nd⦄ (x:Int),So hi (t::l)->x<=t.AF->g (.wd t) (t::l)=some (.inl a,s)->PN hi x a s/\So hi s/\Lo s x
 oli:∀x,Vo hi x (PL hi x) li
def ayH:∀q:Nat,VoE hi (gP en q).1 (gP en q).2:=by
 intro q
 induction q with
 | zero =>
   constructor;intro e _ x _ _ _ _ _ h;cases h;intro _ _ _ _ x _ _ h;cases h;intro x _ _ _ _ _ h;cases h
 | succ q A =>
   have lo1:∀{t:Tk} {l:List Tk},So hi (t::l)->Lo (t::l) t.AF:=λ{t l} hs u hu=>by
     rcases List.mem_cons.1 hu with rfl | hu
     exact Int.le_refl _;exact hs.2.1 u hu
   have down:∀{x y:Int} {a:Nd} {s:List Tk},x<=y->PN hi y a s/\So hi s/\Lo s y->PN hi x a s/\So hi s/\Lo s x:=λhxy ⟨⟨a1,a2,a3⟩,a4,a5⟩=>⟨⟨a1,Int.le_trans hxy a2,a3⟩,a4,λu hu=>Int.le_trans hxy (a5 u hu)⟩;refine⟨λe hw x=>?_,λt l s a x hs hx h=>?_,λx=>sT (A.og .ex (by simp) x)⟩;rotate_left;have h:Qz en (gP en q).1 t (t::l)=some (.inl a,s):=h;have ht:=hs.1;have dt:Vo hi t.AF (PN hi t.AF) (TP t):=Qy (DU λs hs=>⟨IR ht J3,Int.le_refl _,hs⟩);have nd:∀(k n:Int) (nm u:ByteArray),Vo hi t.AF (PN hi t.AF) (UC (Fw (EP k nm u n [] t.AF))):=λ_ _ _ _=>Qy (DU λs hs=>⟨IR ht J3,Int.le_refl _,hs⟩);refine down hx ((show Vo hi t.AF (PN hi t.AF) (Qz en (gP en q).1 t) from ?_) hs (lo1 hs) h)
   exact Cm (nd _ _ _ _) (Cm (nd _ _ _ _) (Cm (Qy (B8 Pw λp _=>DU λs hs=>⟨IR ht J3,Int.le_refl _,hs⟩)) (Cm dt (Cm dt (Cm dt (Cm dt (Cm (A.og .ca (by simp) _) (Cm (A.og .ca (by simp) _) (Cm (A.og .ta (by simp) _)
     (Cm (Qy (Rr (λn=>n.AF) (A.og .ex (by simp) _) (λn l h=>h.2) λn ⟨_,h1,h2,_⟩=>B8 Gt λ_ _=>DU λs hs=>⟨h1,h2,hs⟩)) II))))))))))
   show Vo hi x (PN hi x) (Oh en (gP en q).1 (gP en q).2 e);have lv:∀i,Vo hi x (PN hi x) (Ni en (gP en q).1 i):=λi=>Rr (λn=>n.AF) (A.og (.lv _) (by simp) x) (λn l h=>h.2) λN ⟨_,h1,h2,_⟩ _ _ _ hs hl h=>agT (A.og (.lv _) (by simp)) _ N h1 h2 hs hl h;unfold Oh;split;exact A.og (.lv _) (by simp) x
   · intro l a s hs hl h
     unfold XP at h;cases hx:IW T5 l with
     | true =>
       rw[hx] at h;exact Rr (P2:=PN hi x) (λt=>t.AF) Gt (λt l h=>⟨h.1,h.2.2⟩) (λt ⟨_,h1,h2,_⟩=>B8 (A.og (.lv _) (by simp) _) λk ⟨_,h3,h4,_⟩=>DU λs hs=>⟨IR h2 (acK ⟨h4,h3⟩),h1,hs⟩) hs hl h
     | false=>rw[hx] at h;exact A.og (.lv _) (by simp) x hs hl h
   refine Rr (λn=>n.AF) (A.og (.lv _) (by simp) x) (λn l h=>h.2) λN ⟨_,h1,h2,_⟩=>asI (λt=>?_) (DU λs hs=>⟨h1,h2,hs⟩) _;intro l b s hs hl h;obtain⟨⟨a1,a2⟩,a3,a4⟩:=jL (A.og (.lv _) (by simp)) t h1 hs hl h;exact⟨⟨a1,by omega,by rw[a2];exact a4⟩,a3,a4⟩;exact A.og .at_ (by simp) x;exact lv _
   · intro l b s hs hl h
     cases l with
     | nil=>cases h
     | cons t l =>
       have h1:=hl t (List.mem_cons_self ..);have h2:=hs.1;unfold WX Ua at h;dsimp only at h;cases hk3:DV t.kind 3 with
       | true =>
         rw[hk3] at h;exact Rr (P2:=PN hi x) (λp=>p.2) ZZ (λp l h=>⟨h.1,h.2.2⟩) (λn ⟨_,h3,h4,_⟩=>Vj (DU λs hs=>⟨IR h4 J3,h3,hs⟩) (DU λs hs=>⟨IR h4 J3,h3,hs⟩)) hs hl h
       | false =>
         rw[hk3] at h;dsimp only[cond] at h;cases hk:DV t.kind 2 with
         | true =>
           rw[hk] at h;dsimp only at h;have hv:Vo hi t.AF (PN hi t.AF) (UC (Cp (KZ en DP) λa=>K4 (Cl a) λc=>Fw (EP 11 bE t.text c [] t.AF))):=Qy (B8 LG λa _=>NN λz _=>DU λs hs=>⟨IR h2 J3,Int.le_refl _,hs⟩);exact down h1 (hv hs (lo1 hs) h)
         | false =>
           rw[hk] at h;obtain⟨c,hc,h⟩:=IQ h;cases c with
           | true=>exact down h1 (Qy (P:=PN hi t.AF) (DU λs hs=>⟨IR h2 J3,Int.le_refl _,hs⟩) hs (lo1 hs) h)
           | false=>exact A.ow x hs h1 h
   rename_i t;exact absurd rfl (hw t)
   exact sU λt h1 h2=>Qy (B8 Gt λ_ _=>B8 (A.og .ex (by simp) _) λa ⟨_,h3,h4,_⟩=>B8 Gt λ_ _=>B8 (A.oli _) λl ⟨_,hl⟩=>Vi (B8 Gt λ_ _=>DU λs hs=>⟨IR h2 (λk hk=>by
     rcases List.mem_cons.1 hk with rfl | hk
     exact⟨h4,h3⟩;exact hl k hk),h1,hs⟩))
   exact Rr (λt=>t.AF) Gt (λt l h=>⟨h.1,h.2.2⟩) λt ⟨_,h1,h2,_⟩=>B8 Gt λ_ _=>B8 (A.og .ex (by simp) _) λa ⟨_,h3,h4,_⟩=>B8 Gt λ_ _=>B8 (P:=T2) (λ_ _ _ hs hl h=>wS _ _ _ hs hl h) λl _=>B8 Gt λe _=>Vi (B8 (wT _ _) λr _=>DU λs hs=>⟨(KO _).2 ⟨h2,acK ⟨h4,h3⟩⟩,h1,hs⟩)
end
end Mo
end Go.Proofs.YtpbkhogolfegfaaGreatDoor
