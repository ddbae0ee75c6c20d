/- Part of a proof: see the last text. -/
import Derived.Test.YtpbkhogolfegfaaGreatDoorPng
set_option linter.unusedVariables false
set_option linter.unusedSimpArgs false
set_option linter.defProp false
noncomputable section
open Array renaming getElem?_eq_some_iff->aOA
open Bool renaming and_eq_true->bcA,and_eq_true_iff->bkY,and_self->bpV,eq_iff_iff->bjP
open Classical renaming propDecidable->bqE
open List renaming drop_zero->bjJ,replicate->bkT
open List.cons renaming sizeOf_spec->bnC
open Nat renaming le_of_ble_eq_true->bcG,le_refl->aOC,le_trans->bjH,lt_of_lt_of_le->bcC,lt_succ_self->bkM,not_lt_zero->bmN,zero_add->bcD
open Option.some renaming injEq->aOE
open Prod.mk renaming injEq->biY
namespace AI
open Go Go.RowKit
class GP(G:AK):Prop where
 h:∀g cs,G g=some cs->Bz cs=true
mutual
def wkV:AV->AV->AV
 | .sl .full n cs,.sl .lost _ ds=>.sl .lost n (Zk cs ds)
 | .sl _ n cs,.sl .lost _ _=>.sl .lost n cs
 | .agg cs,.agg ds=>.agg (Zk cs ds)
 | .E9 cs,.E9 ds=>.E9 (Zk cs ds)
 | a,.any=>pQ a
 | a,_=>a
def Zk:List AV->List AV->List AV
 | a::l,b::k=>wkV a b::Zk l k
 | l,_=>l
end
section
variable {c:Cx} {w:World}
def ayH(n:Nat):(∀(a b:AV) (v:Value),sizeOf a < n->Rp c w a v->Rp c w (wkV a b) v)/\(∀(l k:List AV) (vs:List Value),sizeOf l < n->Cv c w l vs->Cv c w (Zk l k) vs)/\∀(l k:List AV) (g o:Nat),sizeOf l < n->A1 c w g o l->A1 c w g o (Zk l k):=by
 induction n with
 | zero=>exact⟨λ_ _ _ h=>absurd h (bmN _),λ_ _ _ h=>absurd h (bmN _),λ_ _ _ _ h=>absurd h (bmN _)⟩
 | succ n ih =>
   obtain⟨h1,h2,h3⟩:=ih;refine⟨λa b v hn hr=>?_,λl k vs hn hr=>?_,λl k g o hn hr=>?_⟩;unfold wkV;split;rename_i m cs q ds;simp only[AV.sl.sizeOf_spec] at hn;cases hr with
   | sl0 _=>unfold Zk;exact .sl0 trivial
   | K6 hm hc _=>exact .K6 hm (h3 _ _ _ _ (by omega) hc) trivial
   cases hr with
   | sl0 _=>exact .sl0 trivial
   | K6 hm hc _=>exact .K6 hm hc trivial
   simp only[AV.agg.sizeOf_spec] at hn;cases hr with | agg h=>exact .agg (h2 _ _ _ (by omega) h)
   simp only[AV.E9.sizeOf_spec] at hn;cases hr with | E9 h=>exact .E9 (h2 _ _ _ (by omega) h)
   exact mI hr;exact hr;unfold Zk;split;simp only[bnC] at hn;cases hr with | cons h t=>exact .cons (h1 _ _ _ (by omega) h) (h2 _ _ _ (by omega) t)
   exact hr;unfold Zk;split;simp only[bnC] at hn;cases hr with | cons hv h t=>exact .cons hv (h1 _ _ _ (by omega) h) (h3 _ _ _ _ (by omega) t)
   exact hr
def aTV{a b:AV}{v:Value}(h:Rp c w a v):Rp c w (wkV a b) v:=(ayH _).1 _ _ _ (bkM _) h
def aiS{l k:List AV}{vs:List Value}(h:Cv c w l vs):Cv c w (Zk l k) vs:=(ayH _).2.1 _ _ _ (bkM _) h
end
def wkB:Ao->Ao->Ao
 | .cells cs,.cells ds=>.cells (Zk cs ds)
 | b,_=>b
def wkH:List (Nat×Ao)->List (Nat×Ao)->List (Nat×Ao)
 | e::l,d::k=>(e.1,wkB e.2 d.2)::wkH l k
 | l,_=>l
def aTU{c:Cx}{w:World}{a b:Ao}{o:Obj}(h:EA c w a o):EA c w (wkB a b) o:=by
 unfold wkB;split;cases h with | GA ext h1=>exact .GA ext (aiS h1)
 exact h
def zF:∀{l k:List (Nat×Ao)} {n:Nat},Kx l n->Kx (wkH l k) n
 | [],k,_,h=>by cases k<;>exact h
 | _::_,[],_,h=>h
 | _::_,_::_,_,h=>⟨h.1,zF h.2⟩
def zG:∀{l k:List (Nat×Ao)} {id:Nat} {b:Ao},look id (wkH l k)=some b->∃b',look id l=some b'/\∀c w o,EA c w b' o->EA c w b o
 | [],k,_,_,h=>by cases k<;>cases h
 | e::l,[],_,b,h=>⟨b,h,λ_ _ _ h=>h⟩
 | e::l,d::k,id,b,h=>by
   simp only[wkH,look] at h ⊢;split at h;cases h;exact⟨_,rfl,λ_ _ _ h=>aTU h⟩;exact zG h
class Un(a:AV)(q:outParam (Nat->Nat->Bool)):Prop where
 h:∀n m,q n m=true->under n m a=true
class zQ(l:List AV)(q:outParam (Nat->Nat->Bool)):Prop where
 h:∀n m,q n m=true->Ey n m l=true
abbrev qT:Nat->Nat->Bool:=λ_ _=>true
abbrev qA(p q:Nat->Nat->Bool):Nat->Nat->Bool:=λn m=>p n m&&q n m
abbrev qN(i:Nat):Nat->Nat->Bool:=λn _=>Nat.blt i n
class tD(a:AV):Prop where
 h:plain a=true
class Ll(l:List AV):Prop where
 h:Bz l=true
instance {v:Value}:tD (.sc v):=⟨rfl⟩
instance:tD .any:=⟨rfl⟩
instance {cs:List AV} [i:Ll cs]:tD (.agg cs):=⟨i.h⟩
instance {cs:List AV} [i:Ll cs]:tD (.E9 cs):=⟨i.h⟩
instance {cs:List AV} [i:Ll cs]:tD (.el cs):=⟨i.h⟩
instance {t:TypeId} {v:AV} [i:tD v]:tD (.ifc t v):=⟨by simp only[plain];exact i.h⟩
instance {f:Fn} {a b:List AV} [i:Ll a] [j:Ll b]:tD (.fn f a b):=⟨by simp only[plain,i.h,j.h];rfl⟩
instance {n:Nat} {cs:List AV} [i:Ll cs]:tD (.sl .lost n cs):=⟨by simp only[plain,i.h];rfl⟩
instance {n:Nat} {cs:List AV} [i:Ll cs]:tD (.sl .full n cs):=⟨by simp only[plain,i.h];rfl⟩
instance {n:Nat} {cs:List AV} [i:Ll cs]:tD (.sl .nn n cs):=⟨by simp only[plain,i.h];rfl⟩
instance:Ll []:=⟨rfl⟩
instance {a:AV} {l:List AV} [i:tD a] [j:Ll l]:Ll (a::l):=⟨Hj i.h j.h⟩
instance (priority:=low) {a l:List AV} [i:Ll a] [j:Ll l]:Ll (a++l):=⟨xF i.h j.h⟩
class MO(P:Program):Prop where
 h:P.follows .mixedOrders=true
instance (priority:=low) {l:List AV} [i:Ll l]:zQ l qT:=⟨λn m _=>Eo n m i.h⟩
instance {v:Value}:Un (.sc v) qT:=⟨λ_ _ _=>rfl⟩
instance:Un .any qT:=⟨λ_ _ _=>rfl⟩
instance {i o:Nat}:Un (.ptr i o) (qN i):=⟨λ_ _ h=>decide_eq_true (bcG h)⟩
instance {i o k:Nat}:Un (.msl i o k) (qN i):=⟨λ_ _ h=>decide_eq_true (bcG h)⟩
instance {i:Nat}:Un (.mp i) (qN i):=⟨λ_ _ h=>decide_eq_true (bcG h)⟩
instance {cs:List AV} {q} [i:zQ cs q]:Un (.agg cs) q:=⟨λn m h=>by simp only[under];exact i.h n m h⟩
instance {cs:List AV} {q} [i:zQ cs q]:Un (.E9 cs) q:=⟨λn m h=>by simp only[under];exact i.h n m h⟩
instance {cs:List AV} {q} [i:zQ cs q]:Un (.el cs) q:=⟨λn m h=>by simp only[under];exact i.h n m h⟩
instance {t:TypeId} {v:AV} {q} [i:Un v q]:Un (.ifc t v) q:=⟨λn m h=>by simp only[under];exact i.h n m h⟩
instance {f:Fn} {a b:List AV} {q r} [i:zQ a q] [j:zQ b r]:Un (.fn f a b) (qA q r):=⟨λn m h=>by
 have h:=bkY.1 h;simp only[under,i.h n m h.1,j.h n m h.2,bpV]⟩
instance {k:Nat} {cs:List AV} {q} [i:zQ cs q]:Un (.sl .lost k cs) q:=⟨λn m h=>by simp only[under,i.h n m h,bpV]⟩
instance {k:Nat} {cs:List AV} {q} [i:zQ cs q]:Un (.sl .full k cs) q:=⟨λn m h=>by simp only[under,i.h n m h,bpV]⟩
instance {k r z:Nat} {cs:List AV} {q} [i:zQ cs q]:Un (.sl (.row r z) k cs) (qA (λ_ m=>Nat.blt r m) q):=⟨λn m h=>by
 have h:=bkY.1 h;simp only[under,i.h n m h.2,Bool.and_true];exact decide_eq_true (bcG h.1)⟩
instance:zQ [] qT:=⟨λ_ _ _=>rfl⟩
instance {a:AV} {l:List AV} {q r} [i:Un a q] [j:zQ l r]:zQ (a::l) (qA q r):=⟨λn m h=>by
 have h:=bkY.1 h;simp only[Ey,i.h n m h.1,j.h n m h.2,bpV]⟩
def iY{n m:Nat}:∀{a l:List AV},Ey n m a=true->Ey n m l=true->Ey n m (a++l)=true
 | [],_,_,h=>h
 | x::a,l,h,k=>by
   simp only[Ey,bcA,List.cons_append] at h ⊢;exact⟨h.1,iY h.2 k⟩
instance (priority:=low) {a l:List AV} {q r} [i:zQ a q] [j:zQ l r]:zQ (a++l) (qA q r):=⟨λn m h=>by
 have h:=bkY.1 h;exact iY (i.h n m h.1) (j.h n m h.2)⟩
class UnB(b:Ao)(q:outParam (Nat->Nat->Bool)):Prop where
 h:∀n m,q n m=true->Tw n m b b
class UnH(l:List (Nat×Ao))(q:outParam (Nat->Nat->Bool)):Prop where
 h:∀n m,q n m=true->∀id b,look id l=some b->Tw n m b b
class UnS(s:AS)(q:outParam (Nat->Nat->Bool)):Prop where
 h:∀n m,q n m=true->∀id b,look id s.h=some b->Tw n m b b
instance {cs:List AV} {q} [i:zQ cs q]:UnB (.cells cs) q:=⟨λn m h=>.cells (.under (i.h n m h))⟩
instance:UnH [] qT:=⟨λ_ _ _ _ _ h=>by cases h⟩
instance {i:Nat} {b:Ao} {l:List (Nat×Ao)} {q r} [x:UnB b q] [y:UnH l r]:UnH ((i,b)::l) (qA q r):=⟨λn m h id b' hl=>by
 have h:=bkY.1 h;simp only[look] at hl;split at hl;cases hl;exact x.h n m h.1;exact y.h n m h.2 id b' hl⟩
instance {h:List (Nat×Ao)} {n m:Nat} {F:List (Nat×Nat)} {q} [x:UnH h q]:UnS ⟨h,n,F,m⟩ q:=⟨x.h⟩
class Tg(v:AV)(x:outParam AV):Prop where
 eq:x=v
instance (priority:=low) {v:AV}:Tg v v:=⟨rfl⟩
class UnE(l:List (Nat×AV))(q:outParam (Nat->Nat->Bool)):Prop where
 h:∀n m,q n m=true->∀e,e∈l->under n m e.2=true
instance:UnE [] qT:=⟨λ_ _ _ _ h=>by cases h⟩
instance {t:Nat} {a:AV} {l:List (Nat×AV)} {q r} [x:Un a q] [y:UnE l r]:UnE ((t,a)::l) (qA q r):=⟨λn m h e he=>by
 have h:=bkY.1 h;cases he with
 | head=>exact x.h n m h.1
 | tail _ h2=>exact y.h n m h.2 e h2⟩
def Xq{n m:Nat}:∀(k p:Nat) (l:List (Nat×AV)) (bs:List Nat) (kb:Nat) (j:List Value),(∀e,e∈l->under n m e.2=true)->Ey n m (frQ k p l bs kb j)=true
 | 0,_,_,_,_,_,_=>rfl
 | k+1,p,l,bs,kb,j,h=>by
   unfold frQ;split
   · rename_i v hv
     cases l with
     | nil=>simp only[frm.hd1] at hv;cases hv
     | cons e l =>
       simp only[frm.hd1] at hv;cases hb:e.1.beq p<;>rw[hb] at hv
       cases hv;cases hv;simp only[Ey,bcA];exact⟨h _ (.head _),Xq k _ _ _ _ _ λe he=>h e (.tail _ he)⟩
   split;simp only[Ey,bcA];exact⟨rfl,Xq k _ _ _ _ _ h⟩;simp only[Ey,bcA];exact⟨rfl,Xq k _ _ _ _ _ h⟩
def amL{n m:Nat}{l k:List AV}(h:Zk l k=k)(hu:Ey n m k=true):KF n m l k:=λc w vs hr=>by
 have:=aiS (k:=k) hr;rw[h] at this;exact this.upto hu
section
variable {P:Program} {G:AK} {α β γ δ ρ κ:Type}
def abD[gp:GP G]{s0 s' s2:AS}{fr' fr2:List AV}{qb:Nat->Nat->Bool}[ub:UnS s2 qb](hf:KF s0.nx s0.nr fr' fr2)(hq:qb s0.nx s0.nr=true)(e:⟨wkH (Qp s0.nx s'.h) s2.h,s0.nx,TO s0.nr s'.F,s0.nr⟩=s2):Frg G s0 fr' s' fr2 s2:=by
 intro cx w c' w' vs hx hs hs' hfr;have hb:=ub.h s0.nx s0.nr hq;have eh:wkH (Qp s0.nx s'.h) s2.h=s2.h:=congrArg AS.h e;have en:s0.nx=s2.nx:=by rw[<- e]
 have eF:TO s0.nr s'.F=s2.F:=congrArg AS.F e;have er:s0.nr=s2.nr:=by rw[<- e]
 refine aAB gp.h (s:=s0) (s2:=s2) en.symm er.symm ?_ (λid b h=>?_) (λr n hr=>?_) hf cx w c' w' vs hx hs hs' hfr;rw[<- eh,<- en];exact zF (vD hs'.desc);have h':=h;rw[<- eh] at h';obtain⟨b',h3,h4⟩:=zG h';exact⟨b',VZ hs'.desc h3,λc w o ho=>hb id b h c w o (h4 c w o ho)⟩;rw[<- eF] at hr;exact vI hr
def T(_l:List (PC P G))(M:Option α)(Z:α->Prop):Prop:=∀r,M=some r->Z r
class Ht(P:Program)(G:AK){β:Type}(m:Option β) where
 c:∀y,m=some y->List (PC P G)
class Hs(P:Program)(G:AK){α δ γ:Type}(m:Option ((α⊕δ)×γ)) where
 l:∀a c,m=some (.inl a,c)->List (PC P G)
 r:∀d c,m=some (.inr d,c)->List (PC P G)
variable {l:List (PC P G)} {m:Option β} {k:β->Option α} {Z:α->Prop}
def tB(h:∀y (_:m=some y),T l (k y) Z):T l (m.bind k) Z:=λr e=>by
 obtain⟨y,h1,h2⟩:=pF e;exact h y h1 r h2
def tH[i:Ht P G m](h:∀y (e:m=some y),T (l++i.c y e) (k y) Z):T l (m.bind k) Z:=tB h
def tS{m:Option ((β⊕δ)×γ)}{k:(β⊕δ)×γ->Option α}[i:Hs P G m](h:∀a c (e:m=some (.inl a,c)),T (l++i.l a c e) (k (.inl a,c)) Z)(h':∀d c (e:m=some (.inr d,c)),T (l++i.r d c e) (k (.inr d,c)) Z):T l (m.bind k) Z:=tB λy e=>by
 obtain⟨y | y,c⟩:=y;exact h y c e;exact h' y c e
def Rl{m:Option ((β⊕δ)×γ)}{k:(β⊕δ)×γ->Option α}(h:∀a c (_:m=some (.inl a,c)),T l (k (.inl a,c)) Z)(h':∀d c (_:m=some (.inr d,c)),T l (k (.inr d,c)) Z):T l (m.bind k) Z:=tB λy e=>by
 obtain⟨y | y,c⟩:=y;exact h y c e;exact h' y c e
def tW{m:Option (β×γ)}{k:β×γ->Option α}(h:∀a c (_:m=some (a,c)),T l (k (a,c)) Z):T l (m.bind k) Z:=tB λy e=>h y.1 y.2 e
def tWH{m:Option (β×γ)}{k:β×γ->Option α}[i:Ht P G m](h:∀a c (e:m=some (a,c)),T (l++i.c (a,c) e) (k (a,c)) Z):T l (m.bind k) Z:=tB λy e=>h y.1 y.2 e
def tW3{m:Option (β×γ×δ)}{k:β×γ×δ->Option α}(h:∀a b c (_:m=some (a,b,c)),T l (k (a,b,c)) Z):T l (m.bind k) Z:=tB λy e=>h y.1 y.2.1 y.2.2 e
def bgQ{ε:Type}{m:Option ((β⊕δ)×γ×ε)}{k:(β⊕δ)×γ×ε->Option α}(h:∀a c d (_:m=some (.inl a,c,d)),T l (k (.inl a,c,d)) Z)(h':∀b c d (_:m=some (.inr b,c,d)),T l (k (.inr b,c,d)) Z):T l (m.bind k) Z:=tB λy e=>by
 obtain⟨y | y,c,d⟩:=y;exact h y c d e;exact h' y c d e
def tF(f:List (PC P G)){M:Option α}(h:T (l++f) M Z):T l M Z:=h
def tP0{m:Option Bool}{A B:Bool->Option α}(h:m=some true->T l (A true) Z)(h':m=some false->T l (B false) Z):T l (m.bind λy=>cond y (A y) (B y)) Z:=tB λy e=>by
 cases y;exact h' e;exact h e
def tP{m:Option Bool}{A B:Bool->Option α}[i:Ht P G m](h:∀e:m=some true,T (l++i.c true e) (A true) Z)(h':∀e:m=some false,T (l++i.c false e) (B false) Z):T l (m.bind λy=>cond y (A y) (B y)) Z:=tP0 h h'
def Qg{m:Option Bool}{A B:Bool->Option α}(c:∀y,m=some y->List (PC P G))(h:∀e:m=some true,T (l++c true e) (A true) Z)(h':∀e:m=some false,T (l++c false e) (B false) Z):T l (m.bind λy=>cond y (A y) (B y)) Z:=tP0 h h'
def Zc{A B:Option α}(h:T l A Z):T l (cond true A B) Z:=h
def Zb{A B:Option α}(h:T l B Z):T l (cond false A B) Z:=h
def tC0{b:Bool}{A B:Option α}(h:b=true->T l A Z)(h':b=false->T l B Z):T l (cond b A B) Z:=by
 cases b;exact h' rfl;exact h rfl
def tC{b:Bool}{A B:Option α}(h:∀e:b=true,T (l++[pb e]) A Z)(h':∀e:b=false,T (l++[pb e]) B Z):T l (cond b A B) Z:=tC0 h h'
def tN{b:Bool}{A B:Option α}(h:∀e:b=true,T (l++[pn e]) A Z)(h':∀e:b=false,T (l++[pn e]) B Z):T l (cond b A B) Z:=tC0 h h'
def tL{n:Nat}{A:Option α}(h:n<=9223372036854775807->T l A Z):T l (Cs n A) Z:=λr e=>h (aQW e).1 r (aQW e).2
def tLA{n:Nat}{A:Option α}(h:n<=100000000->T l A Z):T l (Qa n A) Z:=λr e=>h (atA e).1 r (atA e).2
def tO:T l (none:Option α) Z:=λ_ e=>by cases e
def pH{f:Func}(h:f.body.isSome=true):f.body=some (Ci f):=by
 unfold Ci;cases hb:f.body with
 | none=>rw[hb] at h;cases h
 | some c=>rfl
section
variable [mo:MO P] {f:FuncId} {fn:Func} {args:List AV} {s0:AS}
def sM1{M:Option (α)}{x:α}(h:M=some x)(hf:P.funcs[f]?=some fn)(hb:fn.body.isSome=true:=by kernel_rfl){R:α->CR}{S:α->AS}(t:T ([]:List (PC P G)) M λr=>W P G (XS P G) H0 (Ci fn) (args++bkT (fn.ntmps - args.length) (.sc undef)) s0 (S0 P fn s0.nx (QM G s0 (R r) (S r)))):Sound P G (.call f args s0 (R x) (S x)):=adK mo.h (R4 hf (pH hb) (t _ h))
def PP{M:Option (α×β)}{x:α}{y:β}(h:M=some (x,y))(hf:P.funcs[f]?=some fn)(hb:fn.body.isSome=true:=by kernel_rfl){R:α->β->CR}{S:α->β->AS}(t:T ([]:List (PC P G)) M λr=>W P G (XS P G) H0 (Ci fn) (args++bkT (fn.ntmps - args.length) (.sc undef)) s0 (S0 P fn s0.nx (QM G s0 (R (r.1) (r.2)) (S (r.1) (r.2))))):Sound P G (.call f args s0 (R x y) (S x y)):=adK mo.h (R4 hf (pH hb) (t _ h))
def sM3{M:Option (α×β×γ)}{x:α}{y:β}{z:γ}(h:M=some (x,y,z))(hf:P.funcs[f]?=some fn)(hb:fn.body.isSome=true:=by kernel_rfl){R:α->β->γ->CR}{S:α->β->γ->AS}(t:T ([]:List (PC P G)) M λr=>W P G (XS P G) H0 (Ci fn) (args++bkT (fn.ntmps - args.length) (.sc undef)) s0 (S0 P fn s0.nx (QM G s0 (R (r.1) (r.2.1) (r.2.2)) (S (r.1) (r.2.1) (r.2.2))))):Sound P G (.call f args s0 (R x y z) (S x y z)):=adK mo.h (R4 hf (pH hb) (t _ h))
def uM[gp:GP G]{M:Option α}{x:α}(h:M=some x)(hf:P.funcs[f]?=some fn)(hb:fn.body.isSome=true:=by kernel_rfl){E:α->AV}[hp:Ll args][hv:∀r,tD (E r)](t:T ([]:List (PC P G)) M λr=>W P G (XS P G) H0 (Ci fn) (args++bkT (fn.ntmps - args.length) (.sc undef)) AI.s0 (S0 P fn AI.s0.nx (λq _=>∃a,q=.ret a/\Fits 0 0 a (E r)))):Pure P G f args (E x):=ahC mo.h gp.h (R4 hf (pH hb) (t _ h)) hp.h (hv x).h
end
end
end AI
namespace AI
open Go Go.RowKit
def N9{P:Program}{G:AK}:PC P G:=⟨.sb (.map [] 0) (.map [] 0),[],trivial⟩
def pick(l:List AV):List Nat->List Value
 | []=>[]
 | b::bs=>(match l.drop b with | .sc v::_=>v | _=>undef)::pick l bs
def jR(bs:List Nat):HR->List Value
 | some (_,_,_,l,_)=>pick l bs
 | none=>[]
def aWS(n:Nat):List Nat->Bool
 | []=>false
 | m::l=>(match Nat.beq n m with | true=>true | false=>aWS n l)
def df(ds:List Nat):List (Nat×AV)->List (Nat×AV)
 | []=>[]
 | e::l=>(match aWS e.1 ds with | true=>df ds l | false=>e::df ds l)
class TgE(l:List (Nat×AV))(x:outParam (List (Nat×AV))):Prop where
 eq:x=l
instance:TgE [] []:=⟨rfl⟩
instance {t:Nat} {a b:AV} {l x:List (Nat×AV)} [i:Tg a b] [j:TgE l x]:TgE ((t,a)::l) ((t,b)::x):=⟨by rw[i.eq,j.eq]⟩
def aDK(P:Program)(fn:Func)(m n0 m0:Nat)(x:AV)(H:List (Nat×Ao))(q:Bool):HR->Option (AX×List Cd×AV×AS×Bool)
 | some (.fin e,[],cd,fr,s)=>(match F8 P s fn fr with
   | some v=>some (e,cd,wkV v x,⟨wkH (Qp n0 (s.cut m).h) H,n0,TO m0 (s.cut m).F,m0⟩,q)
   | none=>none)
 | _=>none
def aCP(m n0 m0:Nat)(x:AV)(H:List (Nat×Ao))(q:Bool):HR->Option (List Cd×AV×AS×Bool)
 | some (.fin (.pan v),[],cd,_,s)=>some (cd,wkV v x,⟨wkH (Qp n0 (s.cut m).h) H,n0,TO m0 (s.cut m).F,m0⟩,q)
 | _=>none
def ahB(P:Program)(fn:Func)(x:AV)(q:Bool):HR->Option (List Cd×AV×Bool)
 | some (.fin .ret,[],cd,fr,s)=>(match F8 P s fn fr with
   | some v=>some (cd,wkV v x,q)
   | none=>none)
 | _=>none
def aSN(n0 m0:Nat)(tgt:List AV)(H:List (Nat×Ao))(q:Bool):HR->Option (AX×List Cd×List AV×AS×Bool)
 | some (.fin e,[],cd,fr,s)=>some (e,cd,Zk fr tgt,⟨wkH (Qp n0 s.h) H,n0,TO m0 s.F,m0⟩,q)
 | _=>none
def fits1{n m:Nat}{a x v:AV}{q:Nat->Nat->Bool}(tg:Tg v x)(un:Un v q)(h:wkV a x=x)(hq:q n m=true):Fits n m a v:=λc w u hr=>by
 have:=aTV (b:=x) hr;rw[h,tg.eq] at this;exact this.upto (un.h n m hq)
section
variable {P:Program} {G:AK} {α β γ δ ρ κ:Type} {l:List (PC P G)} {Z:α->Prop}
def rU{c:Code}{fr:List AV}{s:AS}{Q:AX->List AV->AS->Prop}:K9 P G l Q (U4 P G 300 c [] (pHs l) fr s) (W P G (XS P G) H0 c fr s Q):=yE 300 l
def rB{ks:List KI}{fr:List AV}{s:AS}{Q:AX->List AV->AS->Prop}:K9 P G l Q (P7 (U4 P G 300) ks .normal (pHs l) fr s) (CQ P G ks Q .normal fr s):=bgM 300 l
section
variable {hr:HR} {Q:AX->List AV->AS->Prop} {fn:Func} {m:Nat} {s0 s2:AS} {v x:AV} {q qb:Nat->Nat->Bool} {X:Prop}
def aZM[gp:GP G](R:K9 P G l Q hr X)(k:W4 P G fn m s0 Q v s2)[tg:Tg v x][un:Un v q][us:UnS s2 qb](h:aDK P fn m s0.nx s0.nr x s2.h (cond (q s0.nx s0.nr) (qb s0.nx s0.nr) false) hr=some (.ret,T8 l,x,s2,true)):X:=by
 unfold aDK at h;split at h;split at h;rename_i v' hv;simp only[aOE,biY] at h;obtain⟨rfl,rfl,h1,h2,h3⟩:=h;have hq:q s0.nx s0.nr=true:=by cases hh:q s0.nx s0.nr with | true=>rfl | false=>rw[hh] at h3;cases h3
 have hb:qb s0.nx s0.nr=true:=by rw[hq] at h3;exact h3
 exact R _ _ _ _ rfl (Pk l) (k _ _ (abD (.cons (fits1 tg un h1 hq) .nil) hb h2) _ _ hv rfl);cases h;cases h
def aZC[gp:GP G](R:K9 P G l Q hr X)(k:Ym G m s0 Q v s2)[tg:Tg v x][un:Un v q][us:UnS s2 qb](h:aCP m s0.nx s0.nr x s2.h (cond (q s0.nx s0.nr) (qb s0.nx s0.nr) false) hr=some (T8 l,x,s2,true)):X:=by
 unfold aCP at h;split at h;simp only[aOE,biY] at h;obtain⟨rfl,h1,h2,h3⟩:=h;have hq:q s0.nx s0.nr=true:=by cases hh:q s0.nx s0.nr with | true=>rfl | false=>rw[hh] at h3;cases h3
 have hb:qb s0.nx s0.nr=true:=by rw[hq] at h3;exact h3
 exact R _ _ _ _ rfl (Pk l) (k _ _ (abD (.cons (fits1 tg un h1 hq) .nil) hb h2) _ _ rfl);cases h
def aJV(R:K9 P G l Q hr X)(k:cP P fn m Q v)[tg:Tg v x][un:Un v q](h:ahB P fn x (q 0 0) hr=some (T8 l,x,true)):X:=by
 unfold ahB at h;split at h;split at h;rename_i v' hv;simp only[aOE,biY] at h;obtain⟨rfl,h1,h3⟩:=h;exact R _ _ _ _ rfl (Pk l) (k _ _ (fits1 tg un h1 h3) _ _ hv rfl);cases h;cases h
def bgK[gp:GP G]{L:Code}{y:AX}{n:Nat}{LL LX:List (Nat×AV)}{bs:List Nat}(R:K9 P G l (I9 P G L s0 Q) hr X)(hy:y=.normal\/∃id,y=.exit id)(a:∀fr' s',Frg G s0 fr' s' (fr n LL bs (jR bs hr)) s2->I9 P G L s0 Q y fr' s')[te:TgE LL LX][ue:UnE LL q][us:UnS s2 qb](h:aSN s0.nx s0.nr (fr n LX bs (jR bs hr)) s2.h (cond (q s0.nx s0.nr) (qb s0.nx s0.nr) false) hr=some (y,T8 l,fr n LX bs (jR bs hr),s2,true)):X:=by
 unfold aSN at h;split at h;simp only[aOE,biY] at h;obtain⟨rfl,rfl,h1,h2,h3⟩:=h;have hq:q s0.nx s0.nr=true:=by cases hh:q s0.nx s0.nr with | true=>rfl | false=>rw[hh] at h3;cases h3
 have hb:qb s0.nx s0.nr=true:=by rw[hq] at h3;exact h3
 have e:=te.eq;subst e;exact R _ _ _ _ rfl (Pk l) (a _ _ (abD (amL h1 (Xq _ _ _ _ _ _ (ue.h _ _ hq))) hb h2));cases h
end
section
variable {hr:HR} {fn:Func} {m:Nat} {s0 s2:AS} {v x:AV} {q qb:Nat->Nat->Bool} {y:α}
section
variable {Q:AX->List AV->AS->Prop}
def tR[gp:GP G](R:K9 P G l Q hr (Z y))(k:W4 P G fn m s0 Q v s2)[tg:Tg v x][un:Un v q][us:UnS s2 qb](h:aDK P fn m s0.nx s0.nr x s2.h (cond (q s0.nx s0.nr) (qb s0.nx s0.nr) false) hr=some (.ret,T8 l,x,s2,true):=by kernel_rfl):T l (some y) Z:=λr e=>by
 cases e;exact aZM R k h
def tQ[gp:GP G](R:K9 P G l Q hr (Z y))(k:Ym G m s0 Q v s2)[tg:Tg v x][un:Un v q][us:UnS s2 qb](h:aCP m s0.nx s0.nr x s2.h (cond (q s0.nx s0.nr) (qb s0.nx s0.nr) false) hr=some (T8 l,x,s2,true):=by kernel_rfl):T l (some y) Z:=λr e=>by
 cases e;exact aZC R k h
def tA(R:K9 P G l Q hr (Z y))(k:cP P fn m Q v)[tg:Tg v x][un:Un v q](h:ahB P fn x (q 0 0) hr=some (T8 l,x,true):=by kernel_rfl):T l (some y) Z:=λr e=>by
 cases e;exact aJV R k h
end
def Rv(Qt:ρ->AX->List AV->AS->Prop)(Q':AX->List AV->AS->Prop)(v:ρ):Prop:=(∀fr s,Qt v .ret fr s->Q' .ret fr s)/\∀p fr s,Qt v (.pan p) fr s->Q' (.pan p) fr s
def Rv.loop{Qt:ρ->AX->List AV->AS->Prop}{Q':AX->List AV->AS->Prop}{v:ρ}{id:Nat}{ks:List KI}(h:Rv Qt Q' v):Rv Qt (Eu id (CQ P G ks Q')) v:=⟨λfr s hq=>amD (h.1 fr s hq),λp fr s hq=>amC (h.2 p fr s hq)⟩
def Rv.rnd{Qt:ρ->AX->List AV->AS->Prop}{Q':AX->List AV->AS->Prop}{v:ρ}{L:Code}(h:Rv Qt Q' v):Rv Qt (I9 P G L s0 Q') v:=⟨h.1,h.2⟩
section
variable {Q Q':AX->List AV->AS->Prop} {Qt:ρ->AX->List AV->AS->Prop} {z:ρ} {A:γ->Prop} {B:δ->Prop} {X:Prop} {L:Code} {s1:AS}
def rvM(k:W4 P G fn m s0 (Qt z) v s2)(c:Rv Qt Q' z):W4 P G fn m s0 (I9 P G L s1 Q') v s2:=λa s' hf fr s hv hc=>c.1 fr s (k a s' hf fr s hv hc)
def rvP(k:Ym G m s0 (Qt z) v s2)(c:Rv Qt Q' z):Ym G m s0 (I9 P G L s1 Q') v s2:=λa s' hf fr s hc=>c.2 _ fr s (k a s' hf fr s hc)
def rvA(k:cP P fn m (Qt z) v)(c:Rv Qt Q' z):cP P fn m (I9 P G L s1 Q') v:=λa s2 hf fr s hv hc=>c.1 fr s (k a s2 hf fr s hv hc)
def tRl[gp:GP G](R:K9 P G l (I9 P G L s1 Q') hr X)(k:W4 P G fn m s0 (Qt z) v s2)[tg:Tg v x][un:Un v q][us:UnS s2 qb](h:aDK P fn m s0.nx s0.nr x s2.h (cond (q s0.nx s0.nr) (qb s0.nx s0.nr) false) hr=some (.ret,T8 l,x,s2,true):=by kernel_rfl):T l (some (Lp.rt z)) λr=>RQ A B (Rv Qt Q') r->X:=λr e=>by
 cases e;exact λc=>aZM R (rvM k c) h
def aY[gp:GP G](R:K9 P G l (I9 P G L s1 Q') hr X)(k:Ym G m s0 (Qt z) v s2)[tg:Tg v x][un:Un v q][us:UnS s2 qb](h:aCP m s0.nx s0.nr x s2.h (cond (q s0.nx s0.nr) (qb s0.nx s0.nr) false) hr=some (T8 l,x,s2,true):=by kernel_rfl):T l (some (Lp.rt z)) λr=>RQ A B (Rv Qt Q') r->X:=λr e=>by
 cases e;exact λc=>aZC R (rvP k c) h
def NC(R:K9 P G l (I9 P G L s1 Q') hr X)(k:cP P fn m (Qt z) v)[tg:Tg v x][un:Un v q](h:ahB P fn x (q 0 0) hr=some (T8 l,x,true):=by kernel_rfl):T l (some (Lp.rt z)) λr=>RQ A B (Rv Qt Q') r->X:=λr e=>by
 cases e;exact λc=>aJV R (rvA k c) h
variable {C:ρ->Prop} {n:Nat} {LL LX:List (Nat×AV)} {bs:List Nat}
def tX[gp:GP G]{y:γ}(R:K9 P G l (I9 P G L s0 Q) hr X)(a:A y->∀j,WL P G (XS P G) H0 L (fr n LL bs j) s2 Q)[te:TgE LL LX][ue:UnE LL q][us:UnS s2 qb](h:aSN s0.nx s0.nr (fr n LX bs (jR bs hr)) s2.h (cond (q s0.nx s0.nr) (qb s0.nx s0.nr) false) hr=some (.normal,T8 l,fr n LX bs (jR bs hr),s2,true):=by kernel_rfl):T l (some (Lp.nx y)) λr=>RQ A B C r->X:=λr e=>by
 cases e;exact λk=>bgK R (.inl rfl) (λ_ _ hf=>⟨_,_,hf,a k _⟩) h
def QK{y:γ}(R:K9 P G l (I9 P G L s0 Q) hr X)(a:A y->∀j,WL P G (XS P G) H0 L (fr n LL bs j) s2 Q)(h:Y3 (fr n LL bs (jR bs hr)) hr=some (.normal,T8 l,fr n LL bs (jR bs hr),s2):=by kernel_rfl):T l (some (Lp.nx y)) λr=>RQ A B C r->X:=λr e=>by
 cases e;exact λk=>aWF R h (a k _)
def cE{y:δ}{id:Nat}(R:K9 P G l (I9 P G L s0 Q) hr X)(a:B y->∀j,Q (.exit id) (fr n LL bs j) s2)(h:Y3 (fr n LL bs (jR bs hr)) hr=some (.exit id,T8 l,fr n LL bs (jR bs hr),s2):=by kernel_rfl):T l (some (Lp.ex y)) λr=>RQ A B C r->X:=λr e=>by
 cases e;exact λk=>aqG R h (a k _)
end
end
def acG{i n:Nat}(h:n<=i):Dd ((i:Nat):Int) ((n:Nat):Int)=false:=by rw[Sh];simp;omega
def NH{Q:ρ->AX->List AV->AS->Prop}:∀r v,(λv=>some v) v=some r->Rv Q (Q r) v:=λr v h=>by
 cases h;exact⟨λ_ _ h=>h,λ_ _ _ h=>h⟩
section
variable {ε:Type} {Qt:ρ->AX->List AV->AS->Prop} {id:Nat} {L:Code} {ks:List KI} {hr:HR} {z:List NZ} {n:Nat} {bs xb:List Nat}
abbrev Zp(P:Program)(G:AK)(Qt:ρ->AX->List AV->AS->Prop)(L:Code)(id n:Nat)(bs xb:List Nat)(F':γ->List (Nat×AV))(S:γ->AS)(XL:δ->List (Nat×AV))(SX:δ->AS)(Q':AX->List AV->AS->Prop)(fr0:List AV)(s:AS):Lp γ δ ρ->Prop:=λr=>RQ (λx'=>∀j',WL P G (XS P G) H0 L (fr n (F' x') bs j') (S x') Q') (exR Q' id (λd j=>fr n (XL d) xb j) SX) (Rv Qt Q') r->W P G (XS P G) H0 L fr0 s (I9 P G L s Q')
section
variable {body:Nat->ε->γ->Option (Lp γ δ ρ)} {done:γ->δ} {lC:List ε} {i0:Nat} {x:γ}
abbrev aZ(P:Program)(G:AK)(L:Code)(fr0:List AV)(s:AS){n i:Nat}(h:n<=i):HR:=U4 P G 300 L [] (pHs [pb (P:=P) (G:=G) (acG h)]) fr0 s
def tFo{k:δ->Option α}{Q:α->AX->List AV->AS->Prop}(kr:ρ->Option α)(n:Nat)(bs xb:List Nat)(FL:Nat->γ->List (Nat×AV))(S:γ->AS)(XL:δ->List (Nat×AV))(SX:δ->AS)(z:List NZ)(id:Nat)(L:Code)(ks:List KI)
   (R:∀r,K9 P G l (Q r) hr (Z r)) (hv:∀r v,kr v=some r->Rv Qt (Q r) v)
   (hB:∀r0 i y x j,lC[i]?=some y->i < lC.length->i < 9223372036854775807->T ([]:List (PC P G)) (body i y x) (Zp P G Qt L id n bs xb (FL (i+1)) S XL SX (Eu id (CQ P G ks (Q r0))) (fr n (FL i x) bs j) (S x)))
   (hb:∀d j,T ([]:List (PC P G)) (k d) λr=>CQ P G ks (Q r) .normal (fr n (XL d) xb j) (SX d))
   (hA:kH z (fr n (FL i0 x) bs (jR bs hr)) hr=some (T8 l,id,L,ks,fr n (FL i0 x) bs (jR bs hr),S x):=by kernel_rfl)
   (hZ:∀i x j (h:lC.length<=i),Y3 (fr n (XL (done x)) xb (jR xb (aZ P G L (fr n (FL i x) bs j) (S x) h))) (aZ P G L (fr n (FL i x) bs j) (S x) h)=some (.exit id,T8 [pb (P:=P) (G:=G) (acG h)],fr n (XL (done x)) xb (jR xb (aZ P G L (fr n (FL i x) bs j) (S x) h)),SX (done x)):=by (intro i x j h;kernel_rfl)) :
   T l ((Cs lC.length (Bs body done (lC.drop i0) i0 x)).bind (H8 k kr)) Z:=λr =>
 aVB (Q:=Q r) (Rv Qt) (λi x j=>fr n (FL i x) bs j) S (λd j=>fr n (XL d) xb j) SX _ (aAH z id L ks (R r) hA) (λi x j h hq=>aqG (yE 300 [pb (acG h)]) (hZ i x j h) (hq _)) (λi y x j r' h1 h2 h3 hk e=>hB r i y x j h1 h2 h3 r' e hk) (λd j e=>hb d j r e) (λv e=>(hv r v e).loop)
def tFi{k:δ->Option (Lp κ β ρ)}{A:κ->Prop}{B:β->Prop}{Q0:AX->List AV->AS->Prop}{L0:Code}{s0:AS}{X:Prop}(n:Nat)(bs xb:List Nat)(FL:Nat->γ->List (Nat×AV))(S:γ->AS)(XL:δ->List (Nat×AV))(SX:δ->AS)(z:List NZ)(id:Nat)(L:Code)(ks:List KI)
   (R:K9 P G l (I9 P G L0 s0 Q0) hr X)
   (hB:∀i y x j,lC[i]?=some y->i < lC.length->i < 9223372036854775807->T ([]:List (PC P G)) (body i y x) (Zp P G Qt L id n bs xb (FL (i+1)) S XL SX (Eu id (CQ P G ks (I9 P G L0 s0 Q0))) (fr n (FL i x) bs j) (S x)))
   (hb:∀d j,T ([]:List (PC P G)) (k d) λr=>RQ A B (Rv Qt Q0) r->CQ P G ks (I9 P G L0 s0 Q0) .normal (fr n (XL d) xb j) (SX d))
   (hA:kH z (fr n (FL i0 x) bs (jR bs hr)) hr=some (T8 l,id,L,ks,fr n (FL i0 x) bs (jR bs hr),S x):=by kernel_rfl)
   (hZ:∀i x j (h:lC.length<=i),Y3 (fr n (XL (done x)) xb (jR xb (aZ P G L (fr n (FL i x) bs j) (S x) h))) (aZ P G L (fr n (FL i x) bs j) (S x) h)=some (.exit id,T8 [pb (P:=P) (G:=G) (acG h)],fr n (XL (done x)) xb (jR xb (aZ P G L (fr n (FL i x) bs j) (S x) h)),SX (done x)):=by (intro i x j h;kernel_rfl)) :
   T l ((Cs lC.length (Bs body done (lC.drop i0) i0 x)).bind (H8 k λv=>some (Lp.rt v))) λr=>RQ A B (Rv Qt Q0) r->X:=λr e c =>
 aVB (Q:=I9 P G L0 s0 Q0) (Rv Qt) (λi x j=>fr n (FL i x) bs j) S (λd j=>fr n (XL d) xb j) SX _ (aAH z id L ks R hA) (λi x j h hq=>aqG (yE 300 [pb (acG h)]) (hZ i x j h) (hq _)) (λi y x j r' h1 h2 h3 hk e=>hB i y x j h1 h2 h3 r' e hk) (λd j e=>hb d j r e c) (λv e=>by cases e;exact(Rv.rnd c).loop) e
end
section
variable {body:γ->Option (Lp γ δ ρ)} {x:γ}
def tIo{k:δ->Option α}{Q:α->AX->List AV->AS->Prop}(kr:ρ->Option α)(n:Nat)(bs xb:List Nat)(FL:γ->List (Nat×AV))(S:γ->AS)(XL:δ->List (Nat×AV))(SX:δ->AS)(z:List NZ)(id:Nat)(L:Code)(ks:List KI)
   (R:∀r,K9 P G l (Q r) hr (Z r)) (hv:∀r v,kr v=some r->Rv Qt (Q r) v)
   (hB:∀r0 x j,T ([]:List (PC P G)) (body x) (Zp P G Qt L id n bs xb FL S XL SX (Eu id (CQ P G ks (Q r0))) (fr n (FL x) bs j) (S x)))
   (hb:∀d j,T ([]:List (PC P G)) (k d) λr=>CQ P G ks (Q r) .normal (fr n (XL d) xb j) (SX d))
   (hA:kH z (fr n (FL x) bs (jR bs hr)) hr=some (T8 l,id,L,ks,fr n (FL x) bs (jR bs hr),S x):=by kernel_rfl) :
   T l ((JI body x).bind (H8 k kr)) Z:=λr =>
 aVC (Q:=Q r) (Rv Qt) (λx j=>fr n (FL x) bs j) S (λd j=>fr n (XL d) xb j) SX _ (aAH z id L ks (R r) hA) (λx j r' hk e=>hB r x j r' e hk) (λd j e=>hb d j r e) (λv e=>(hv r v e).loop)
def tIi{k:δ->Option (Lp κ β ρ)}{A:κ->Prop}{B:β->Prop}{Q0:AX->List AV->AS->Prop}{L0:Code}{s0:AS}{X:Prop}(n:Nat)(bs xb:List Nat)(FL:γ->List (Nat×AV))(S:γ->AS)(XL:δ->List (Nat×AV))(SX:δ->AS)(z:List NZ)(id:Nat)(L:Code)(ks:List KI)
   (R:K9 P G l (I9 P G L0 s0 Q0) hr X)
   (hB:∀x j,T ([]:List (PC P G)) (body x) (Zp P G Qt L id n bs xb FL S XL SX (Eu id (CQ P G ks (I9 P G L0 s0 Q0))) (fr n (FL x) bs j) (S x)))
   (hb:∀d j,T ([]:List (PC P G)) (k d) λr=>RQ A B (Rv Qt Q0) r->CQ P G ks (I9 P G L0 s0 Q0) .normal (fr n (XL d) xb j) (SX d))
   (hA:kH z (fr n (FL x) bs (jR bs hr)) hr=some (T8 l,id,L,ks,fr n (FL x) bs (jR bs hr),S x):=by kernel_rfl) :
   T l ((JI body x).bind (H8 k λv=>some (Lp.rt v))) λr=>RQ A B (Rv Qt Q0) r->X:=λr e c =>
 aVC (Q:=I9 P G L0 s0 Q0) (Rv Qt) (λx j=>fr n (FL x) bs j) S (λd j=>fr n (XL d) xb j) SX _ (aAH z id L ks R hA) (λx j r' hk e=>hB x j r' e hk) (λd j e=>hb d j r e c) (λv e=>by cases e;exact(Rv.rnd c).loop) e
end
section
variable {body:Nat->ε->γ->Option (Lp γ γ ρ)} {done:γ->γ} {lC:List ε} {i0:Nat} {x:γ}
def Mc{k:γ->Option α}{Q:α->AX->List AV->AS->Prop}(kr:ρ->Option α)(n:Nat)(bs xb:List Nat)(FL:Nat->γ->List (Nat×AV))(S:γ->AS)(ds:List Nat)(z:List NZ)(id:Nat)(L:Code)(ks:List KI)
   (R:∀r,K9 P G l (Q r) hr (Z r)) (hv:∀r v,kr v=some r->Rv Qt (Q r) v)
   (hB:∀r0 i y x j,lC[i]?=some y->i < lC.length->i < 9223372036854775807->T ([]:List (PC P G)) (body i y x) (Zp P G Qt L id n bs xb (FL (i+1)) S (λd=>df ds (FL 0 d)) S (Eu id (CQ P G ks (Q r0))) (fr n (FL i x) bs j) (S x)))
   (hb:∀d j,T ([]:List (PC P G)) (k d) λr=>CQ P G ks (Q r) .normal (fr n ((λd=>df ds (FL 0 d)) d) xb j) (S d))
   (hA:kH z (fr n (FL i0 x) bs (jR bs hr)) hr=some (T8 l,id,L,ks,fr n (FL i0 x) bs (jR bs hr),S x):=by kernel_rfl)
   (hZ:∀i x j (h:lC.length<=i),Y3 (fr n ((λd=>df ds (FL 0 d)) (done x)) xb (jR xb (aZ P G L (fr n (FL i x) bs j) (S x) h))) (aZ P G L (fr n (FL i x) bs j) (S x) h)=some (.exit id,T8 [pb (P:=P) (G:=G) (acG h)],fr n ((λd=>df ds (FL 0 d)) (done x)) xb (jR xb (aZ P G L (fr n (FL i x) bs j) (S x) h)),S (done x)):=by (intro i x j h;kernel_rfl)) :
   T l ((Cs lC.length (Bs body done (lC.drop i0) i0 x)).bind (H8 k kr)) Z:=tFo kr n bs xb FL S (λd=>df ds (FL 0 d)) S z id L ks R hv hB hb hA hZ
def baC{k:γ->Option (Lp κ β ρ)}{A:κ->Prop}{B:β->Prop}{Q0:AX->List AV->AS->Prop}{L0:Code}{s0:AS}{X:Prop}(n:Nat)(bs xb:List Nat)(FL:Nat->γ->List (Nat×AV))(S:γ->AS)(ds:List Nat)(z:List NZ)(id:Nat)(L:Code)(ks:List KI)
   (R:K9 P G l (I9 P G L0 s0 Q0) hr X)
   (hB:∀i y x j,lC[i]?=some y->i < lC.length->i < 9223372036854775807->T ([]:List (PC P G)) (body i y x) (Zp P G Qt L id n bs xb (FL (i+1)) S (λd=>df ds (FL 0 d)) S (Eu id (CQ P G ks (I9 P G L0 s0 Q0))) (fr n (FL i x) bs j) (S x)))
   (hb:∀d j,T ([]:List (PC P G)) (k d) λr=>RQ A B (Rv Qt Q0) r->CQ P G ks (I9 P G L0 s0 Q0) .normal (fr n ((λd=>df ds (FL 0 d)) d) xb j) (S d))
   (hA:kH z (fr n (FL i0 x) bs (jR bs hr)) hr=some (T8 l,id,L,ks,fr n (FL i0 x) bs (jR bs hr),S x):=by kernel_rfl)
   (hZ:∀i x j (h:lC.length<=i),Y3 (fr n ((λd=>df ds (FL 0 d)) (done x)) xb (jR xb (aZ P G L (fr n (FL i x) bs j) (S x) h))) (aZ P G L (fr n (FL i x) bs j) (S x) h)=some (.exit id,T8 [pb (P:=P) (G:=G) (acG h)],fr n ((λd=>df ds (FL 0 d)) (done x)) xb (jR xb (aZ P G L (fr n (FL i x) bs j) (S x) h)),S (done x)):=by (intro i x j h;kernel_rfl)) :
   T l ((Cs lC.length (Bs body done (lC.drop i0) i0 x)).bind (H8 k λv=>some (Lp.rt v))) λr=>RQ A B (Rv Qt Q0) r->X:=tFi n bs xb FL S (λd=>df ds (FL 0 d)) S z id L ks R hB hb hA hZ
end
section
variable {body:γ->Option (Lp γ γ ρ)} {x:γ}
def WD{k:γ->Option α}{Q:α->AX->List AV->AS->Prop}(kr:ρ->Option α)(n:Nat)(bs xb:List Nat)(FL:γ->List (Nat×AV))(S:γ->AS)(ds:List Nat)(z:List NZ)(id:Nat)(L:Code)(ks:List KI)
   (R:∀r,K9 P G l (Q r) hr (Z r)) (hv:∀r v,kr v=some r->Rv Qt (Q r) v)
   (hB:∀r0 x j,T ([]:List (PC P G)) (body x) (Zp P G Qt L id n bs xb FL S (λd=>df ds (FL d)) S (Eu id (CQ P G ks (Q r0))) (fr n (FL x) bs j) (S x)))
   (hb:∀d j,T ([]:List (PC P G)) (k d) λr=>CQ P G ks (Q r) .normal (fr n ((λd=>df ds (FL d)) d) xb j) (S d))
   (hA:kH z (fr n (FL x) bs (jR bs hr)) hr=some (T8 l,id,L,ks,fr n (FL x) bs (jR bs hr),S x):=by kernel_rfl) :
   T l ((JI body x).bind (H8 k kr)) Z:=tIo kr n bs xb FL S (λd=>df ds (FL d)) S z id L ks R hv hB hb hA
def baD{k:γ->Option (Lp κ β ρ)}{A:κ->Prop}{B:β->Prop}{Q0:AX->List AV->AS->Prop}{L0:Code}{s0:AS}{X:Prop}(n:Nat)(bs xb:List Nat)(FL:γ->List (Nat×AV))(S:γ->AS)(ds:List Nat)(z:List NZ)(id:Nat)(L:Code)(ks:List KI)
   (R:K9 P G l (I9 P G L0 s0 Q0) hr X)
   (hB:∀x j,T ([]:List (PC P G)) (body x) (Zp P G Qt L id n bs xb FL S (λd=>df ds (FL d)) S (Eu id (CQ P G ks (I9 P G L0 s0 Q0))) (fr n (FL x) bs j) (S x)))
   (hb:∀d j,T ([]:List (PC P G)) (k d) λr=>RQ A B (Rv Qt Q0) r->CQ P G ks (I9 P G L0 s0 Q0) .normal (fr n ((λd=>df ds (FL d)) d) xb j) (S d))
   (hA:kH z (fr n (FL x) bs (jR bs hr)) hr=some (T8 l,id,L,ks,fr n (FL x) bs (jR bs hr),S x):=by kernel_rfl) :
   T l ((JI body x).bind (H8 k λv=>some (Lp.rt v))) λr=>RQ A B (Rv Qt Q0) r->X:=tIi n bs xb FL S (λd=>df ds (FL d)) S z id L ks R hB hb hA
end
end
end
end AI
namespace AI
open Go
section
variable {α γ δ ρ:Type}
def allI(p:Nat->α->Bool):List α->Nat->Bool
 | [],_=>true
 | y::l,i=>p i y&&allI p l (i+1)
def vL{body:Nat->α->Unit->Option (Lp Unit δ ρ)}{done:Unit->δ}{p:Nat->α->Bool}{v:ρ}:∀{l:List α} {i:Nat},(∀k y,l[k]?=some y->body (i+k) y ()=some (if p (i+k) y then .nx () else .rt v))->Bs body done l i ()=some (if allI p l i then .inl (done ()) else .inr v)
 | [],i,_=>rfl
 | y::l,i,h=>by
   have h0:=h 0 y rfl;rw[Nat.add_zero] at h0;rw[Bs,h0,allI];cases p i y with
   | false=>simp[NX]
   | true =>
     have:=vL (body:=body) (done:=done) (p:=p) (v:=v) (l:=l) (i:=i+1) λk z hz=>by
       have:=h (k+1) z (by simpa using hz)
       rwa[show i+(k+1)=i+1+k by omega] at this
     simpa[NX] using this
def B0{β:Type}{n:Nat}{x:Option β}(h:n<=9223372036854775807):Cs n x=x:=by unfold Cs;rw[if_pos h]
def Dw{β:Type}{n:Nat}{x:Option β}(h:n<=100000000):Qa n x=x:=by unfold Qa;rw[if_pos h]
end
end AI
namespace AI
open Go
def mb(p:Prop):Bool:=@decide p (bqE _)
theorem BP{p:Prop}:mb p=true↔p:=by unfold mb;exact @decide_eq_true_iff p (_)
theorem LY{p q:Prop}(h:p↔q):mb p=mb q:=by rw[propext h]
def FW{β:Type}(p:Prop)(x y:β):β:=@ite β p (bqE _) x y
theorem Ay{β:Type}{p:Prop}{x y:β}(h:p):FW p x y=x:=@if_pos p (_) h _ _ _
theorem AD{β:Type}{p:Prop}{x y:β}(h:¬p):FW p x y=y:=@if_neg p (_) h _ _ _
section
variable {β:Type} {x y:β}
theorem bbG(a b:Int):cond (Bi a b) x y=FW (a=b) x y:=by
 by_cases h:a=b
 · have:Bi a b=true:=by rw[O2];simpa using h
   rw[Ay h,this];rfl
 · have:Bi a b=false:=by rw[O2];simpa using h
   rw[AD h,this];rfl
theorem C4(p:Prop):cond (mb p) x y=FW p x y:=by
 by_cases h:p
 · rw[Ay h,BP.2 h];rfl
 · rw[AD h]
   have:mb p=false:=by
     cases hm:mb p
     · rfl
     · exact absurd (BP.1 hm) h
   rw[this];rfl
end
section
variable {p q r:Prop}
theorem LW:FW p (some true) (some false)=some (mb p):=by
 by_cases h:p
 · rw[Ay h,BP.2 h]
 · rw[AD h];congr 1;cases hm:mb p;rfl;exact absurd (BP.1 hm) h
theorem mbT:true=mb True:=(BP.2 trivial).symm
theorem bfZ:FW p (some false) (some true)=some (mb ¬p):=by
 by_cases h:p
 · rw[Ay h];congr 1;rw[bjP,BP];simp[h]
 · rw[AD h];congr 1;rw[bjP,BP];simp[h]
theorem IM:FW p (some (mb q)) (some false)=some (mb (p/\q)):=by
 by_cases h:p
 · rw[Ay h];congr 1;rw[bjP,BP,BP];simp[h]
 · rw[AD h];congr 1;rw[bjP,BP];simp[h]
theorem aYQ:FW p (some false) (some (mb q))=some (mb (¬p/\q)):=by
 by_cases h:p
 · rw[Ay h];congr 1;rw[bjP,BP];simp[h]
 · rw[AD h];congr 1;rw[bjP,BP,BP];simp[h]
theorem aBT:FW p (some true) (some (mb q))=some (mb (p\/q)):=by
 by_cases h:p
 · rw[Ay h];congr 1;rw[bjP,BP];simp[h]
 · rw[AD h];congr 1;rw[bjP,BP,BP];simp[h]
theorem aBS:FW p (some (mb q)) (some (mb r))=some (mb ((p->q)/\(¬p->r))):=by
 by_cases h:p
 · rw[Ay h];congr 1;rw[bjP,BP,BP];simp[h]
 · rw[AD h];congr 1;rw[bjP,BP,BP];simp[h]
theorem Si{β:Type}{x:β}:FW p x x=x:=by
 by_cases h:p
 · exact Ay h
 · exact AD h
def ck{δ ρ:Type}(v:ρ)(p:Prop):Lp Unit δ ρ:=FW p (.nx ()) (.rt v)
variable {δ ρ:Type} {v:ρ}
theorem wH:FW p (some (.nx ())) (some (.rt v))=some (ck (δ:=δ) v p):=by
 unfold ck;by_cases h:p
 · rw[Ay h,Ay h]
 · rw[AD h,AD h]
theorem akM:FW p (some (.rt v)) (some (.nx ()))=some (ck (δ:=δ) v ¬p):=by
 unfold ck;by_cases h:p
 · rw[Ay h,AD (by simp[h])]
 · rw[AD h,Ay h]
theorem asJ:FW p (some (ck (δ:=δ) v q)) (some (.rt v))=some (ck v (p/\q)):=by
 unfold ck;by_cases h:p
 · rw[Ay h];simp[h]
 · rw[AD h,AD (by simp[h])]
theorem akN:FW p (some (.rt v)) (some (ck (δ:=δ) v q))=some (ck v (¬p/\q)):=by
 unfold ck;by_cases h:p
 · rw[Ay h,AD (by simp[h])]
 · rw[AD h];simp[h]
theorem aQS:FW p (some (ck (δ:=δ) v q)) (some (.nx ()))=some (ck v (p->q)):=by
 unfold ck;by_cases h:p
 · rw[Ay h];simp[h]
 · rw[AD h,Ay (by simp[h])]
theorem aYI:FW p (some (.nx ())) (some (ck (δ:=δ) v q))=some (ck v (p\/q)):=by
 unfold ck;by_cases h:p
 · rw[Ay h,Ay (by simp[h])]
 · rw[AD h];simp[h]
theorem bfW:FW p (some (ck (δ:=δ) v q)) (some (ck v r))=some (ck v ((p->q)/\(¬p->r))):=by
 unfold ck;by_cases h:p
 · rw[Ay h];simp[h]
 · rw[AD h];simp[h]
theorem Pb{α β:Type}{l:List α}{body:Nat->α->Unit->Option (Lp Unit Unit ρ)}{P:Nat->α->Prop}{k:Unit->Option β}{kr:ρ->Option β}(hl:l.length<=9223372036854775807)(hb:∀i y,l[i]?=some y->body i y ()=some (ck v (P i y))):(Cs l.length (Bs body (λ_=>()) (l.drop 0) 0 ())).bind (H8 k kr)=FW (∀i y,l[i]?=some y->P i y) (k ()) (kr v):=by
 rw[B0 hl,bjJ]
 have h1:∀k y,l[k]?=some y->body (0+k) y ()=some (if mb (P (0+k) y) then .nx () else .rt v):=λk y hy=>by
   rw[bcD,hb k y hy]
   unfold ck
   by_cases h:P k y
   · rw[Ay h,if_pos (BP.2 h)]
   · rw[AD h,if_neg (λe=>h (BP.1 e))]
 rw[vL (p:=λi y=>mb (P i y)) (v:=v) h1]
 have h2:∀(l:List α) (i:Nat),allI (λi y=>mb (P i y)) l i=true↔∀k y,l[k]?=some y->P (i+k) y:=by
   intro l
   induction l with
   | nil=>intro i;simp[allI]
   | cons a l ih =>
     intro i
     rw[allI,bcA,BP,ih]
     constructor
     · rintro⟨h1,h2⟩ k y hk
       cases k with
       | zero=>simp at hk;subst hk;exact h1
       | succ k=>rw[show i+(k+1)=i+1+k by omega];exact h2 k y (by simpa using hk)
     · intro h
       refine⟨h 0 a rfl,λk y hk=>?_⟩
       rw[show i+1+k=i+(k+1) by omega]
       exact h (k+1) y (by simpa using hk)
 have h3:=h2 l 0
 simp only[bcD] at h3
 by_cases h:∀i y,l[i]?=some y->P i y
 · rw[Ay h,h3.2 h];rfl
 · rw[AD h]
   have:allI (λi y=>mb (P i y)) l 0=false:=by
     cases ha:allI (λi y=>mb (P i y)) l 0
     · rfl
     · exact absurd (h3.1 ha) h
   rw[this];rfl
end
end AI
namespace AI
open Go
def Sp{β:Type}(o:Option β)(Q:β->Prop):Prop:=∃r,o=some r/\Q r
section
variable {α β γ δ ρ κ:Type} {Q:β->Prop}
def W5{r:β}:Sp (some r) Q=Q r:=propext ⟨λ⟨_,h,k⟩=>by cases h;exact k,λh=>⟨_,rfl,h⟩⟩
def aeG{o:Option κ}{k:κ->Option β}:Sp (o.bind k) Q=Sp o (λy=>Sp (k y) Q):=propext ⟨λ⟨r,h,hq⟩=>by
 obtain⟨y,h1,h2⟩:=pF h;exact⟨y,h1,r,h2,hq⟩,λ⟨y,h1,r,h2,hq⟩=>⟨r,by rw[h1];exact h2,hq⟩⟩
def Sp.mono{Q':β->Prop}{o:Option β}(h:Sp o Q)(k:∀r,Q r->Q' r):Sp o Q':=h.elim λr h=>⟨r,h.1,k r h.2⟩
def aHQ{o:Option β}{r:β}:(o=some r)=Sp o (λx=>x=r):=propext ⟨λh=>⟨r,h,rfl⟩,λ⟨_,h,k⟩=>by rw[h,k]⟩
def aaB{p:Prop}{x y:Option β}:Sp (FW p x y) Q=((p->Sp x Q)/\(¬p->Sp y Q)):=propext (by
 by_cases h:p;rw[Ay h];exact⟨λa=>⟨λ_=>a,λn=>absurd h n⟩,λa=>a.1 h⟩;rw[AD h];exact⟨λa=>⟨λn=>absurd n h,λ_=>a⟩,λa=>a.2 h⟩)
def G6(a b:Int):LS a b=mb (a<=b):=by rw[fP,bjP,BP,decide_eq_true_iff]
def IZ(a b:Int):Dd a b=mb (a < b):=by rw[Sh,bjP,BP,decide_eq_true_iff]
def BY(a b:Int):Bi a b=mb (a=b):=by rw[O2,bjP,BP,beq_iff_eq]
def EJ(a b:ByteArray):BD a.data.toList b.data.toList=mb (a=b):=by
 rw[Yv,bjP,BP,beq_iff_eq];exact⟨λh=>ByteArray.ext (Array.ext' h),λh=>by rw[h]⟩
def fV{p:Prop}:(mb p=true)=p:=propext BP
def ZI{p:Prop}:(mb p=false)=¬p:=by rw[<- Bool.not_eq_true,fV]
def adR{p:Prop}:(true=mb p)=p:=by rw[@eq_comm _ true,fV]
def Zt{p:Prop}:(false=mb p)=¬p:=by rw[@eq_comm _ false,ZI]
def S8{p q:Prop}(h:p↔q):some (mb p)=some (mb q):=by rw[LY h]
def NT{p:Prop}(h:¬p):some false=some (mb p):=congrArg some (by rw[Zt];exact h)
def ayN{l:List α}{body:Nat->α->γ->Option (Lp γ δ ρ)}{done:γ->δ}{k:δ->Option β}{kr:ρ->Option β}{x0:γ}(I:Nat->γ->Prop)(hl:l.length<=9223372036854775807)(h0:I 0 x0)
   (hb:∀i y x,l[i]?=some y->I i x->Sp (body i y x) (RQ (I (i+1)) (λd=>Sp (k d) Q) (λv=>Sp (kr v) Q)))
   (hz:∀x,I l.length x->Sp (k (done x)) Q):Sp ((Cs l.length (Bs body done (l.drop 0) 0 x0)).bind (H8 k kr)) Q:=by
 rw[B0 hl,bjJ]
 have key:∀(m:List α) (i:Nat) (x:γ),l.drop i=m->i<=l.length->I i x->Sp ((Bs body done m i x).bind (H8 k kr)) Q:=by
   intro m
   induction m with
   | nil =>
     intro i x hd hle hi;have h1:=List.drop_eq_nil_iff.1 hd;have:i=l.length:=by omega
     subst this;exact hz x hi
   | cons y m ih =>
     intro i x hd hle hi
     have hlt:i < l.length:=by
       rcases Nat.lt_or_ge i l.length with h1 | h1
       exact h1;rw[List.drop_eq_nil_of_le h1] at hd;cases hd
     have hy:l[i]?=some y:=by rw[<- List.head?_drop,hd];rfl
     have hd2:l.drop (i+1)=m:=by rw[<- List.tail_drop,hd];rfl
     obtain⟨r,hr,hq⟩:=hb i y x hy hi;rw[Bs,hr];cases r with
     | nx x'=>exact ih (i+1) x' hd2 hlt hq
     | ex d=>exact hq
     | rt v=>exact hq
 exact key l 0 x0 rfl (Nat.zero_le _) h0
def aUS{Qn:γ->Prop}{Qx:δ->Prop}{Qr:ρ->Prop}{x:γ}:RQ Qn Qx Qr (.nx x)=Qn x:=rfl
def aUR{Qn:γ->Prop}{Qx:δ->Prop}{Qr:ρ->Prop}{x:δ}:RQ Qn Qx Qr (.ex x)=Qx x:=rfl
end
def P1{n:Int}(h:-9223372036854775808<=n/\n<=9223372036854775807):Ob .i64 n=n:=by
 rw[Nz];exact IntWalk.i64_in n (by omega)
def Ca{a b:Int}(h:-9223372036854775808<=a+b/\a+b<=9223372036854775807):Bh a b=a+b:=by
 unfold Bh;rw[oW,P1 h]
def FH{a b:Int}(h:-9223372036854775808<=a - b/\a - b<=9223372036854775807):Ka a b=a - b:=by
 unfold Ka;rw[sK,P1 h]
def FG{a b:Int}(h:-9223372036854775808<=a*b/\a*b<=9223372036854775807):CK a b=a*b:=by
 unfold CK;rw[P1 h]
end AI
namespace AI
open Go Go.RowKit
def lE(w w1:World)(g:Nat):Prop:=w.heap.size<=g/\g < w1.heap.size
def Cx.lQ(cx:Cx)(w w1:World):Cx:=⟨cx.base,cx.CJ,cx.rows,λg i=>cx.bad g i\/lE w w1 g⟩
def Cx.Zf(c:Cx)(cx:Cx):Cx:=⟨c.base,c.CJ,c.rows,cx.bad⟩
section
variable {G:AK} {cx:Cx} {w w1:World} {s:AS}
def Yd(k:Tv w w1 (λ_=>False)):Mon cx w (cx.lQ w w1) w1:=by
 refine⟨λ_ _ e=>e,aOC _,λr y _ h=>⟨y,h,La.refl y⟩,λg i v hv=>⟨bcC hv.1 k.size,λhs=>?_,by rw[k.cell hv.1 id];exact hv.2.2⟩⟩;rcases hs with hs | hs | hs | hs
 exact hv.2.1 (.inl hs);exact hv.2.1 (.inr (.inl hs));exact hv.2.1 (.inr (.inr hs));have:=hs.1;have:=hv.1;omega
def aiL(h:St G cx w s)(k:Tv w w1 (λ_=>False)):St G (cx.lQ w w1) w1 s:=by
 have m:=Yd (cx:=cx) k;refine⟨h.len,h.desc,h.nodup,h.low,λid g b h1 h2=>?_,h.I8,λr g n cap sz hr=>?_,h.Jl,λg hg=>bcC (h.Np g hg) k.size,λg i hb=>?_,h.IU,λg cs hg=>(h.Mr g cs hg).Dk m,bjH h.R2 k.size,(h.Ol.chg k).sub (λ_ h=>h) (λr g n cap sz e=>⟨r,n,cap,sz,e⟩)⟩;obtain⟨o,ho,hb⟩:=h.box id g b h1 h2;exact⟨o,by rw[k.block g (aOA.1 ho).1 not_false];exact ho,hb.Dk m⟩;have hl:=h.NS hr;obtain⟨Lz,h2,h3,h4,vs,T,ho,h5⟩:=h.row r g n cap sz hr;refine⟨λi hb=>?_,h2,h3,h4,vs,T,by rw[k.block g (aOA.1 ho).1 not_false];exact ho,h5⟩;rcases hb with hb | hb
 exact Lz i hb;have:=hb.1;omega;rcases hb with hb | hb
 exact bcC (h.ND g i hb) k.size;exact hb.2
variable {c':Cx} {w' w2:World} {s':AS}
def WH(hx:Ext (cx.lQ w w1) w1 c' w')(k2:Tv w' w2 (lE w w1)):Mon c' w' (c'.Zf cx) w2:=by
 refine⟨λ_ _ e=>e,aOC _,λr y _ h=>⟨y,h,La.refl y⟩,λg i v hv=>⟨bcC hv.1 k2.size,λhs=>?_,?_⟩⟩;rcases hs with hs | hs | hs
 exact hv.2.1 (.inl hs);exact hv.2.1 (.inr (.inl hs));exact hv.2.1 (.inr (.inr (by rw[hx.bad];exact .inl hs)));rw[k2.cell hv.1 (λhk=>hv.2.1 (.inr (.inr (by rw[hx.bad];exact .inr hk))))];exact hv.2.2
def jA(h:St G cx w s)(k:Tv w w1 (λ_=>False))(hx:Ext (cx.lQ w w1) w1 c' w')(k2:Tv w' w2 (lE w w1)):Ext cx w (c'.Zf cx) w2:=by
 have m:=Yd (cx:=cx) k;have m2:=WH hx k2;refine⟨hx.CJ,hx.I8,hx.rows,λg i v hv=>m2.lR g i v (hx.lR g i v (m.lR g i v hv)),?_,hx.base,rfl,λg hg=>?_,λr g n cap sz hr=>?_,λq hq hp hr=>?_⟩;have b1:Below cx.base w w1:=k.below h.R2 (λ_ h=>h.elim);have b2:Below cx.base w1 w':=hx.below;have b3:Below cx.base w' w2:=k2.below (bjH (bjH h.R2 k.size) b2.size) (λq hq=>bjH h.R2 hq.1);exact(b1.trans b2).trans b3;rcases hx.gI g hg with h1 | h1
 exact .inl h1;exact .inr (bjH k.size h1);rcases hx.iA r g n cap sz hr with h1 | h1
 exact .inl h1;exact .inr (bjH k.size h1);have hq1:q < w1.heap.size:=bcC hq k.size;rw[k2.block q (bcC hq1 hx.below.size) (λhn=>by have:=hn.1;omega),hx.GY q hq1 hp hr,k.block q hq not_false]
def oI(h:St G cx w s)(hx:Ext (cx.lQ w w1) w1 c' w')(hs':St G c' w' s')(k2:Tv w' w2 (lE w w1)):St G (c'.Zf cx) w2 s':=by
 have m2:=WH hx k2
 have Tl:∀g,some g∈c'.CJ->¬lE w w1 g:=by
   intro g hg hn;rcases hx.gI g hg with h1 | h1
   have:=h.Np g h1;have:=hn.1;omega;have:=hn.2;omega
 refine⟨hs'.len,hs'.desc,hs'.nodup,hs'.low,λid g b h1 h2=>?_,hs'.I8,λr g n cap sz hr=>?_,hs'.Jl,λg hg=>bcC (hs'.Np g hg) k2.size,λg i hb=>bcC (hs'.ND g i (by rw[hx.bad];exact .inl hb)) k2.size,hs'.IU,λg cs hg=>(hs'.Mr g cs hg).Dk m2,bjH hs'.R2 k2.size,λg cs hg=>by
   obtain⟨h1,vs,T,f,h3,h4⟩:=hs'.Ol g cs hg;obtain⟨_,_,_,_,e3,_⟩:=h.Ol g cs hg;have hl:=(aOA.1 e3).1;exact⟨h1,vs,T,f,by rw[k2.block g (aOA.1 h3).1 (λhn=>by have:=hn.1;omega)];exact h3,h4⟩⟩
 obtain⟨o,ho,hb⟩:=hs'.box id g b h1 h2;exact⟨o,by rw[k2.block g (aOA.1 ho).1 (Tl g (List.mem_of_getElem? h1))];exact ho,hb.Dk m2⟩;obtain⟨Lz,h2,h3,h4,vs,T,ho,h5⟩:=hs'.row r g n cap sz hr;have hb:c'.bad=λg i=>cx.bad g i\/lE w w1 g:=hx.bad;exact⟨λi Xt=>Lz i (by rw[hb];exact .inl Xt),h2,h3,h4,vs,T,by rw[k2.block g (aOA.1 ho).1 (λhn=>Lz 0 (by rw[hb];exact .inr hn))];exact ho,h5⟩
def OU(h:St G cx w s)(hx:Ext (cx.lQ w w1) w1 c' w'){q:Nat}(hq:lE w w1 q):w'.heap[q]?=w1.heap[q]?:=by
 refine hx.GY q hq.2 (λhm=>?_) (λr n cap sz hr=>?_);have:=h.Np q hm;have:=hq.1;omega;have:=h.NS (r:=r) hr;have:=hq.1;omega
end
end AI
