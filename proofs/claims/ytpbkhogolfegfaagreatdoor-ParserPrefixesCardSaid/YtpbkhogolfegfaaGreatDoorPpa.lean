/- Part of a proof: see the last text. -/
import Derived.Calls
import Derived.Orders
import Derived.Below
set_option linter.unusedVariables false
set_option linter.unusedSimpArgs false
set_option linter.defProp false
noncomputable section
namespace AI
open Go Go.RowKit
inductive Own where
 | full
 | row (r sz:Nat)
 | lost
 | nil
 | nn
 deriving DecidableEq,Inhabited
inductive AV where
 | sc (v:Value)
 | agg (cs:List AV)
 | CZ (vs:List AV)
 | sl (own:Own) (n:Nat) (cs:List AV)
 | msl (id off n:Nat)
 | el (cs:List AV)
 | ptr (id off:Nat)
 | fn (f:Fn) (first caps:List AV)
 | ifc (t:TypeId) (v:AV)
 | mp (id:Nat)
 | any
 | raw (A:Option Addr) (n cap:Nat)
 deriving Inhabited
def scalar:Value->Bool
 | .bool _ | .int _ _ | .string _ | .nilIface | .nilFunc | .pointer none | .map none=>true
 | .tuple vs=>vs.size == 0
 | _=>false
def WR:Value->Bool
 | .bool _=>false
 | _=>true
inductive Rw where
 | gone
 | new
 | RC (g n cap sz:Nat)
def Ld(x:Rw):Rw->Prop
 | .gone=>True
 | .new=>x=.new
 | .RC g n cap sz=>x=.RC g n cap sz\/x=.new\/∃g0 n0 RV kT,x=.RC g0 n0 RV kT/\n0 < n
def Ld.refl(x:Rw):Ld x x:=by cases x<;>simp[Ld]
def Ld.trans{x y z:Rw}(h:Ld x y)(k:Ld y z):Ld x z:=by
 cases z with
 | gone=>trivial
 | new=>simp only[Ld] at k;subst k;exact h
 | RC g n cap sz =>
   simp only[Ld] at k;rcases k with rfl | rfl | ⟨g0,n0,RV,kT,rfl,hlt⟩
   exact h;simp only[Ld] at h;exact .inr (.inl h);simp only[Ld] at h;rcases h with rfl | rfl | ⟨g1,n1,aIM,sz1,rfl,aNM⟩
   exact .inr (.inr ⟨_,_,_,_,rfl,hlt⟩);exact .inr (.inl rfl);exact .inr (.inr ⟨_,_,_,_,rfl,by omega⟩)
structure Cx where
 base:Nat
 Dy:List (Option Nat)
 rows:List Rw
 bad:Nat->Nat->Prop
def Cx.xN(c:Cx)(g i:Nat):Prop:=some g∈c.Dy\/(∃r n cap sz:Nat,c.rows[r]?=some (.RC g n cap sz)/\n*sz<=i/\i < cap*sz)\/c.bad g i
def PE(c:Cx)(w:World)(g i:Nat)(v:Value):Prop:=g < w.heap.size/\¬c.xN g i/\w.cell? ⟨g,i,none⟩=some v
def Xs(c:Cx)(own:Own)(g o n cap len:Nat):Prop:=match own with
 | .full=>cap=n
 | .row r sz=>o=0/\len=n*sz/\r < c.rows.length/\c.rows[r]?≠some .new/\∀g' n' cap' PF,c.rows[r]?=some (.RC g' n' cap' PF)->n<=n'/\(n'=n->g'=g/\cap'=cap/\PF=sz)
 | .lost=>True
 | .nil=>False
 | .nn=>True
def mM(c:Cx)(own:Own)(A:Option Addr)(cap:Nat):Prop:=match own with
 | .full=>cap=0
 | .row r _=>cap=0/\r < c.rows.length
 | .lost=>True
 | .nil=>A.isNone=true
 | .nn=>A.isNone=false
mutual
inductive Rp(c:Cx)(w:World):AV->Value->Prop where
 | sc {v:Value} (h:scalar v=true):Rp c w (.sc v) v
 | agg {cs:List AV} {vs:List Value} (h:CT c w cs vs):Rp c w (.agg cs) (.agg vs.toArray)
 | CZ {cs:List AV} {vs:List Value} (h:CT c w cs vs):Rp c w (.CZ cs) (.tuple vs.toArray)
 | sl0 {own:Own} {A:Option Addr} {cap:Nat} (h:mM c own A cap):Rp c w (.sl own 0 []) (.slice A 0 cap)
 | M4 {own:Own} {n cap g o:Nat} {cs:List AV} (hn:n<=cap) (h:Bk c w g o cs) (ho:Xs c own g o n cap cs.length):Rp c w (.sl own n cs) (.slice (some ⟨g,o,none⟩) n cap)
 | msl {id off n g cap:Nat} (hn:n<=cap) (h:c.Dy[id]?=some (some g)):Rp c w (.msl id off n) (.slice (some ⟨g,off,none⟩) n cap)
 | el {cs:List AV} {g o:Nat} (h:Bk c w g o cs):Rp c w (.el cs) (.pointer (some ⟨g,o,none⟩))
 | ptr {id off g:Nat} (h:c.Dy[id]?=some (some g)):Rp c w (.ptr id off) (.pointer (some ⟨g,off,none⟩))
 | fn {f:Fn} {first caps:List AV} {us vs:List Value} (h1:CT c w first us) (h2:CT c w caps vs):Rp c w (.fn f first caps) (.func f us.toArray vs.toArray)
 | ifc {t:TypeId} {a:AV} {v:Value} (h:Rp c w a v):Rp c w (.ifc t a) (.iface t v)
 | mp {id g:Nat} (h:c.Dy[id]?=some (some g)):Rp c w (.mp id) (.map (some g))
 | any {v:Value} (h:WR v=true):Rp c w .any v
 | raw {A:Option Addr} {n cap:Nat}:Rp c w (.raw A n cap) (.slice A n cap)
inductive CT(c:Cx)(w:World):List AV->List Value->Prop where
 | nil:CT c w [] []
 | cons {a:AV} {v:Value} {as:List AV} {vs:List Value} (h:Rp c w a v) (t:CT c w as vs):CT c w (a::as) (v::vs)
inductive Bk(c:Cx)(w:World):Nat->Nat->List AV->Prop where
 | nil {g o:Nat}:Bk c w g o []
 | cons {g o:Nat} {a:AV} {v:Value} {as:List AV} (hv:PE c w g o v) (h:Rp c w a v) (t:Bk c w g (o+1) as):Bk c w g o (a::as)
end
structure Ext(c:Cx)(w:World)(c':Cx)(w':World):Prop where
 Dy:c.Dy <+: c'.Dy
 JU:c.rows.length<=c'.rows.length
 rows:∀(r:Nat) y,r < c.rows.length->c'.rows[r]?=some y->∃x,c.rows[r]?=some x/\Ld x y
 fC:∀g i v,PE c w g i v->PE c' w' g i v
 below:Below c.base w w'
 base:c'.base=c.base
 bad:c'.bad=c.bad
 jP:∀g,some g∈c'.Dy->some g∈c.Dy\/w.heap.size<=g
 kB:∀(r:Nat) g n cap sz,c'.rows[r]?=some (.RC g n cap sz)->(∃(r0 n0 RV kT:Nat),c.rows[r0]?=some (.RC g n0 RV kT))\/w.heap.size<=g
 UF:∀k,k < w.heap.size->some k∉c.Dy->(∀(r:Nat) n cap sz,c.rows[r]?≠some (.RC k n cap sz))->w'.heap[k]?=w.heap[k]?
def Ext.refl(c:Cx)(w:World):Ext c w c w:=⟨List.prefix_refl _,Nat.le_refl _,λ_ y _ h=>⟨y,h,Ld.refl y⟩,λ_ _ _ h=>h,Below.refl _ _,rfl,rfl,λ_ h=>.inl h,λr _ n cap sz h=>.inl ⟨r,n,cap,sz,h⟩,λ_ _ _ _=>rfl⟩
def Ext.trans{c1 c2 c3:Cx}{w1 w2 w3:World}(h:Ext c1 w1 c2 w2)(k:Ext c2 w2 c3 w3):Ext c1 w1 c3 w3 :=
 ⟨h.Dy.trans k.Dy,Nat.le_trans h.JU k.JU,λr z hr hz=>by
   obtain⟨y,hy,l2⟩:=k.rows r z (Nat.lt_of_lt_of_le hr h.JU) hz;obtain⟨x,hx,l1⟩:=h.rows r y hr hy;exact⟨x,hx,l1.trans l2⟩,λg i v hv=>k.fC g i v (h.fC g i v hv),h.below.trans (by have:=k.below;rw[h.base] at this;exact this),k.base.trans h.base,k.bad.trans h.bad,
  λg hg=>by
   rcases k.jP g hg with h1 | h1
   exact h.jP g h1;exact .inr (Nat.le_trans h.below.size h1),
  λr g n cap sz hr=>by
   rcases k.kB r g n cap sz hr with ⟨r0,n0,RV,kT,h1⟩ | h1
   exact h.kB r0 g n0 RV kT h1;exact .inr (Nat.le_trans h.below.size h1),
  λq hq hp hr=>by
   rw[k.UF q (Nat.lt_of_lt_of_le hq h.below.size) (λhm=>?_) (λr n cap sz hm=>?_),h.UF q hq hp hr];rcases h.jP q hm with h1 | h1
   exact hp h1;omega;rcases h.kB r q n cap sz hm with ⟨r0,n0,RV,kT,h1⟩ | h1
   exact hr r0 n0 RV kT h1;omega⟩
def Ext.get{c:Cx}{w:World}{c':Cx}{w':World}(h:Ext c w c' w'){id g:Nat}(e:c.Dy[id]?=some (some g)):c'.Dy[id]?=some (some g):=by
 obtain⟨t,ht⟩:=h.Dy;rw[<- ht,List.getElem?_append_left (List.getElem?_eq_some_iff.1 e).1];exact e
structure Mon(c:Cx)(w:World)(c':Cx)(w':World):Prop where
 get:∀(id g:Nat),c.Dy[id]?=some (some g)->c'.Dy[id]?=some (some g)
 JU:c.rows.length<=c'.rows.length
 rows:∀(r:Nat) y,r < c.rows.length->c'.rows[r]?=some y->∃x,c.rows[r]?=some x/\Ld x y
 fC:∀g i v,PE c w g i v->PE c' w' g i v
def Ext.mon{c:Cx}{w:World}{c':Cx}{w':World}(h:Ext c w c' w'):Mon c w c' w':=⟨λ_ _ e=>h.get e,h.JU,h.rows,h.fC⟩
def Xs.DB{c:Cx}{w:World}{c':Cx}{w':World}(h:Mon c w c' w'){own:Own}{g o n cap len:Nat}(k:Xs c own g o n cap len):Xs c' own g o n cap len:=by
 cases own with
 | nil=>exact k
 | nn=>exact k
 | full=>exact k
 | lost=>trivial
 | row r sz =>
   obtain⟨k1,k2,k3,k4,k5⟩:=k;refine⟨k1,k2,Nat.lt_of_lt_of_le k3 h.JU,λe=>?_,λg' n' cap' PF e=>?_⟩;obtain⟨x,hx,hle⟩:=h.rows r _ k3 e;simp only[Ld] at hle;subst hle;exact k4 hx;obtain⟨x,hx,hle⟩:=h.rows r _ k3 e;simp only[Ld] at hle;rcases hle with rfl | rfl | ⟨g0,n0,RV,kT,rfl,hlt⟩
   exact k5 _ _ _ _ hx;exact absurd hx k4;have:=(k5 _ _ _ _ hx).1;exact⟨by omega,λe=>by omega⟩
def mM.DB{c:Cx}{w:World}{c':Cx}{w':World}(h:Mon c w c' w'){own:Own}{A:Option Addr}{cap:Nat}(k:mM c own A cap):mM c' own A cap:=by
 cases own with
 | nil=>exact k
 | nn=>exact k
 | full=>exact k
 | lost=>trivial
 | row r sz=>exact⟨k.1,Nat.lt_of_lt_of_le k.2 h.JU⟩
def mM.re{c:Cx}{own:Own}{A B:Option Addr}{cap:Nat}(h:mM c own A cap)(hb:B.isNone=A.isNone):mM c own B cap:=by
 cases own with
 | nil=>exact hb.trans h
 | nn=>exact hb.trans h
 | full=>exact h
 | lost=>trivial
 | row r sz=>exact h
mutual
def Rp.DB{c:Cx}{w:World}{c':Cx}{w':World}(h:Mon c w c' w'){a:AV}{v:Value}(k:Rp c w a v):Rp c' w' a v:=by
 cases k with
 | sc h1=>exact .sc h1
 | agg h1=>exact .agg (CT.DB h h1)
 | CZ h1=>exact .CZ (CT.DB h h1)
 | sl0 h1=>exact .sl0 (h1.DB h)
 | M4 hn h1 ho=>exact .M4 hn (Bk.DB h h1) (ho.DB h)
 | msl hn h1=>exact .msl hn (h.get _ _ h1)
 | el h1=>exact .el (Bk.DB h h1)
 | ptr h1=>exact .ptr (h.get _ _ h1)
 | fn h1 h2=>exact .fn (CT.DB h h1) (CT.DB h h2)
 | ifc h1=>exact .ifc (Rp.DB h h1)
 | mp h1=>exact .mp (h.get _ _ h1)
 | any h1=>exact .any h1
 | raw=>exact .raw
def CT.DB{c:Cx}{w:World}{c':Cx}{w':World}(h:Mon c w c' w'){a:List AV}{v:List Value}(k:CT c w a v):CT c' w' a v:=by
 cases k with
 | nil=>exact .nil
 | cons h1 t=>exact .cons (Rp.DB h h1) (CT.DB h t)
def Bk.DB{c:Cx}{w:World}{c':Cx}{w':World}(h:Mon c w c' w'){g o:Nat}{a:List AV}(k:Bk c w g o a):Bk c' w' g o a:=by
 cases k with
 | nil=>exact .nil
 | cons hv h1 t=>exact .cons (h.fC _ _ _ hv) (Rp.DB h h1) (Bk.DB h t)
end
def Rp.mono{c:Cx}{w:World}{c':Cx}{w':World}(h:Ext c w c' w'){a:AV}{v:Value}(k:Rp c w a v):Rp c' w' a v:=k.DB h.mon
def CT.mono{c:Cx}{w:World}{c':Cx}{w':World}(h:Ext c w c' w'){a:List AV}{v:List Value}(k:CT c w a v):CT c' w' a v:=k.DB h.mon
def Bk.mono{c:Cx}{w:World}{c':Cx}{w':World}(h:Ext c w c' w'){g o:Nat}{a:List AV}(k:Bk c w g o a):Bk c' w' g o a:=k.DB h.mon
def Xs.mono{c:Cx}{w:World}{c':Cx}{w':World}(h:Ext c w c' w'){own:Own}{g o n cap len:Nat}(k:Xs c own g o n cap len):Xs c' own g o n cap len:=k.DB h.mon
section lists
variable {c:Cx} {w:World}
def CT.len{as:List AV}{vs:List Value}(h:CT c w as vs):vs.length=as.length:=by
 induction as generalizing vs with
 | nil=>cases h;rfl
 | cons a as ih=>cases h with | cons _ t=>simp[ih t]
def CT.get{as:List AV}{vs:List Value}(h:CT c w as vs){i:Nat}{a:AV}(e:as[i]?=some a):∃v,vs[i]?=some v/\Rp c w a v:=by
 induction as generalizing vs i with
 | nil=>simp at e
 | cons b as ih =>
   cases h with
   | cons h1 t =>
     cases i with
     | zero=>simp at e;subst e;exact⟨_,rfl,h1⟩
     | succ i=>simp at e ⊢;exact ih t e
def CT.ayD{as:List AV}{vs:List Value}(hl:vs.length=as.length)(h:∀(i:Nat) a v,as[i]?=some a->vs[i]?=some v->Rp c w a v):CT c w as vs:=by
 induction as generalizing vs with
 | nil=>cases vs with | nil=>exact .nil | cons=>simp at hl
 | cons a as ih =>
   cases vs with
   | nil=>simp at hl
   | cons v vs=>exact .cons (h 0 a v rfl rfl) (ih (by simpa using hl) (λi a v e1 e2=>h (i+1) a v (by simpa using e1) (by simpa using e2)))
def CT.append{as bs:List AV}{us vs:List Value}(h:CT c w as us)(k:CT c w bs vs):CT c w (as++bs) (us++vs):=by
 induction as generalizing us with
 | nil=>cases h;exact k
 | cons a as ih=>cases h with | cons h1 t=>exact .cons h1 (ih t)
def CT.set{as:List AV}{vs:List Value}(h:CT c w as vs){a:AV}{v:Value}(k:Rp c w a v)(i:Nat):CT c w (as.set i a) (vs.set i v):=by
 induction as generalizing vs i with
 | nil=>cases h;exact .nil
 | cons b as ih =>
   cases h with
   | cons h1 t =>
     cases i with
     | zero=>exact .cons k t
     | succ i=>exact .cons h1 (ih t i)
def CT.drop{as:List AV}{vs:List Value}(h:CT c w as vs)(i:Nat):CT c w (as.drop i) (vs.drop i):=by
 induction as generalizing vs i with
 | nil=>cases h;simpa using CT.nil
 | cons b as ih =>
   cases h with
   | cons h1 t =>
     cases i with
     | zero=>exact .cons h1 t
     | succ i=>exact ih t i
def CT.take{as:List AV}{vs:List Value}(h:CT c w as vs)(i:Nat):CT c w (as.take i) (vs.take i):=by
 induction as generalizing vs i with
 | nil=>cases h;simpa using CT.nil
 | cons b as ih =>
   cases h with
   | cons h1 t =>
     cases i with
     | zero=>exact .nil
     | succ i=>exact .cons h1 (ih t i)
def CT.replicate{a:AV}{v:Value}(h:Rp c w a v)(n:Nat):CT c w (List.replicate n a) (List.replicate n v):=by
 induction n with
 | zero=>exact .nil
 | succ n ih=>exact .cons h ih
def Bk.get{as:List AV}{g o:Nat}(h:Bk c w g o as){i:Nat}{a:AV}(e:as[i]?=some a):∃v,PE c w g (o+i) v/\Rp c w a v:=by
 induction as generalizing o i with
 | nil=>simp at e
 | cons b as ih =>
   cases h with
   | cons hv h1 t =>
     cases i with
     | zero=>simp at e;subst e;exact⟨_,hv,h1⟩
     | succ i =>
       simp at e;have:=ih t e;rwa[show o+1+i=o+(i+1) from by omega] at this
def Bk.drop{as:List AV}{g o:Nat}(h:Bk c w g o as)(i:Nat):Bk c w g (o+i) (as.drop i):=by
 induction as generalizing o i with
 | nil=>simpa using Bk.nil
 | cons b as ih =>
   cases i with
   | zero=>exact h
   | succ i =>
     cases h with
     | cons hv h1 t =>
       have:=ih t i;rw[show o+1+i=o+(i+1) from by omega] at this;exact this
def Bk.take{as:List AV}{g o:Nat}(h:Bk c w g o as)(i:Nat):Bk c w g o (as.take i):=by
 induction as generalizing o i with
 | nil=>simpa using Bk.nil
 | cons b as ih =>
   cases i with
   | zero=>exact .nil
   | succ i=>cases h with | cons hv h1 t=>exact .cons hv h1 (ih t i)
def Bk.vals{as:List AV}{g o:Nat}(h:Bk c w g o as):∃vs,CT c w as vs/\∀(i:Nat) v,vs[i]?=some v->PE c w g (o+i) v:=by
 induction as generalizing o with
 | nil=>exact⟨[],.nil,λi v e=>by simp at e⟩
 | cons b as ih =>
   cases h with
   | cons hv h1 t =>
     obtain⟨vs,hr,Nr⟩:=ih t;refine⟨_::vs,.cons h1 hr,λi v e=>?_⟩;cases i with
     | zero=>simp at e;subst e;exact hv
     | succ i =>
       have:=Nr i v (by simpa using e)
       rwa[show o+1+i=o+(i+1) from by omega] at this
def Bk.QK{as:List AV}{vs:List Value}{g o:Nat}(h:CT c w as vs)(hv:∀(i:Nat) v,vs[i]?=some v->PE c w g (o+i) v):Bk c w g o as:=by
 induction as generalizing vs o with
 | nil=>exact .nil
 | cons b as ih =>
   cases h with
   | cons h1 t =>
     refine .cons (hv 0 _ rfl) h1 (ih t (λi v e=>?_));have:=hv (i+1) v (by simpa using e)
     rwa[show o+(i+1)=o+1+i from by omega] at this
end lists
end AI
namespace AI
open Go Go.RowKit
inductive Bo where
 | cells (cs:List AV)
 | map (es:List (Value×AV×Nat)) (clock:Nat)
structure AS where
 h:List (Nat×Bo)
 nx:Nat
 F:List (Nat×Nat)
 nr:Nat
def look(id:Nat):List (Nat×Bo)->Option Bo
 | []=>none
 | e::l=>match Nat.beq e.1 id with
   | true=>some e.2
   | false=>look id l
def tX(id:Nat)(b:Bo):List (Nat×Bo)->List (Nat×Bo)
 | []=>[]
 | e::l=>match Nat.beq e.1 id with
   | true=>(id,b)::l
   | false=>e::tX id b l
def Uv(n:Nat):List (Nat×Bo)->List (Nat×Bo)
 | []=>[]
 | e::l=>match Nat.ble n e.1 with
   | true=>Uv n l
   | false=>e::l
def AS.get(s:AS)(id:Nat):Option Bo:=look id s.h
def AS.new(s:AS)(b:Bo):AS:=⟨(s.nx,b)::s.h,s.nx+1,s.F,s.nr⟩
def AS.put(s:AS)(id:Nat)(b:Bo):AS:=⟨tX id b s.h,s.nx,s.F,s.nr⟩
def AS.cut(s:AS)(n:Nat):AS:=⟨Uv n s.h,s.nx,s.F,s.nr⟩
def Kt:List (Nat×Bo)->Nat->Prop
 | [],_=>True
 | e::l,n=>e.1 < n/\Kt l e.1
def beq_true{a b:Nat}(h:Nat.beq a b=true):a=b:=Nat.eq_of_beq_eq_true h
def beq_false{a b:Nat}(h:Nat.beq a b=false):a≠b:=Nat.ne_of_beq_eq_false h
def dQ{l:List (Nat×Bo)}{n id:Nat}{b:Bo}(hd:Kt l n)(h:look id l=some b):id < n:=by
 induction l generalizing n with
 | nil=>cases h
 | cons e l ih =>
   simp only[look] at h;split at h;rename_i hb;rw[<- beq_true hb];exact hd.1;have:=ih hd.2 h;have:=hd.1;omega
def Kt.mono{l:List (Nat×Bo)}{n m:Nat}(h:Kt l n)(hm:n<=m):Kt l m:=by
 cases l with
 | nil=>trivial
 | cons e l=>exact⟨Nat.lt_of_lt_of_le h.1 hm,h.2⟩
def nD{l:List (Nat×Bo)}{n k:Nat}(h:Kt l n):Kt (Uv k l) n:=by
 induction l generalizing n with
 | nil=>trivial
 | cons e l ih =>
   simp only[Uv];split;exact ih (h.2.mono (Nat.le_of_lt h.1));exact h
def XW{l:List (Nat×Bo)}{n k id:Nat}{b:Bo}(hd:Kt l n)(h:look id (Uv k l)=some b):look id l=some b:=by
 induction l generalizing n with
 | nil=>exact h
 | cons e l ih =>
   simp only[Uv] at h;split at h;have h1:=ih hd.2 h;have h2:=dQ hd.2 h1;simp only[look];split;rename_i hb;have:=beq_true hb;omega;exact h1;exact h
def Y8{l:List (Nat×Bo)}{n id:Nat}{b:Bo}(h:Kt l n):Kt (tX id b l) n:=by
 induction l generalizing n with
 | nil=>trivial
 | cons e l ih =>
   simp only[tX];split;rename_i hb;have:=beq_true hb;subst this;exact h;exact⟨h.1,ih h.2⟩
def Y9{l:List (Nat×Bo)}{id Re:Nat}{b b':Bo}(h:look Re (tX id b l)=some b'):(Re=id/\b'=b)\/(Re≠id/\look Re l=some b'):=by
 induction l with
 | nil=>cases h
 | cons e l ih =>
   simp only[tX] at h;split at h;rename_i hb;have Ve:=beq_true hb;simp only[look] at h ⊢;split at h;rename_i h1;cases h;exact .inl ⟨(beq_true h1).symm,rfl⟩;rename_i h1;have hne:=beq_false h1;refine .inr ⟨λe=>hne e.symm,?_⟩;split;rename_i h2;exact absurd (Ve.symm.trans (beq_true h2)) hne;exact h;rename_i hb;have Ve:=beq_false hb;simp only[look] at h ⊢;split at h;rename_i h1;cases h;refine .inr ⟨λe'=>Ve ((beq_true h1).trans e'),rfl⟩;rename_i h1;rcases ih h with h2 | ⟨h2,h3⟩
   exact .inl h2;exact .inr ⟨h2,h3⟩
def Fl(r:Nat):List (Nat×Nat)->Option Nat
 | []=>none
 | x::l=>match Nat.beq x.1 r with
   | true=>some x.2
   | false=>Fl r l
def xL(r n:Nat):List (Nat×Nat)->List (Nat×Nat)
 | []=>[]
 | x::l=>match Nat.beq x.1 r with
   | true=>(r,n)::l
   | false=>x::xL r n l
def aP{r n r' k:Nat}{l:List (Nat×Nat)}(h:Fl r' (xL r n l)=some k):(r'=r/\k=n/\(Fl r l).isSome=true)\/(r'≠r/\Fl r' l=some k):=by
 induction l with
 | nil=>cases h
 | cons x l ih =>
   simp only[xL] at h;split at h;rename_i hb;have hx:=beq_true hb;simp only[Fl] at h ⊢;split at h;rename_i h1;cases h;refine .inl ⟨(beq_true h1).symm,rfl,?_⟩;rw[hb];rfl;rename_i h1;have hne:=beq_false h1;refine .inr ⟨λe=>hne e.symm,?_⟩;split;rename_i h2;exact absurd (hx.symm.trans (beq_true h2)) hne;exact h;rename_i hb;have hx:=beq_false hb;simp only[Fl] at h ⊢;split at h;rename_i h1;cases h;exact .inr ⟨λe=>hx ((beq_true h1).trans e),rfl⟩;rename_i h1;rcases ih h with ⟨h2,h3,h4⟩ | ⟨h2,h3⟩
   refine .inl ⟨h2,h3,?_⟩;rw[hb];exact h4;exact .inr ⟨h2,h3⟩
inductive KL(c:Cx)(w:World):List (Value×AV×Nat)->List MapEntry->Prop where
 | nil:KL c w [] []
 | cons {k:Value} {a:AV} {v:Value} {b:Nat} {es:List (Value×AV×Nat)} {fs:List MapEntry} (h:Rp c w a v) (t:KL c w es fs):KL c w ((k,a,b)::es) (⟨k,v,b⟩::fs)
inductive FD(c:Cx)(w:World):Bo->Obj->Prop where
 | I3 {cs:List AV} {vs:List Value} {T:TypeId} (ext:List Value) (h:CT c w cs vs):FD c w (.cells cs) (.cells (vs++ext).toArray T (0,0))
 | map {es:List (Value×AV×Nat)} {fs:List MapEntry} {clock:Nat} (h:KL c w es fs):FD c w (.map es clock) (.map fs.toArray clock)
def FD.cells{c:Cx}{w:World}{cs:List AV}{vs:List Value}{T:TypeId}(h:CT c w cs vs):FD c w (.cells cs) (.cells vs.toArray T (0,0)):=by
 have:=FD.I3 (T:=T) [] h;rwa[List.append_nil] at this
def KL.DB{c:Cx}{w:World}{c':Cx}{w':World}(h:Mon c w c' w'){es:List (Value×AV×Nat)}{fs:List MapEntry}(k:KL c w es fs):KL c' w' es fs:=by
 induction k with
 | nil=>exact .nil
 | cons h1 _ ih=>exact .cons (h1.DB h) ih
def FD.DB{c:Cx}{w:World}{c':Cx}{w':World}(h:Mon c w c' w'){b:Bo}{o:Obj}(k:FD c w b o):FD c' w' b o:=by
 cases k with
 | I3 ext h1=>exact .I3 ext (h1.DB h)
 | map h1=>exact .map (h1.DB h)
def KL.mono{c:Cx}{w:World}{c':Cx}{w':World}(h:Ext c w c' w'){es:List (Value×AV×Nat)}{fs:List MapEntry}(k:KL c w es fs):KL c' w' es fs:=k.DB h.mon
def FD.mono{c:Cx}{w:World}{c':Cx}{w':World}(h:Ext c w c' w'){b:Bo}{o:Obj}(k:FD c w b o):FD c' w' b o:=k.DB h.mon
abbrev Bc:=Nat->Option (List AV)
structure St(G:Bc)(c:Cx)(w:World)(s:AS):Prop where
 len:s.nx=c.Dy.length
 desc:Kt s.h s.nx
 nodup:∀(i j g:Nat),c.Dy[i]?=some (some g)->c.Dy[j]?=some (some g)->i=j
 low:∀g,some g∈c.Dy->c.base<=g
 box:∀(id:Nat) g b,c.Dy[id]?=some (some g)->s.get id=some b->∃o,w.heap[g]?=some o/\FD c w b o
 JU:s.nr=c.rows.length
 row:∀(r:Nat) g n cap sz,c.rows[r]?=some (.RC g n cap sz)->(∀i,¬c.bad g i)/\c.base<=g/\some g∉c.Dy/\n<=cap/\∃vs T,w.heap[g]?=some (.cells vs T (0,0))/\vs.size=cap*sz
 Kn:∀(r n:Nat),Fl r s.F=some n->(c.rows[r]?=some .new/\n=0)\/∃g cap sz,c.rows[r]?=some (.RC g n cap sz)
 OQ:∀g,some g∈c.Dy->g < w.heap.size
 OH:∀g i,c.bad g i->g < w.heap.size
 JR:∀(r r':Nat) g n cap sz n' cap' PF,c.rows[r]?=some (.RC g n cap sz)->c.rows[r']?=some (.RC g n' cap' PF)->r=r'
 Ph:∀g cs,G g=some cs->Bk c w g 0 cs
 RS:c.base<=w.heap.size
structure Si(w w':World)(K:Nat->Prop):Prop where
 os:w'.os=w.os
 tape:w'.tape=w.tape
 output:w'.output=w.output
 size:w.heap.size<=w'.heap.size
 block:∀k,k < w.heap.size->¬K k->w'.heap[k]?=w.heap[k]?
def Si.cell{w w':World}{K:Nat->Prop}(h:Si w w' K){g i:Nat}(hg:g < w.heap.size)(hk:¬K g):w'.cell? ⟨g,i,none⟩=w.cell? ⟨g,i,none⟩ :=
 World.cell?_of_block (w:=w) (h.block g hg hk)
def Si.below{w w':World}{K:Nat->Prop}(h:Si w w' K){B:Nat}(hB:B<=w.heap.size)(hK:∀k,K k->B<=k):Below B w w' :=
 ⟨h.os,h.tape,h.output,h.size,λk hk=>h.block k (by omega) (λe=>by have:=hK k e;omega)⟩
def wN{l:List Nat}(h:l.Nodup){i j g:Nat}(hi:l[i]?=some g)(hj:l[j]?=some g):i=j:=by
 obtain⟨li,ei⟩:=List.getElem?_eq_some_iff.1 hi;obtain⟨lj,ej⟩:=List.getElem?_eq_some_iff.1 hj;have hp:=List.pairwise_iff_getElem.1 h;rcases Nat.lt_trichotomy i j with hlt | he | hlt
 exact absurd (ei.trans ej.symm) (hp i j li lj hlt);exact he;exact absurd (ej.trans ei.symm) (hp j i lj li hlt)
section
variable {G:Bc} {c:Cx} {w:World} {s:AS}
def St.QQ(h:St G c w s){g:Nat}(hg:some g∈c.Dy):g < w.heap.size:=h.OQ g hg
def St.QT(h:St G c w s){r g n cap sz:Nat}(hr:c.rows[r]?=some (.RC g n cap sz)):g < w.heap.size:=by
 obtain⟨_,_,_,_,vs,T,ho,_⟩:=h.row r g n cap sz hr;exact(Array.getElem?_eq_some_iff.1 ho).1
def St.eQ(h:St G c w s){g i:Nat}(hs:c.xN g i):g < w.heap.size:=by
 rcases hs with hs | ⟨r,n,cap,sz,hr,_⟩ | hs
 exact h.QQ hs;exact h.QT hr;exact h.OH g i hs
def St.same(h:St G c w s){w':World}(k:Si w w' (λ_=>False)):Ext c w c w'/\St G c w' s:=by
 have e:Ext c w c w':=⟨List.prefix_refl _,Nat.le_refl _,λ_ y _ h=>⟨y,h,Ld.refl y⟩,λg i v hv=>⟨Nat.lt_of_lt_of_le hv.1 k.size,hv.2.1,by rw[k.cell hv.1 id];exact hv.2.2⟩,k.below h.RS (λ_ h=>h.elim),rfl,rfl,λ_ h=>.inl h,λr _ n cap sz h=>.inl ⟨r,n,cap,sz,h⟩,λq hq _ _=>k.block q hq not_false⟩;refine⟨e,⟨h.len,h.desc,h.nodup,h.low,λid g b h1 h2=>?_,h.JU,λr g n cap sz hr=>?_,h.Kn,λg hg=>Nat.lt_of_lt_of_le (h.OQ g hg) k.size,λg i hb=>Nat.lt_of_lt_of_le (h.OH g i hb) k.size,h.JR,λg cs hg=>(h.Ph g cs hg).mono e,Nat.le_trans h.RS k.size⟩⟩;obtain⟨o,ho,hb⟩:=h.box id g b h1 h2;exact⟨o,by rw[k.block g (Array.getElem?_eq_some_iff.1 ho).1 not_false];exact ho,hb.mono e⟩;obtain⟨Np,h2,h3,h4,vs,T,ho,h5⟩:=h.row r g n cap sz hr;exact⟨Np,h2,h3,h4,vs,T,by rw[k.block g (Array.getElem?_eq_some_iff.1 ho).1 not_false];exact ho,h5⟩
def NP(w:World)(o:Obj):Si w { w with heap:=w.heap.push o } (λ_=>False) :=
 ⟨rfl,rfl,rfl,by simp,λk hk _=>by simp[Array.getElem?_push];intro h;omega⟩
def gL(w:World):Si w { w with drawn:=w.drawn+1 } (λ_=>False):=⟨rfl,rfl,rfl,Nat.le_refl _,λ_ _ _=>rfl⟩
def jS(w:World)(o:Obj):({ w with heap:=w.heap.push o }:World).heap[w.heap.size]?=some o:=by simp
def St.aqP(h:St G c w s)(vs:List Value)(T:TypeId){i:Nat}{v:Value}(hv:vs[i]?=some v):PE c { w with heap:=w.heap.push (.cells vs.toArray T) } w.heap.size i v:=by
 refine⟨by simp,λhs=>?_,?_⟩;have:=h.eQ hs;omega;simp[World.cell?,hv]
def St.new(h:St G c w s){b:Bo}{o:Obj}(hb:FD c w b o) :
   Ext c w { c with Dy:=c.Dy++[some w.heap.size] } { w with heap:=w.heap.push o }/\St G { c with Dy:=c.Dy++[some w.heap.size] } { w with heap:=w.heap.push o } (s.new b):=by
 have k:=NP w o
 have e:Ext c w { c with Dy:=c.Dy++[some w.heap.size] } { w with heap:=w.heap.push o }:=by
   refine⟨List.prefix_append _ _,Nat.le_refl _,λ_ y _ h=>⟨y,h,Ld.refl y⟩,λg i v hv=>⟨Nat.lt_of_lt_of_le hv.1 k.size,λhs=>?_,by rw[k.cell hv.1 id];exact hv.2.2⟩,k.below h.RS (λ_ h=>h.elim),rfl,rfl,λg hg=>(List.mem_append.1 hg).imp id (λh=>by simp at h;omega),λr _ n cap sz h=>.inl ⟨r,n,cap,sz,h⟩,λq hq _ _=>k.block q hq not_false⟩;rcases hs with hs | hs
   rcases List.mem_append.1 hs with hs | hs
   exact hv.2.1 (.inl hs);have h0:=hv.1;simp at hs;omega;exact hv.2.1 (.inr hs)
 refine⟨e,⟨by simp[AS.new,h.len],⟨Nat.lt_succ_self _,h.desc⟩,?_,?_,λid g b' h1 h2=>?_,h.JU,λr g n cap sz hr=>?_,h.Kn,λg hg=>?_,λg i hb=>Nat.lt_of_lt_of_le (h.OH g i hb) k.size,h.JR,λg cs hg=>(h.Ph g cs hg).mono e,by simp;exact Nat.le_succ_of_le h.RS⟩⟩;intro i j g h1 h2;by_cases hi:i < c.Dy.length<;>by_cases hj:j < c.Dy.length
 rw[List.getElem?_append_left hi] at h1;rw[List.getElem?_append_left hj] at h2;exact h.nodup i j g h1 h2;rw[List.getElem?_append_left hi] at h1;rw[List.getElem?_append_right (by omega)] at h2;have:=h.QQ (List.mem_of_getElem? h1);cases hk:j - c.Dy.length with
 | zero=>rw[hk] at h2;simp at h2;omega
 | succ n=>rw[hk] at h2;simp at h2
 rw[List.getElem?_append_left hj] at h2;rw[List.getElem?_append_right (by omega)] at h1;have:=h.QQ (List.mem_of_getElem? h2);cases hk:i - c.Dy.length with
 | zero=>rw[hk] at h1;simp at h1;omega
 | succ n=>rw[hk] at h1;simp at h1
 have e1:=(List.getElem?_eq_some_iff.1 h1).1;have e2:=(List.getElem?_eq_some_iff.1 h2).1;simp at e1 e2;omega;intro g hg;rcases List.mem_append.1 hg with hg | hg
 exact h.low g hg;simp at hg;subst hg;exact h.RS;simp only[AS.get,AS.new,look] at h2;split at h2;rename_i Ve;cases h2;have aJV:id=c.Dy.length:=by rw[<- h.len];exact(beq_true Ve).symm
 subst aJV;rw[List.getElem?_concat_length] at h1;cases h1;exact⟨o,jS w o,hb.mono e⟩;have hlt:=dQ h.desc h2;rw[List.getElem?_append_left (by rw[<- h.len];exact hlt)] at h1;obtain⟨o',ho,Ve⟩:=h.box id g b' h1 h2;exact⟨o',by rw[k.block g (Array.getElem?_eq_some_iff.1 ho).1 not_false];exact ho,Ve.mono e⟩;obtain⟨Np,h2,h3,h4,vs,T,ho,h5⟩:=h.row r g n cap sz hr;refine⟨Np,h2,?_,h4,vs,T,by rw[k.block g (Array.getElem?_eq_some_iff.1 ho).1 not_false];exact ho,h5⟩;intro hm;rcases List.mem_append.1 hm with hm | hm
 exact h3 hm;have:=(Array.getElem?_eq_some_iff.1 ho).1;simp at hm;omega;rcases List.mem_append.1 hg with hg | hg
 have:=h.OQ g hg;simp;omega;simp at hg;subst hg;simp
def St.put(h:St G c w s){id g:Nat}{b:Bo}{o:Obj}{w':World}(hid:c.Dy[id]?=some (some g))(k:Si w w' (λx=>x=g))(hw:w'.heap[g]?=some o)(hb:FD c w b o) :
   Ext c w c w'/\St G c w' (s.put id b):=by
 have hgm:some g∈c.Dy:=List.mem_of_getElem? hid
 have e:Ext c w c w':=by
   refine⟨List.prefix_refl _,Nat.le_refl _,λ_ y _ h=>⟨y,h,Ld.refl y⟩,λg' i v hv=>⟨Nat.lt_of_lt_of_le hv.1 k.size,hv.2.1,?_⟩,k.below h.RS (λx hx=>by rw[hx];exact h.low g hgm),rfl,rfl,λ_ h=>.inl h,λr _ n cap sz h=>.inl ⟨r,n,cap,sz,h⟩,λq hq hp _=>k.block q hq (λe=>hp (by rw[e];exact hgm))⟩;rw[k.cell hv.1 (λe=>hv.2.1 (.inl (by rw[e];exact hgm)))];exact hv.2.2
 refine⟨e,⟨h.len,Y8 h.desc,h.nodup,h.low,λRe g' b' h1 h2=>?_,h.JU,λr g' n cap sz hr=>?_,h.Kn,λg hg=>Nat.lt_of_lt_of_le (h.OQ g hg) k.size,λg i hb=>Nat.lt_of_lt_of_le (h.OH g i hb) k.size,h.JR,λg' cs hg=>(h.Ph g' cs hg).mono e,Nat.le_trans h.RS k.size⟩⟩;rcases Y9 h2 with ⟨rfl,rfl⟩ | ⟨hii,h3⟩
 rw[hid] at h1;cases h1;exact⟨o,hw,hb.mono e⟩;obtain⟨o',ho,Ve⟩:=h.box Re g' b' h1 h3
 have hne:¬g'=g:=λhg=>by
   subst hg;exact hii (h.nodup _ _ _ h1 hid)
 exact⟨o',by rw[k.block g' (Array.getElem?_eq_some_iff.1 ho).1 hne];exact ho,Ve.mono e⟩;obtain⟨Np,h2,h3,h4,vs,T,ho,h5⟩:=h.row r g' n cap sz hr;exact⟨Np,h2,h3,h4,vs,T,by rw[k.block g' (Array.getElem?_eq_some_iff.1 ho).1 (λe=>h3 (by rw[e];exact hgm))];exact ho,h5⟩
def AS.tok(s:AS):AS:=⟨s.h,s.nx,(s.nr,0)::s.F,s.nr+1⟩
def kD{c:Cx}{r:Nat}{x:Rw}(h:(c.rows++[Rw.new])[r]?=some x):(r < c.rows.length/\c.rows[r]?=some x)\/(r=c.rows.length/\x=.new):=by
 by_cases hr:r < c.rows.length;rw[List.getElem?_append_left hr] at h;exact .inl ⟨hr,h⟩;have hl:=(List.getElem?_eq_some_iff.1 h).1;simp at hl;have:r=c.rows.length:=by omega
 subst this;rw[List.getElem?_concat_length] at h;exact .inr ⟨rfl,(Option.some.inj h).symm⟩
def St.tok(h:St G c w s):Ext c w { c with rows:=c.rows++[.new] } w/\St G { c with rows:=c.rows++[.new] } w s.tok:=by
 have hb:∀(r g n cap sz:Nat),(c.rows++[Rw.new])[r]?=some (.RC g n cap sz)->c.rows[r]?=some (.RC g n cap sz):=λr g n cap sz hr=>by
   rcases kD hr with h1 | h1
   exact h1.2;cases h1.2
 have e:Ext c w { c with rows:=c.rows++[.new] } w:=by
   refine⟨List.prefix_refl _,by simp,λr y hr hy=>?_,λg i v hv=>⟨hv.1,λhs=>?_,hv.2.2⟩,Below.refl _ _,rfl,rfl,λ_ h=>.inl h,λr g n cap sz hr=>.inl ⟨r,n,cap,sz,hb _ _ _ _ _ hr⟩,λ_ _ _ _=>rfl⟩;rcases kD hy with h1 | h1
   exact⟨y,h1.2,Ld.refl y⟩;omega;rcases hs with hs | ⟨r,n,cap,sz,hr,h1,h2⟩ | hs
   exact hv.2.1 (.inl hs);exact hv.2.1 (.inr (.inl ⟨r,n,cap,sz,hb _ _ _ _ _ hr,h1,h2⟩));exact hv.2.1 (.inr (.inr hs))
 refine⟨e,⟨h.len,h.desc,h.nodup,h.low,λid g b h1 h2=>?_,by simp[AS.tok,h.JU],λr g n cap sz hr=>h.row r g n cap sz (hb _ _ _ _ _ hr),λr n hr=>?_,h.OQ,h.OH,λr r' g n cap sz n' cap' PF h1 h2=>h.JR r r' g _ _ _ _ _ _ (hb _ _ _ _ _ h1) (hb _ _ _ _ _ h2),λg cs hg=>(h.Ph g cs hg).mono e,h.RS⟩⟩;obtain⟨o,ho,hbo⟩:=h.box id g b h1 h2;exact⟨o,ho,hbo.mono e⟩;simp only[AS.tok,Fl] at hr;split at hr;rename_i h1;have:=beq_true h1;rw[h.JU] at this;subst this;cases hr;exact .inl ⟨List.getElem?_concat_length,rfl⟩;have h2:=h.Kn r n hr
 have hlt:r < c.rows.length:=by
   rcases h2 with h2 | ⟨g,cap,sz,h2⟩
   exact(List.getElem?_eq_some_iff.1 h2.1).1;exact(List.getElem?_eq_some_iff.1 h2).1
 simp only;rw[List.getElem?_append_left hlt];exact h2
def St.cut(h:St G c w s)(n:Nat):St G c w (s.cut n) :=
 ⟨h.len,nD h.desc,h.nodup,h.low,λid g b h1 h2=>h.box id g b h1 (XW h.desc h2),h.JU,h.row,h.Kn,h.OQ,h.OH,h.JR,h.Ph,h.RS⟩
end
def AS.hold(s:AS):List Bo->AS
 | []=>s
 | b::l=>(s.new b).hold l
section
variable {G:Bc} {c:Cx} {w:World} {s:AS}
def R6{l:List (Option Nat)}{g:Nat}:some g∈l++[none]↔some g∈l:=by simp
def St.hole(h:St G c w s)(b:Bo):∃c',Ext c w c' w/\St G c' w (s.new b)/\c'.Dy=c.Dy++[none]:=by
 refine⟨{ c with Dy:=c.Dy++[none] },?_⟩
 have e:Ext c w { c with Dy:=c.Dy++[none] } w:=by
   refine⟨List.prefix_append _ _,Nat.le_refl _,λ_ y _ h=>⟨y,h,Ld.refl y⟩,λg i v hv=>⟨hv.1,λhs=>?_,hv.2.2⟩,Below.refl _ _,rfl,rfl,λg hg=>.inl (R6.1 hg),λr _ n cap sz h=>.inl ⟨r,n,cap,sz,h⟩,λ_ _ _ _=>rfl⟩;rcases hs with hs | hs
   exact hv.2.1 (.inl (R6.1 hs));exact hv.2.1 (.inr hs)
 have get:∀(i g:Nat),(c.Dy++[none])[i]?=some (some g)->c.Dy[i]?=some (some g):=by
   intro i g hi;by_cases hl:i < c.Dy.length;rwa[List.getElem?_append_left hl] at hi;rw[List.getElem?_append_right (by omega)] at hi;cases hk:i - c.Dy.length with
   | zero=>rw[hk] at hi;simp at hi
   | succ n=>rw[hk] at hi;simp at hi
 refine⟨e,⟨by simp[AS.new,h.len],⟨Nat.lt_succ_self _,h.desc⟩,λi j g h1 h2=>h.nodup i j g (get i g h1) (get j g h2),λg hg=>h.low g (R6.1 hg),λid g b' h1 h2=>?_,h.JU,λr g n cap sz hr=>?_,h.Kn,λg hg=>h.OQ g (R6.1 hg),h.OH,h.JR,λg cs hg=>(h.Ph g cs hg).mono e,h.RS⟩,rfl⟩;have h1:=get id g h1;simp only[AS.get,AS.new,look] at h2;split at h2;rename_i Ve;exfalso;have:=(List.getElem?_eq_some_iff.1 h1).1;have h3:=beq_true Ve;have h4:=h.len;omega;obtain⟨o',ho,Ve⟩:=h.box id g b' h1 h2;exact⟨o',ho,Ve.mono e⟩;obtain⟨Np,h2,h3,h4⟩:=h.row r g n cap sz hr;exact⟨Np,h2,λhm=>h3 (R6.1 hm),h4⟩
def St.holds(h:St G c w s)(l:List Bo):∃c',Ext c w c' w/\St G c' w (s.hold l)/\c'.Dy=c.Dy++List.replicate l.length none:=by
 induction l generalizing c s with
 | nil=>exact⟨c,Ext.refl _ _,h,by simp⟩
 | cons b l ih =>
   obtain⟨c1,e1,st1,p1⟩:=h.hole b;obtain⟨c2,e2,Xg,p2⟩:=ih st1;exact⟨c2,e1.trans e2,Xg,by rw[p2,p1,List.append_assoc];rfl⟩
def mem_set{l:List (Option Nat)}{id g x:Nat}(h:some g∈l.set id (some x)):some g∈l\/g=x:=by
 rcases List.mem_or_eq_of_mem_set h with h | h
 exact .inl h;exact .inr (by simpa using h)
def WZ{l:List (Option Nat)}{id x i g:Nat}(h:(l.set id (some x))[i]?=some (some g)):l[i]?=some (some g)\/(i=id/\g=x):=by
 by_cases e:id=i;subst e;rw[List.getElem?_set_self' ] at h;cases hl:l[id]? with
 | none=>rw[hl] at h;cases h
 | some y=>rw[hl] at h;simp at h;exact .inr ⟨rfl,h.symm⟩
 rw[List.getElem?_set_ne e] at h;exact .inl h
def St.fill(h:St G c w s){id:Nat}{b:Bo}{o:Obj}(hid:c.Dy[id]?=some none)(cX:s.get id=some b)(hb:FD c w b o) :
   Mon c w { c with Dy:=c.Dy.set id (some w.heap.size) } { w with heap:=w.heap.push o }/\St G { c with Dy:=c.Dy.set id (some w.heap.size) } { w with heap:=w.heap.push o } s /\
   ∀c0 w0,Ext c0 w0 c w->c0.Dy.length<=id->Ext c0 w0 { c with Dy:=c.Dy.set id (some w.heap.size) } { w with heap:=w.heap.push o }:=by
 have k:=NP w o;have hlt:id < c.Dy.length:=(List.getElem?_eq_some_iff.1 hid).1
 have aNO:(c.Dy.set id (some w.heap.size))[id]?=some (some w.heap.size):=by
   rw[List.getElem?_set_self hlt]
 have hold:∀(i g:Nat),c.Dy[i]?=some (some g)->(c.Dy.set id (some w.heap.size))[i]?=some (some g):=by
   intro i g hi;have:id≠i:=λe=>by subst e;rw[hid] at hi;cases hi
   rw[List.getElem?_set_ne this];exact hi
 have xN:∀g i,({ c with Dy:=c.Dy.set id (some w.heap.size) }:Cx).xN g i->c.xN g i\/g=w.heap.size:=by
   intro g i hs;rcases hs with hs | hs
   rcases mem_set hs with hs | hs
   exact .inl (.inl hs);exact .inr hs;exact .inl (.inr hs)
 have Nr:∀g i v,PE c w g i v->PE { c with Dy:=c.Dy.set id (some w.heap.size) } { w with heap:=w.heap.push o } g i v:=by
   intro g i v hv;refine⟨Nat.lt_of_lt_of_le hv.1 k.size,λhs=>?_,by rw[k.cell hv.1 not_false];exact hv.2.2⟩;rcases xN g i hs with hs | hs
   exact hv.2.1 hs;have:=hv.1;omega
 have m:Mon c w { c with Dy:=c.Dy.set id (some w.heap.size) } { w with heap:=w.heap.push o }:=⟨hold,Nat.le_refl _,λ_ y _ h=>⟨y,h,Ld.refl y⟩,Nr⟩
 refine⟨m,⟨by simp[h.len],h.desc,?_,?_,λi g b' h1 h2=>?_,h.JU,λr g n cap sz hr=>?_,h.Kn,λg hg=>?_,λg i hb=>Nat.lt_of_lt_of_le (h.OH g i hb) k.size,h.JR,λg cs hg=>(h.Ph g cs hg).DB m,by simp;exact Nat.le_succ_of_le h.RS⟩,?_⟩;intro i j g h1 h2;rcases WZ h1 with h1 | ⟨e1,g1⟩<;>rcases WZ h2 with h2 | ⟨e2,g2⟩
 exact h.nodup i j g h1 h2;have:=h.QQ (List.mem_of_getElem? h1);omega;have:=h.QQ (List.mem_of_getElem? h2);omega;omega;intro g hg;rcases mem_set hg with hg | hg
 exact h.low g hg;subst hg;exact h.RS;rcases WZ h1 with h1 | ⟨e1,g1⟩
 obtain⟨o',ho,Ve⟩:=h.box i g b' h1 h2;exact⟨o',by rw[k.block g (Array.getElem?_eq_some_iff.1 ho).1 not_false];exact ho,Ve.DB m⟩;subst e1 g1;rw[cX] at h2;cases h2;exact⟨o,jS w o,hb.DB m⟩;obtain⟨Np,h2,h3,h4,vs,T,ho,h5⟩:=h.row r g n cap sz hr;refine⟨Np,h2,λhm=>?_,h4,vs,T,by rw[k.block g (Array.getElem?_eq_some_iff.1 ho).1 not_false];exact ho,h5⟩;rcases mem_set hm with hm | hm
 exact h3 hm;have:=(Array.getElem?_eq_some_iff.1 ho).1;omega;rcases mem_set hg with hg | hg
 have:=h.OQ g hg;simp;omega;subst hg;simp;intro c0 w0 x hle;refine⟨?_,x.JU,x.rows,λg i v hv=>Nr g i v (x.fC g i v hv),x.below.trans (k.below (by rw[<- x.base];exact h.RS) (λ_ h=>h.elim)),x.base,x.bad,λg hg=>?_,x.kB,λq hq hp hr=>?_⟩;obtain⟨t,ht⟩:=x.Dy;refine⟨t.set (id - c0.Dy.length) (some w.heap.size),?_⟩;show _=c.Dy.set id (some w.heap.size);rw[<- ht,List.set_append_right _ _ hle];rcases mem_set hg with hg | hg
 exact x.jP g hg;subst hg;exact .inr x.below.size;have Zn:q < w.heap.size:=Nat.lt_of_lt_of_le hq x.below.size;rw[k.block q Zn not_false];exact x.UF q hq hp hr
end
end AI
