/- Part of a proof: see the last text. -/
import Derived.Calls
import Derived.Orders
import Derived.Below
set_option linter.unusedVariables false
set_option linter.unusedSimpArgs false
set_option linter.defProp false
noncomputable section
open Array renaming getElem?_eq_some_iff->aOA
open List renaming getElem?_append_left->bcF,getElem?_append_right->bjY,getElem?_concat_length->bkJ,getElem?_eq_some_iff->abH,getElem?_set_ne->bkF,mem_append->bjK,mem_of_getElem?->bcH,prefix_append->bnT,prefix_refl->blY,replicate->bkT
open Nat renaming beq->bjO,le_refl->aOC,le_succ_of_le->brD,le_trans->bjH,lt_of_lt_of_le->bcC,lt_succ_self->bkM
open Option.some renaming inj->bjE
namespace AI
open Go Go.RowKit
inductive Own where
 | full
 | row (r sz:Nat)
 | lost
 | nil
 | nn
 deriving DecidableEq,Inhabited
inductive AV where
 | sc (v:Value)
 | agg (cs:List AV)
 | E9 (vs:List AV)
 | sl (own:Own) (n:Nat) (cs:List AV)
 | msl (id off n:Nat)
 | el (cs:List AV)
 | ptr (id off:Nat)
 | fn (f:Fn) (first caps:List AV)
 | ifc (t:TypeId) (v:AV)
 | mp (id:Nat)
 | any
 | raw (A:Option Addr) (n cap:Nat)
 deriving Inhabited
def scalar:Value->Bool
 | .bool _ | .int _ _ | .string _ | .nilIface | .nilFunc | .pointer none | .map none=>true
 | .tuple vs=>vs.size == 0
 | _=>false
def bB:Value->Bool
 | .bool _=>false
 | _=>true
inductive Rw where
 | gone
 | new
 | R1 (g n cap sz:Nat)
def La(x:Rw):Rw->Prop
 | .gone=>True
 | .new=>x=.new
 | .R1 g n cap sz=>x=.R1 g n cap sz\/x=.new\/∃g0 n0 QS lO,x=.R1 g0 n0 QS lO/\n0 < n
def La.refl(x:Rw):La x x:=by cases x<;>simp[La]
def La.trans{x y z:Rw}(h:La x y)(k:La y z):La x z:=by
 cases z with
 | gone=>trivial
 | new=>simp only[La] at k;subst k;exact h
 | R1 g n cap sz =>
   simp only[La] at k;rcases k with rfl | rfl | ⟨g0,n0,QS,lO,rfl,hlt⟩
   exact h;simp only[La] at h;exact .inr (.inl h);simp only[La] at h;rcases h with rfl | rfl | ⟨g1,n1,bbH,sz1,rfl,biD⟩
   exact .inr (.inr ⟨_,_,_,_,rfl,hlt⟩);exact .inr (.inl rfl);exact .inr (.inr ⟨_,_,_,_,rfl,by omega⟩)
structure Cx where
 base:Nat
 CJ:List (Option Nat)
 rows:List Rw
 bad:Nat->Nat->Prop
def Cx.lN(c:Cx)(g i:Nat):Prop:=some g∈c.CJ\/(∃r n cap sz:Nat,c.rows[r]?=some (.R1 g n cap sz)/\n*sz<=i/\i < cap*sz)\/c.bad g i
def MD(c:Cx)(w:World)(g i:Nat)(v:Value):Prop:=g < w.heap.size/\¬c.lN g i/\w.cell? ⟨g,i,none⟩=some v
def cO(c:Cx)(own:Own)(g o n cap len:Nat):Prop:=match own with
 | .full=>cap=n
 | .row r sz=>o=0/\len=n*sz/\r < c.rows.length/\c.rows[r]?≠some .new/\∀g' n' cap' OL,c.rows[r]?=some (.R1 g' n' cap' OL)->n<=n'/\(n'=n->g'=g/\cap'=cap/\OL=sz)
 | .lost=>True
 | .nil=>False
 | .nn=>True
def aaA(c:Cx)(own:Own)(A:Option Addr)(cap:Nat):Prop:=match own with
 | .full=>cap=0
 | .row r _=>cap=0/\r < c.rows.length
 | .lost=>True
 | .nil=>A.isNone=true
 | .nn=>A.isNone=false
mutual
inductive Rp(c:Cx)(w:World):AV->Value->Prop where
 | sc {v:Value} (h:scalar v=true):Rp c w (.sc v) v
 | agg {cs:List AV} {vs:List Value} (h:Cv c w cs vs):Rp c w (.agg cs) (.agg vs.toArray)
 | E9 {cs:List AV} {vs:List Value} (h:Cv c w cs vs):Rp c w (.E9 cs) (.tuple vs.toArray)
 | sl0 {own:Own} {A:Option Addr} {cap:Nat} (h:aaA c own A cap):Rp c w (.sl own 0 []) (.slice A 0 cap)
 | K6 {own:Own} {n cap g o:Nat} {cs:List AV} (hn:n<=cap) (h:A1 c w g o cs) (ho:cO c own g o n cap cs.length):Rp c w (.sl own n cs) (.slice (some ⟨g,o,none⟩) n cap)
 | msl {id off n g cap:Nat} (hn:n<=cap) (h:c.CJ[id]?=some (some g)):Rp c w (.msl id off n) (.slice (some ⟨g,off,none⟩) n cap)
 | el {cs:List AV} {g o:Nat} (h:A1 c w g o cs):Rp c w (.el cs) (.pointer (some ⟨g,o,none⟩))
 | ptr {id off g:Nat} (h:c.CJ[id]?=some (some g)):Rp c w (.ptr id off) (.pointer (some ⟨g,off,none⟩))
 | fn {f:Fn} {first caps:List AV} {us vs:List Value} (h1:Cv c w first us) (h2:Cv c w caps vs):Rp c w (.fn f first caps) (.func f us.toArray vs.toArray)
 | ifc {t:TypeId} {a:AV} {v:Value} (h:Rp c w a v):Rp c w (.ifc t a) (.iface t v)
 | mp {id g:Nat} (h:c.CJ[id]?=some (some g)):Rp c w (.mp id) (.map (some g))
 | any {v:Value} (h:bB v=true):Rp c w .any v
 | raw {A:Option Addr} {n cap:Nat}:Rp c w (.raw A n cap) (.slice A n cap)
inductive Cv(c:Cx)(w:World):List AV->List Value->Prop where
 | nil:Cv c w [] []
 | cons {a:AV} {v:Value} {as:List AV} {vs:List Value} (h:Rp c w a v) (t:Cv c w as vs):Cv c w (a::as) (v::vs)
inductive A1(c:Cx)(w:World):Nat->Nat->List AV->Prop where
 | nil {g o:Nat}:A1 c w g o []
 | cons {g o:Nat} {a:AV} {v:Value} {as:List AV} (hv:MD c w g o v) (h:Rp c w a v) (t:A1 c w g (o+1) as):A1 c w g o (a::as)
end
structure Ext(c:Cx)(w:World)(c':Cx)(w':World):Prop where
 CJ:c.CJ <+: c'.CJ
 I8:c.rows.length<=c'.rows.length
 rows:∀(r:Nat) y,r < c.rows.length->c'.rows[r]?=some y->∃x,c.rows[r]?=some x/\La x y
 lR:∀g i v,MD c w g i v->MD c' w' g i v
 below:Below c.base w w'
 base:c'.base=c.base
 bad:c'.bad=c.bad
 gI:∀g,some g∈c'.CJ->some g∈c.CJ\/w.heap.size<=g
 iA:∀(r:Nat) g n cap sz,c'.rows[r]?=some (.R1 g n cap sz)->(∃(r0 n0 QS lO:Nat),c.rows[r0]?=some (.R1 g n0 QS lO))\/w.heap.size<=g
 GY:∀k,k < w.heap.size->some k∉c.CJ->(∀(r:Nat) n cap sz,c.rows[r]?≠some (.R1 k n cap sz))->w'.heap[k]?=w.heap[k]?
def Ext.refl(c:Cx)(w:World):Ext c w c w:=⟨blY _,aOC _,λ_ y _ h=>⟨y,h,La.refl y⟩,λ_ _ _ h=>h,Below.refl _ _,rfl,rfl,λ_ h=>.inl h,λr _ n cap sz h=>.inl ⟨r,n,cap,sz,h⟩,λ_ _ _ _=>rfl⟩
def Ext.trans{c1 c2 c3:Cx}{w1 w2 w3:World}(h:Ext c1 w1 c2 w2)(k:Ext c2 w2 c3 w3):Ext c1 w1 c3 w3 :=
 ⟨h.CJ.trans k.CJ,bjH h.I8 k.I8,λr z hr hz=>by
   obtain⟨y,hy,l2⟩:=k.rows r z (bcC hr h.I8) hz;obtain⟨x,hx,l1⟩:=h.rows r y hr hy;exact⟨x,hx,l1.trans l2⟩,λg i v hv=>k.lR g i v (h.lR g i v hv),h.below.trans (by have:=k.below;rw[h.base] at this;exact this),k.base.trans h.base,k.bad.trans h.bad,
  λg hg=>by
   rcases k.gI g hg with h1 | h1
   exact h.gI g h1;exact .inr (bjH h.below.size h1),
  λr g n cap sz hr=>by
   rcases k.iA r g n cap sz hr with ⟨r0,n0,QS,lO,h1⟩ | h1
   exact h.iA r0 g n0 QS lO h1;exact .inr (bjH h.below.size h1),
  λq hq hp hr=>by
   rw[k.GY q (bcC hq h.below.size) (λhm=>?_) (λr n cap sz hm=>?_),h.GY q hq hp hr];rcases h.gI q hm with h1 | h1
   exact hp h1;omega;rcases h.iA r q n cap sz hm with ⟨r0,n0,QS,lO,h1⟩ | h1
   exact hr r0 n0 QS lO h1;omega⟩
def Ext.get{c:Cx}{w:World}{c':Cx}{w':World}(h:Ext c w c' w'){id g:Nat}(e:c.CJ[id]?=some (some g)):c'.CJ[id]?=some (some g):=by
 obtain⟨t,ht⟩:=h.CJ;rw[<- ht,bcF (abH.1 e).1];exact e
structure Mon(c:Cx)(w:World)(c':Cx)(w':World):Prop where
 get:∀(id g:Nat),c.CJ[id]?=some (some g)->c'.CJ[id]?=some (some g)
 I8:c.rows.length<=c'.rows.length
 rows:∀(r:Nat) y,r < c.rows.length->c'.rows[r]?=some y->∃x,c.rows[r]?=some x/\La x y
 lR:∀g i v,MD c w g i v->MD c' w' g i v
def Ext.mon{c:Cx}{w:World}{c':Cx}{w':World}(h:Ext c w c' w'):Mon c w c' w':=⟨λ_ _ e=>h.get e,h.I8,h.rows,h.lR⟩
def cO.Dk{c:Cx}{w:World}{c':Cx}{w':World}(h:Mon c w c' w'){own:Own}{g o n cap len:Nat}(k:cO c own g o n cap len):cO c' own g o n cap len:=by
 cases own with
 | nil=>exact k
 | nn=>exact k
 | full=>exact k
 | lost=>trivial
 | row r sz =>
   obtain⟨k1,k2,k3,k4,k5⟩:=k;refine⟨k1,k2,bcC k3 h.I8,λe=>?_,λg' n' cap' OL e=>?_⟩;obtain⟨x,hx,hle⟩:=h.rows r _ k3 e;simp only[La] at hle;subst hle;exact k4 hx;obtain⟨x,hx,hle⟩:=h.rows r _ k3 e;simp only[La] at hle;rcases hle with rfl | rfl | ⟨g0,n0,QS,lO,rfl,hlt⟩
   exact k5 _ _ _ _ hx;exact absurd hx k4;have:=(k5 _ _ _ _ hx).1;exact⟨by omega,λe=>by omega⟩
def aaA.Dk{c:Cx}{w:World}{c':Cx}{w':World}(h:Mon c w c' w'){own:Own}{A:Option Addr}{cap:Nat}(k:aaA c own A cap):aaA c' own A cap:=by
 cases own with
 | nil=>exact k
 | nn=>exact k
 | full=>exact k
 | lost=>trivial
 | row r sz=>exact⟨k.1,bcC k.2 h.I8⟩
def aaA.re{c:Cx}{own:Own}{A B:Option Addr}{cap:Nat}(h:aaA c own A cap)(hb:B.isNone=A.isNone):aaA c own B cap:=by
 cases own with
 | nil=>exact hb.trans h
 | nn=>exact hb.trans h
 | full=>exact h
 | lost=>trivial
 | row r sz=>exact h
mutual
def Rp.Dk{c:Cx}{w:World}{c':Cx}{w':World}(h:Mon c w c' w'){a:AV}{v:Value}(k:Rp c w a v):Rp c' w' a v:=by
 cases k with
 | sc h1=>exact .sc h1
 | agg h1=>exact .agg (Cv.Dk h h1)
 | E9 h1=>exact .E9 (Cv.Dk h h1)
 | sl0 h1=>exact .sl0 (h1.Dk h)
 | K6 hn h1 ho=>exact .K6 hn (A1.Dk h h1) (ho.Dk h)
 | msl hn h1=>exact .msl hn (h.get _ _ h1)
 | el h1=>exact .el (A1.Dk h h1)
 | ptr h1=>exact .ptr (h.get _ _ h1)
 | fn h1 h2=>exact .fn (Cv.Dk h h1) (Cv.Dk h h2)
 | ifc h1=>exact .ifc (Rp.Dk h h1)
 | mp h1=>exact .mp (h.get _ _ h1)
 | any h1=>exact .any h1
 | raw=>exact .raw
def Cv.Dk{c:Cx}{w:World}{c':Cx}{w':World}(h:Mon c w c' w'){a:List AV}{v:List Value}(k:Cv c w a v):Cv c' w' a v:=by
 cases k with
 | nil=>exact .nil
 | cons h1 t=>exact .cons (Rp.Dk h h1) (Cv.Dk h t)
def A1.Dk{c:Cx}{w:World}{c':Cx}{w':World}(h:Mon c w c' w'){g o:Nat}{a:List AV}(k:A1 c w g o a):A1 c' w' g o a:=by
 cases k with
 | nil=>exact .nil
 | cons hv h1 t=>exact .cons (h.lR _ _ _ hv) (Rp.Dk h h1) (A1.Dk h t)
end
def Rp.mono{c:Cx}{w:World}{c':Cx}{w':World}(h:Ext c w c' w'){a:AV}{v:Value}(k:Rp c w a v):Rp c' w' a v:=k.Dk h.mon
def Cv.mono{c:Cx}{w:World}{c':Cx}{w':World}(h:Ext c w c' w'){a:List AV}{v:List Value}(k:Cv c w a v):Cv c' w' a v:=k.Dk h.mon
def A1.mono{c:Cx}{w:World}{c':Cx}{w':World}(h:Ext c w c' w'){g o:Nat}{a:List AV}(k:A1 c w g o a):A1 c' w' g o a:=k.Dk h.mon
def cO.mono{c:Cx}{w:World}{c':Cx}{w':World}(h:Ext c w c' w'){own:Own}{g o n cap len:Nat}(k:cO c own g o n cap len):cO c' own g o n cap len:=k.Dk h.mon
section lists
variable {c:Cx} {w:World}
def Cv.len{as:List AV}{vs:List Value}(h:Cv c w as vs):vs.length=as.length:=by
 induction as generalizing vs with
 | nil=>cases h;rfl
 | cons a as ih=>cases h with | cons _ t=>simp[ih t]
def Cv.get{as:List AV}{vs:List Value}(h:Cv c w as vs){i:Nat}{a:AV}(e:as[i]?=some a):∃v,vs[i]?=some v/\Rp c w a v:=by
 induction as generalizing vs i with
 | nil=>simp at e
 | cons b as ih =>
   cases h with
   | cons h1 t =>
     cases i with
     | zero=>simp at e;subst e;exact⟨_,rfl,h1⟩
     | succ i=>simp at e ⊢;exact ih t e
def Cv.aRQ{as:List AV}{vs:List Value}(hl:vs.length=as.length)(h:∀(i:Nat) a v,as[i]?=some a->vs[i]?=some v->Rp c w a v):Cv c w as vs:=by
 induction as generalizing vs with
 | nil=>cases vs with | nil=>exact .nil | cons=>simp at hl
 | cons a as ih =>
   cases vs with
   | nil=>simp at hl
   | cons v vs=>exact .cons (h 0 a v rfl rfl) (ih (by simpa using hl) (λi a v e1 e2=>h (i+1) a v (by simpa using e1) (by simpa using e2)))
def Cv.append{as bs:List AV}{us vs:List Value}(h:Cv c w as us)(k:Cv c w bs vs):Cv c w (as++bs) (us++vs):=by
 induction as generalizing us with
 | nil=>cases h;exact k
 | cons a as ih=>cases h with | cons h1 t=>exact .cons h1 (ih t)
def Cv.set{as:List AV}{vs:List Value}(h:Cv c w as vs){a:AV}{v:Value}(k:Rp c w a v)(i:Nat):Cv c w (as.set i a) (vs.set i v):=by
 induction as generalizing vs i with
 | nil=>cases h;exact .nil
 | cons b as ih =>
   cases h with
   | cons h1 t =>
     cases i with
     | zero=>exact .cons k t
     | succ i=>exact .cons h1 (ih t i)
def Cv.drop{as:List AV}{vs:List Value}(h:Cv c w as vs)(i:Nat):Cv c w (as.drop i) (vs.drop i):=by
 induction as generalizing vs i with
 | nil=>cases h;simpa using Cv.nil
 | cons b as ih =>
   cases h with
   | cons h1 t =>
     cases i with
     | zero=>exact .cons h1 t
     | succ i=>exact ih t i
def Cv.take{as:List AV}{vs:List Value}(h:Cv c w as vs)(i:Nat):Cv c w (as.take i) (vs.take i):=by
 induction as generalizing vs i with
 | nil=>cases h;simpa using Cv.nil
 | cons b as ih =>
   cases h with
   | cons h1 t =>
     cases i with
     | zero=>exact .nil
     | succ i=>exact .cons h1 (ih t i)
def Cv.replicate{a:AV}{v:Value}(h:Rp c w a v)(n:Nat):Cv c w (bkT n a) (bkT n v):=by
 induction n with
 | zero=>exact .nil
 | succ n ih=>exact .cons h ih
def A1.get{as:List AV}{g o:Nat}(h:A1 c w g o as){i:Nat}{a:AV}(e:as[i]?=some a):∃v,MD c w g (o+i) v/\Rp c w a v:=by
 induction as generalizing o i with
 | nil=>simp at e
 | cons b as ih =>
   cases h with
   | cons hv h1 t =>
     cases i with
     | zero=>simp at e;subst e;exact⟨_,hv,h1⟩
     | succ i =>
       simp at e;have:=ih t e;rwa[show o+1+i=o+(i+1) from by omega] at this
def A1.drop{as:List AV}{g o:Nat}(h:A1 c w g o as)(i:Nat):A1 c w g (o+i) (as.drop i):=by
 induction as generalizing o i with
 | nil=>simpa using A1.nil
 | cons b as ih =>
   cases i with
   | zero=>exact h
   | succ i =>
     cases h with
     | cons hv h1 t =>
       have:=ih t i;rw[show o+1+i=o+(i+1) from by omega] at this;exact this
def A1.take{as:List AV}{g o:Nat}(h:A1 c w g o as)(i:Nat):A1 c w g o (as.take i):=by
 induction as generalizing o i with
 | nil=>simpa using A1.nil
 | cons b as ih =>
   cases i with
   | zero=>exact .nil
   | succ i=>cases h with | cons hv h1 t=>exact .cons hv h1 (ih t i)
def A1.vals{as:List AV}{g o:Nat}(h:A1 c w g o as):∃vs,Cv c w as vs/\∀(i:Nat) v,vs[i]?=some v->MD c w g (o+i) v:=by
 induction as generalizing o with
 | nil=>exact⟨[],.nil,λi v e=>by simp at e⟩
 | cons b as ih =>
   cases h with
   | cons hv h1 t =>
     obtain⟨vs,hr,IL⟩:=ih t;refine⟨_::vs,.cons h1 hr,λi v e=>?_⟩;cases i with
     | zero=>simp at e;subst e;exact hv
     | succ i =>
       have:=IL i v (by simpa using e)
       rwa[show o+1+i=o+(i+1) from by omega] at this
def A1.Qw{as:List AV}{vs:List Value}{g o:Nat}(h:Cv c w as vs)(hv:∀(i:Nat) v,vs[i]?=some v->MD c w g (o+i) v):A1 c w g o as:=by
 induction as generalizing vs o with
 | nil=>exact .nil
 | cons b as ih =>
   cases h with
   | cons h1 t =>
     refine .cons (hv 0 _ rfl) h1 (ih t (λi v e=>?_));have:=hv (i+1) v (by simpa using e)
     rwa[show o+(i+1)=o+1+i from by omega] at this
end lists
end AI
namespace AI
open Go Go.RowKit
inductive Ao where
 | cells (cs:List AV)
 | map (es:List (Value×AV×Nat)) (clock:Nat)
structure AS where
 h:List (Nat×Ao)
 nx:Nat
 F:List (Nat×Nat)
 nr:Nat
def look(id:Nat):List (Nat×Ao)->Option Ao
 | []=>none
 | e::l=>match bjO e.1 id with
   | true=>some e.2
   | false=>look id l
def Ta(id:Nat)(b:Ao):List (Nat×Ao)->List (Nat×Ao)
 | []=>[]
 | e::l=>match bjO e.1 id with
   | true=>(id,b)::l
   | false=>e::Ta id b l
def Qp(n:Nat):List (Nat×Ao)->List (Nat×Ao)
 | []=>[]
 | e::l=>match Nat.ble n e.1 with
   | true=>Qp n l
   | false=>e::l
def AS.get(s:AS)(id:Nat):Option Ao:=look id s.h
def AS.new(s:AS)(b:Ao):AS:=⟨(s.nx,b)::s.h,s.nx+1,s.F,s.nr⟩
def AS.put(s:AS)(id:Nat)(b:Ao):AS:=⟨Ta id b s.h,s.nx,s.F,s.nr⟩
def AS.cut(s:AS)(n:Nat):AS:=⟨Qp n s.h,s.nx,s.F,s.nr⟩
def Kx:List (Nat×Ao)->Nat->Prop
 | [],_=>True
 | e::l,n=>e.1 < n/\Kx l e.1
def beq_true{a b:Nat}(h:bjO a b=true):a=b:=Nat.eq_of_beq_eq_true h
def beq_false{a b:Nat}(h:bjO a b=false):a≠b:=Nat.ne_of_beq_eq_false h
def bQ{l:List (Nat×Ao)}{n id:Nat}{b:Ao}(hd:Kx l n)(h:look id l=some b):id < n:=by
 induction l generalizing n with
 | nil=>cases h
 | cons e l ih =>
   simp only[look] at h;split at h;rename_i hb;rw[<- beq_true hb];exact hd.1;have:=ih hd.2 h;have:=hd.1;omega
def Kx.mono{l:List (Nat×Ao)}{n m:Nat}(h:Kx l n)(hm:n<=m):Kx l m:=by
 cases l with
 | nil=>trivial
 | cons e l=>exact⟨bcC h.1 hm,h.2⟩
def aaU{l:List (Nat×Ao)}{n k:Nat}(h:Kx l n):Kx (Qp k l) n:=by
 induction l generalizing n with
 | nil=>trivial
 | cons e l ih =>
   simp only[Qp];split;exact ih (h.2.mono (Nat.le_of_lt h.1));exact h
def VZ{l:List (Nat×Ao)}{n k id:Nat}{b:Ao}(hd:Kx l n)(h:look id (Qp k l)=some b):look id l=some b:=by
 induction l generalizing n with
 | nil=>exact h
 | cons e l ih =>
   simp only[Qp] at h;split at h;have h1:=ih hd.2 h;have h2:=bQ hd.2 h1;simp only[look];split;rename_i hb;have:=beq_true hb;omega;exact h1;exact h
def jB{l:List (Nat×Ao)}{n id:Nat}{b:Ao}(h:Kx l n):Kx (Ta id b l) n:=by
 induction l generalizing n with
 | nil=>trivial
 | cons e l ih =>
   simp only[Ta];split;rename_i hb;have:=beq_true hb;subst this;exact h;exact⟨h.1,ih h.2⟩
def jC{l:List (Nat×Ao)}{id S4:Nat}{b b':Ao}(h:look S4 (Ta id b l)=some b'):(S4=id/\b'=b)\/(S4≠id/\look S4 l=some b'):=by
 induction l with
 | nil=>cases h
 | cons e l ih =>
   simp only[Ta] at h;split at h;rename_i hb;have Xt:=beq_true hb;simp only[look] at h ⊢;split at h;rename_i h1;cases h;exact .inl ⟨(beq_true h1).symm,rfl⟩;rename_i h1;have hne:=beq_false h1;refine .inr ⟨λe=>hne e.symm,?_⟩;split;rename_i h2;exact absurd (Xt.symm.trans (beq_true h2)) hne;exact h;rename_i hb;have Xt:=beq_false hb;simp only[look] at h ⊢;split at h;rename_i h1;cases h;refine .inr ⟨λe'=>Xt ((beq_true h1).trans e'),rfl⟩;rename_i h1;rcases ih h with h2 | ⟨h2,h3⟩
   exact .inl h2;exact .inr ⟨h2,h3⟩
def DY(r:Nat):List (Nat×Nat)->Option Nat
 | []=>none
 | x::l=>match bjO x.1 r with
   | true=>some x.2
   | false=>DY r l
def alS(r n:Nat):List (Nat×Nat)->List (Nat×Nat)
 | []=>[]
 | x::l=>match bjO x.1 r with
   | true=>(r,n)::l
   | false=>x::alS r n l
def nV{r n r' k:Nat}{l:List (Nat×Nat)}(h:DY r' (alS r n l)=some k):(r'=r/\k=n/\(DY r l).isSome=true)\/(r'≠r/\DY r' l=some k):=by
 induction l with
 | nil=>cases h
 | cons x l ih =>
   simp only[alS] at h;split at h;rename_i hb;have hx:=beq_true hb;simp only[DY] at h ⊢;split at h;rename_i h1;cases h;refine .inl ⟨(beq_true h1).symm,rfl,?_⟩;rw[hb];rfl;rename_i h1;have hne:=beq_false h1;refine .inr ⟨λe=>hne e.symm,?_⟩;split;rename_i h2;exact absurd (hx.symm.trans (beq_true h2)) hne;exact h;rename_i hb;have hx:=beq_false hb;simp only[DY] at h ⊢;split at h;rename_i h1;cases h;exact .inr ⟨λe=>hx ((beq_true h1).trans e),rfl⟩;rename_i h1;rcases ih h with ⟨h2,h3,h4⟩ | ⟨h2,h3⟩
   refine .inl ⟨h2,h3,?_⟩;rw[hb];exact h4;exact .inr ⟨h2,h3⟩
inductive K8(c:Cx)(w:World):List (Value×AV×Nat)->List MapEntry->Prop where
 | nil:K8 c w [] []
 | cons {k:Value} {a:AV} {v:Value} {b:Nat} {es:List (Value×AV×Nat)} {fs:List MapEntry} (h:Rp c w a v) (t:K8 c w es fs):K8 c w ((k,a,b)::es) (⟨k,v,b⟩::fs)
inductive EA(c:Cx)(w:World):Ao->Obj->Prop where
 | GA {cs:List AV} {vs:List Value} {T:TypeId} (ext:List Value) (h:Cv c w cs vs):EA c w (.cells cs) (.cells (vs++ext).toArray T (0,0))
 | map {es:List (Value×AV×Nat)} {fs:List MapEntry} {clock:Nat} (h:K8 c w es fs):EA c w (.map es clock) (.map fs.toArray clock)
def EA.cells{c:Cx}{w:World}{cs:List AV}{vs:List Value}{T:TypeId}(h:Cv c w cs vs):EA c w (.cells cs) (.cells vs.toArray T (0,0)):=by
 have:=EA.GA (T:=T) [] h;rwa[List.append_nil] at this
def K8.Dk{c:Cx}{w:World}{c':Cx}{w':World}(h:Mon c w c' w'){es:List (Value×AV×Nat)}{fs:List MapEntry}(k:K8 c w es fs):K8 c' w' es fs:=by
 induction k with
 | nil=>exact .nil
 | cons h1 _ ih=>exact .cons (h1.Dk h) ih
def EA.Dk{c:Cx}{w:World}{c':Cx}{w':World}(h:Mon c w c' w'){b:Ao}{o:Obj}(k:EA c w b o):EA c' w' b o:=by
 cases k with
 | GA ext h1=>exact .GA ext (h1.Dk h)
 | map h1=>exact .map (h1.Dk h)
def K8.mono{c:Cx}{w:World}{c':Cx}{w':World}(h:Ext c w c' w'){es:List (Value×AV×Nat)}{fs:List MapEntry}(k:K8 c w es fs):K8 c' w' es fs:=k.Dk h.mon
def EA.mono{c:Cx}{w:World}{c':Cx}{w':World}(h:Ext c w c' w'){b:Ao}{o:Obj}(k:EA c w b o):EA c' w' b o:=k.Dk h.mon
abbrev AK:=Nat->Option (List AV)
def VQ(G:AK)(c:Cx)(w:World):Prop:=∀g cs,G g=some cs->(some g∉c.CJ/\∀(r:Nat) n cap sz,c.rows[r]?≠some (.R1 g n cap sz))/\∃vs T f,w.heap[g]?=some (.cells vs T f)/\vs.size=cs.length
def VQ.mono{G:AK}{c c':Cx}{w w':World}(e:Ext c w c' w')(h:VQ G c w):VQ G c' w':=by
 intro g cs hg;obtain⟨⟨h1,h2⟩,vs,T,f,h3,h4⟩:=h g cs hg;have hlt:=(aOA.1 h3).1;refine⟨⟨λhm=>?_,λr n cap sz hr=>?_⟩,vs,T,f,?_,h4⟩;rcases e.gI g hm with h | h
 exact h1 h;omega;rcases e.iA r g n cap sz hr with ⟨r0,n0,QS,lO,h⟩ | h
 exact h2 _ _ _ _ h;omega;rw[e.GY g hlt h1 h2];exact h3
def VQ.sub{G:AK}{c c':Cx}{w:World}(h:VQ G c w)(hp:∀g,some g∈c'.CJ->some g∈c.CJ)(hr:∀(r:Nat) g n cap sz,c'.rows[r]?=some (.R1 g n cap sz)->∃(r0 n0 QS lO:Nat),c.rows[r0]?=some (.R1 g n0 QS lO)):VQ G c' w:=by
 intro g cs hg;obtain⟨⟨h1,h2⟩,h3⟩:=h g cs hg;exact⟨⟨λhm=>h1 (hp g hm),λr n cap sz e=>by obtain⟨r0,n0,QS,lO,e0⟩:=hr r g n cap sz e;exact h2 _ _ _ _ e0⟩,h3⟩
def VQ.aRH{G:AK}{c:Cx}{w:World}(h:VQ G c w){b:Nat}{x:Nat->Nat->Prop}:VQ G ⟨b,[],[],x⟩ w:=h.sub (λg hm=>by cases hm) (λr g n cap sz e=>by simp at e)
def VQ.none{c:Cx}{w:World}:VQ (λ_=>none) c w:=λg cs hg=>by cases hg
structure St(G:AK)(c:Cx)(w:World)(s:AS):Prop where
 len:s.nx=c.CJ.length
 desc:Kx s.h s.nx
 nodup:∀(i j g:Nat),c.CJ[i]?=some (some g)->c.CJ[j]?=some (some g)->i=j
 low:∀g,some g∈c.CJ->c.base<=g
 box:∀(id:Nat) g b,c.CJ[id]?=some (some g)->s.get id=some b->∃o,w.heap[g]?=some o/\EA c w b o
 I8:s.nr=c.rows.length
 row:∀(r:Nat) g n cap sz,c.rows[r]?=some (.R1 g n cap sz)->(∀i,¬c.bad g i)/\c.base<=g/\some g∉c.CJ/\n<=cap/\∃vs T,w.heap[g]?=some (.cells vs T (0,0))/\vs.size=cap*sz
 Jl:∀(r n:Nat),DY r s.F=some n->(c.rows[r]?=some .new/\n=0)\/∃g cap sz,c.rows[r]?=some (.R1 g n cap sz)
 Np:∀g,some g∈c.CJ->g < w.heap.size
 ND:∀g i,c.bad g i->g < w.heap.size
 IU:∀(r r':Nat) g n cap sz n' cap' OL,c.rows[r]?=some (.R1 g n cap sz)->c.rows[r']?=some (.R1 g n' cap' OL)->r=r'
 Mr:∀g cs,G g=some cs->A1 c w g 0 cs
 R2:c.base<=w.heap.size
 Ol:VQ G c w
structure Tv(w w':World)(K:Nat->Prop):Prop where
 os:w'.os=w.os
 tape:w'.tape=w.tape
 output:w'.output=w.output
 size:w.heap.size<=w'.heap.size
 block:∀k,k < w.heap.size->¬K k->w'.heap[k]?=w.heap[k]?
def Tv.cell{w w':World}{K:Nat->Prop}(h:Tv w w' K){g i:Nat}(hg:g < w.heap.size)(hk:¬K g):w'.cell? ⟨g,i,none⟩=w.cell? ⟨g,i,none⟩ :=
 World.cell?_of_block (w:=w) (h.block g hg hk)
def Tv.below{w w':World}{K:Nat->Prop}(h:Tv w w' K){B:Nat}(hB:B<=w.heap.size)(hK:∀k,K k->B<=k):Below B w w' :=
 ⟨h.os,h.tape,h.output,h.size,λk hk=>h.block k (by omega) (λe=>by have:=hK k e;omega)⟩
def VQ.chg{G:AK}{c:Cx}{w w':World}(h:VQ G c w)(k:Tv w w' (λ_=>False)):VQ G c w':=by
 intro g cs hg;obtain⟨h1,vs,T,f,h3,h4⟩:=h g cs hg;exact⟨h1,vs,T,f,by rw[k.block g (aOA.1 h3).1 not_false];exact h3,h4⟩
def akV{l:List Nat}(h:l.Nodup){i j g:Nat}(hi:l[i]?=some g)(hj:l[j]?=some g):i=j:=by
 obtain⟨li,ei⟩:=abH.1 hi;obtain⟨lj,ej⟩:=abH.1 hj;have hp:=List.pairwise_iff_getElem.1 h;rcases Nat.lt_trichotomy i j with hlt | he | hlt
 exact absurd (ei.trans ej.symm) (hp i j li lj hlt);exact he;exact absurd (ej.trans ei.symm) (hp j i lj li hlt)
section
variable {G:AK} {c:Cx} {w:World} {s:AS}
def St.NP(h:St G c w s){g:Nat}(hg:some g∈c.CJ):g < w.heap.size:=h.Np g hg
def St.NS(h:St G c w s){r g n cap sz:Nat}(hr:c.rows[r]?=some (.R1 g n cap sz)):g < w.heap.size:=by
 obtain⟨_,_,_,_,vs,T,ho,_⟩:=h.row r g n cap sz hr;exact(aOA.1 ho).1
def St.WB(h:St G c w s){g i:Nat}(hs:c.lN g i):g < w.heap.size:=by
 rcases hs with hs | ⟨r,n,cap,sz,hr,_⟩ | hs
 exact h.NP hs;exact h.NS hr;exact h.ND g i hs
def St.same(h:St G c w s){w':World}(k:Tv w w' (λ_=>False)):Ext c w c w'/\St G c w' s:=by
 have e:Ext c w c w':=⟨blY _,aOC _,λ_ y _ h=>⟨y,h,La.refl y⟩,λg i v hv=>⟨bcC hv.1 k.size,hv.2.1,by rw[k.cell hv.1 id];exact hv.2.2⟩,k.below h.R2 (λ_ h=>h.elim),rfl,rfl,λ_ h=>.inl h,λr _ n cap sz h=>.inl ⟨r,n,cap,sz,h⟩,λq hq _ _=>k.block q hq not_false⟩;refine⟨e,⟨h.len,h.desc,h.nodup,h.low,λid g b h1 h2=>?_,h.I8,λr g n cap sz hr=>?_,h.Jl,λg hg=>bcC (h.Np g hg) k.size,λg i hb=>bcC (h.ND g i hb) k.size,h.IU,λg cs hg=>(h.Mr g cs hg).mono e,bjH h.R2 k.size,h.Ol.mono e⟩⟩;obtain⟨o,ho,hb⟩:=h.box id g b h1 h2;exact⟨o,by rw[k.block g (aOA.1 ho).1 not_false];exact ho,hb.mono e⟩;obtain⟨Lz,h2,h3,h4,vs,T,ho,h5⟩:=h.row r g n cap sz hr;exact⟨Lz,h2,h3,h4,vs,T,by rw[k.block g (aOA.1 ho).1 not_false];exact ho,h5⟩
def O1(w:World)(o:Obj):Tv w { w with heap:=w.heap.push o } (λ_=>False) :=
 ⟨rfl,rfl,rfl,by simp,λk hk _=>by simp[Array.getElem?_push];intro h;omega⟩
def uQ(w:World):Tv w { w with drawn:=w.drawn+1 } (λ_=>False):=⟨rfl,rfl,rfl,aOC _,λ_ _ _=>rfl⟩
def xK(w:World)(o:Obj):({ w with heap:=w.heap.push o }:World).heap[w.heap.size]?=some o:=by simp
def St.aGC(h:St G c w s)(vs:List Value)(T:TypeId){i:Nat}{v:Value}(hv:vs[i]?=some v):MD c { w with heap:=w.heap.push (.cells vs.toArray T) } w.heap.size i v:=by
 refine⟨by simp,λhs=>?_,?_⟩;have:=h.WB hs;omega;simp[World.cell?,hv]
def St.new(h:St G c w s){b:Ao}{o:Obj}(hb:EA c w b o) :
   Ext c w { c with CJ:=c.CJ++[some w.heap.size] } { w with heap:=w.heap.push o }/\St G { c with CJ:=c.CJ++[some w.heap.size] } { w with heap:=w.heap.push o } (s.new b):=by
 have k:=O1 w o
 have e:Ext c w { c with CJ:=c.CJ++[some w.heap.size] } { w with heap:=w.heap.push o }:=by
   refine⟨bnT _ _,aOC _,λ_ y _ h=>⟨y,h,La.refl y⟩,λg i v hv=>⟨bcC hv.1 k.size,λhs=>?_,by rw[k.cell hv.1 id];exact hv.2.2⟩,k.below h.R2 (λ_ h=>h.elim),rfl,rfl,λg hg=>(bjK.1 hg).imp id (λh=>by simp at h;omega),λr _ n cap sz h=>.inl ⟨r,n,cap,sz,h⟩,λq hq _ _=>k.block q hq not_false⟩;rcases hs with hs | hs
   rcases bjK.1 hs with hs | hs
   exact hv.2.1 (.inl hs);have h0:=hv.1;simp at hs;omega;exact hv.2.1 (.inr hs)
 refine⟨e,⟨by simp[AS.new,h.len],⟨bkM _,h.desc⟩,?_,?_,λid g b' h1 h2=>?_,h.I8,λr g n cap sz hr=>?_,h.Jl,λg hg=>?_,λg i hb=>bcC (h.ND g i hb) k.size,h.IU,λg cs hg=>(h.Mr g cs hg).mono e,by simp;exact brD h.R2,h.Ol.mono e⟩⟩;intro i j g h1 h2;by_cases hi:i < c.CJ.length<;>by_cases hj:j < c.CJ.length
 rw[bcF hi] at h1;rw[bcF hj] at h2;exact h.nodup i j g h1 h2;rw[bcF hi] at h1;rw[bjY (by omega)] at h2;have:=h.NP (bcH h1);cases hk:j - c.CJ.length with
 | zero=>rw[hk] at h2;simp at h2;omega
 | succ n=>rw[hk] at h2;simp at h2
 rw[bcF hj] at h2;rw[bjY (by omega)] at h1;have:=h.NP (bcH h2);cases hk:i - c.CJ.length with
 | zero=>rw[hk] at h1;simp at h1;omega
 | succ n=>rw[hk] at h1;simp at h1
 have e1:=(abH.1 h1).1;have e2:=(abH.1 h2).1;simp at e1 e2;omega;intro g hg;rcases bjK.1 hg with hg | hg
 exact h.low g hg;simp at hg;subst hg;exact h.R2;simp only[AS.get,AS.new,look] at h2;split at h2;rename_i Xt;cases h2;have bcX:id=c.CJ.length:=by rw[<- h.len];exact(beq_true Xt).symm
 subst bcX;rw[bkJ] at h1;cases h1;exact⟨o,xK w o,hb.mono e⟩;have hlt:=bQ h.desc h2;rw[bcF (by rw[<- h.len];exact hlt)] at h1;obtain⟨o',ho,Xt⟩:=h.box id g b' h1 h2;exact⟨o',by rw[k.block g (aOA.1 ho).1 not_false];exact ho,Xt.mono e⟩;obtain⟨Lz,h2,h3,h4,vs,T,ho,h5⟩:=h.row r g n cap sz hr;refine⟨Lz,h2,?_,h4,vs,T,by rw[k.block g (aOA.1 ho).1 not_false];exact ho,h5⟩;intro hm;rcases bjK.1 hm with hm | hm
 exact h3 hm;have:=(aOA.1 ho).1;simp at hm;omega;rcases bjK.1 hg with hg | hg
 have:=h.Np g hg;simp;omega;simp at hg;subst hg;simp
def St.put(h:St G c w s){id g:Nat}{b:Ao}{o:Obj}{w':World}(hid:c.CJ[id]?=some (some g))(k:Tv w w' (λx=>x=g))(hw:w'.heap[g]?=some o)(hb:EA c w b o) :
   Ext c w c w'/\St G c w' (s.put id b):=by
 have hgm:some g∈c.CJ:=bcH hid
 have e:Ext c w c w':=by
   refine⟨blY _,aOC _,λ_ y _ h=>⟨y,h,La.refl y⟩,λg' i v hv=>⟨bcC hv.1 k.size,hv.2.1,?_⟩,k.below h.R2 (λx hx=>by rw[hx];exact h.low g hgm),rfl,rfl,λ_ h=>.inl h,λr _ n cap sz h=>.inl ⟨r,n,cap,sz,h⟩,λq hq hp _=>k.block q hq (λe=>hp (by rw[e];exact hgm))⟩;rw[k.cell hv.1 (λe=>hv.2.1 (.inl (by rw[e];exact hgm)))];exact hv.2.2
 refine⟨e,⟨h.len,jB h.desc,h.nodup,h.low,λS4 g' b' h1 h2=>?_,h.I8,λr g' n cap sz hr=>?_,h.Jl,λg hg=>bcC (h.Np g hg) k.size,λg i hb=>bcC (h.ND g i hb) k.size,h.IU,λg' cs hg=>(h.Mr g' cs hg).mono e,bjH h.R2 k.size,h.Ol.mono e⟩⟩;rcases jC h2 with ⟨rfl,rfl⟩ | ⟨hii,h3⟩
 rw[hid] at h1;cases h1;exact⟨o,hw,hb.mono e⟩;obtain⟨o',ho,Xt⟩:=h.box S4 g' b' h1 h3
 have hne:¬g'=g:=λhg=>by
   subst hg;exact hii (h.nodup _ _ _ h1 hid)
 exact⟨o',by rw[k.block g' (aOA.1 ho).1 hne];exact ho,Xt.mono e⟩;obtain⟨Lz,h2,h3,h4,vs,T,ho,h5⟩:=h.row r g' n cap sz hr;exact⟨Lz,h2,h3,h4,vs,T,by rw[k.block g' (aOA.1 ho).1 (λe=>h3 (by rw[e];exact hgm))];exact ho,h5⟩
def AS.tok(s:AS):AS:=⟨s.h,s.nx,(s.nr,0)::s.F,s.nr+1⟩
def yB{c:Cx}{r:Nat}{x:Rw}(h:(c.rows++[Rw.new])[r]?=some x):(r < c.rows.length/\c.rows[r]?=some x)\/(r=c.rows.length/\x=.new):=by
 by_cases hr:r < c.rows.length;rw[bcF hr] at h;exact .inl ⟨hr,h⟩;have hl:=(abH.1 h).1;simp at hl;have:r=c.rows.length:=by omega
 subst this;rw[bkJ] at h;exact .inr ⟨rfl,(bjE h).symm⟩
def St.tok(h:St G c w s):Ext c w { c with rows:=c.rows++[.new] } w/\St G { c with rows:=c.rows++[.new] } w s.tok:=by
 have hb:∀(r g n cap sz:Nat),(c.rows++[Rw.new])[r]?=some (.R1 g n cap sz)->c.rows[r]?=some (.R1 g n cap sz):=λr g n cap sz hr=>by
   rcases yB hr with h1 | h1
   exact h1.2;cases h1.2
 have e:Ext c w { c with rows:=c.rows++[.new] } w:=by
   refine⟨blY _,by simp,λr y hr hy=>?_,λg i v hv=>⟨hv.1,λhs=>?_,hv.2.2⟩,Below.refl _ _,rfl,rfl,λ_ h=>.inl h,λr g n cap sz hr=>.inl ⟨r,n,cap,sz,hb _ _ _ _ _ hr⟩,λ_ _ _ _=>rfl⟩;rcases yB hy with h1 | h1
   exact⟨y,h1.2,La.refl y⟩;omega;rcases hs with hs | ⟨r,n,cap,sz,hr,h1,h2⟩ | hs
   exact hv.2.1 (.inl hs);exact hv.2.1 (.inr (.inl ⟨r,n,cap,sz,hb _ _ _ _ _ hr,h1,h2⟩));exact hv.2.1 (.inr (.inr hs))
 refine⟨e,⟨h.len,h.desc,h.nodup,h.low,λid g b h1 h2=>?_,by simp[AS.tok,h.I8],λr g n cap sz hr=>h.row r g n cap sz (hb _ _ _ _ _ hr),λr n hr=>?_,h.Np,h.ND,λr r' g n cap sz n' cap' OL h1 h2=>h.IU r r' g _ _ _ _ _ _ (hb _ _ _ _ _ h1) (hb _ _ _ _ _ h2),λg cs hg=>(h.Mr g cs hg).mono e,h.R2,h.Ol.mono e⟩⟩;obtain⟨o,ho,hbo⟩:=h.box id g b h1 h2;exact⟨o,ho,hbo.mono e⟩;simp only[AS.tok,DY] at hr;split at hr;rename_i h1;have:=beq_true h1;rw[h.I8] at this;subst this;cases hr;exact .inl ⟨bkJ,rfl⟩;have h2:=h.Jl r n hr
 have hlt:r < c.rows.length:=by
   rcases h2 with h2 | ⟨g,cap,sz,h2⟩
   exact(abH.1 h2.1).1;exact(abH.1 h2).1
 simp only;rw[bcF hlt];exact h2
def St.cut(h:St G c w s)(n:Nat):St G c w (s.cut n) :=
 ⟨h.len,aaU h.desc,h.nodup,h.low,λid g b h1 h2=>h.box id g b h1 (VZ h.desc h2),h.I8,h.row,h.Jl,h.Np,h.ND,h.IU,h.Mr,h.R2,h.Ol⟩
end
def AS.hold(s:AS):List Ao->AS
 | []=>s
 | b::l=>(s.new b).hold l
section
variable {G:AK} {c:Cx} {w:World} {s:AS}
def T5{l:List (Option Nat)}{g:Nat}:some g∈l++[none]↔some g∈l:=by simp
def St.hole(h:St G c w s)(b:Ao):∃c',Ext c w c' w/\St G c' w (s.new b)/\c'.CJ=c.CJ++[none]:=by
 refine⟨{ c with CJ:=c.CJ++[none] },?_⟩
 have e:Ext c w { c with CJ:=c.CJ++[none] } w:=by
   refine⟨bnT _ _,aOC _,λ_ y _ h=>⟨y,h,La.refl y⟩,λg i v hv=>⟨hv.1,λhs=>?_,hv.2.2⟩,Below.refl _ _,rfl,rfl,λg hg=>.inl (T5.1 hg),λr _ n cap sz h=>.inl ⟨r,n,cap,sz,h⟩,λ_ _ _ _=>rfl⟩;rcases hs with hs | hs
   exact hv.2.1 (.inl (T5.1 hs));exact hv.2.1 (.inr hs)
 have get:∀(i g:Nat),(c.CJ++[none])[i]?=some (some g)->c.CJ[i]?=some (some g):=by
   intro i g hi;by_cases hl:i < c.CJ.length;rwa[bcF hl] at hi;rw[bjY (by omega)] at hi;cases hk:i - c.CJ.length with
   | zero=>rw[hk] at hi;simp at hi
   | succ n=>rw[hk] at hi;simp at hi
 refine⟨e,⟨by simp[AS.new,h.len],⟨bkM _,h.desc⟩,λi j g h1 h2=>h.nodup i j g (get i g h1) (get j g h2),λg hg=>h.low g (T5.1 hg),λid g b' h1 h2=>?_,h.I8,λr g n cap sz hr=>?_,h.Jl,λg hg=>h.Np g (T5.1 hg),h.ND,h.IU,λg cs hg=>(h.Mr g cs hg).mono e,h.R2,h.Ol.mono e⟩,rfl⟩;have h1:=get id g h1;simp only[AS.get,AS.new,look] at h2;split at h2;rename_i Xt;exfalso;have:=(abH.1 h1).1;have h3:=beq_true Xt;have h4:=h.len;omega;obtain⟨o',ho,Xt⟩:=h.box id g b' h1 h2;exact⟨o',ho,Xt.mono e⟩;obtain⟨Lz,h2,h3,h4⟩:=h.row r g n cap sz hr;exact⟨Lz,h2,λhm=>h3 (T5.1 hm),h4⟩
def St.holds(h:St G c w s)(l:List Ao):∃c',Ext c w c' w/\St G c' w (s.hold l)/\c'.CJ=c.CJ++bkT l.length none:=by
 induction l generalizing c s with
 | nil=>exact⟨c,Ext.refl _ _,h,by simp⟩
 | cons b l ih =>
   obtain⟨c1,e1,st1,p1⟩:=h.hole b;obtain⟨c2,e2,Yk,p2⟩:=ih st1;exact⟨c2,e1.trans e2,Yk,by rw[p2,p1,List.append_assoc];rfl⟩
def mem_set{l:List (Option Nat)}{id g x:Nat}(h:some g∈l.set id (some x)):some g∈l\/g=x:=by
 rcases List.mem_or_eq_of_mem_set h with h | h
 exact .inl h;exact .inr (by simpa using h)
def qE{l:List (Option Nat)}{id x i g:Nat}(h:(l.set id (some x))[i]?=some (some g)):l[i]?=some (some g)\/(i=id/\g=x):=by
 by_cases e:id=i;subst e;rw[List.getElem?_set_self' ] at h;cases hl:l[id]? with
 | none=>rw[hl] at h;cases h
 | some y=>rw[hl] at h;simp at h;exact .inr ⟨rfl,h.symm⟩
 rw[bkF e] at h;exact .inl h
def St.fill(h:St G c w s){id:Nat}{b:Ao}{o:Obj}(hid:c.CJ[id]?=some none)(QW:s.get id=some b)(hb:EA c w b o) :
   Mon c w { c with CJ:=c.CJ.set id (some w.heap.size) } { w with heap:=w.heap.push o }/\St G { c with CJ:=c.CJ.set id (some w.heap.size) } { w with heap:=w.heap.push o } s /\
   ∀c0 w0,Ext c0 w0 c w->c0.CJ.length<=id->Ext c0 w0 { c with CJ:=c.CJ.set id (some w.heap.size) } { w with heap:=w.heap.push o }:=by
 have k:=O1 w o;have hlt:id < c.CJ.length:=(abH.1 hid).1
 have biF:(c.CJ.set id (some w.heap.size))[id]?=some (some w.heap.size):=by
   rw[List.getElem?_set_self hlt]
 have hold:∀(i g:Nat),c.CJ[i]?=some (some g)->(c.CJ.set id (some w.heap.size))[i]?=some (some g):=by
   intro i g hi;have:id≠i:=λe=>by subst e;rw[hid] at hi;cases hi
   rw[bkF this];exact hi
 have lN:∀g i,({ c with CJ:=c.CJ.set id (some w.heap.size) }:Cx).lN g i->c.lN g i\/g=w.heap.size:=by
   intro g i hs;rcases hs with hs | hs
   rcases mem_set hs with hs | hs
   exact .inl (.inl hs);exact .inr hs;exact .inl (.inr hs)
 have IL:∀g i v,MD c w g i v->MD { c with CJ:=c.CJ.set id (some w.heap.size) } { w with heap:=w.heap.push o } g i v:=by
   intro g i v hv;refine⟨bcC hv.1 k.size,λhs=>?_,by rw[k.cell hv.1 not_false];exact hv.2.2⟩;rcases lN g i hs with hs | hs
   exact hv.2.1 hs;have:=hv.1;omega
 have m:Mon c w { c with CJ:=c.CJ.set id (some w.heap.size) } { w with heap:=w.heap.push o }:=⟨hold,aOC _,λ_ y _ h=>⟨y,h,La.refl y⟩,IL⟩
 refine⟨m,⟨by simp[h.len],h.desc,?_,?_,λi g b' h1 h2=>?_,h.I8,λr g n cap sz hr=>?_,h.Jl,λg hg=>?_,λg i hb=>bcC (h.ND g i hb) k.size,h.IU,λg cs hg=>(h.Mr g cs hg).Dk m,by simp;exact brD h.R2,λg cs hg=>by
   obtain⟨⟨h1,h2⟩,vs,T,f,h3,h4⟩:=h.Ol g cs hg;have hlt:=(aOA.1 h3).1;refine⟨⟨λhm=>?_,h2⟩,vs,T,f,?_,h4⟩;rcases mem_set hm with hm | hm
   exact h1 hm;omega;rw[k.block g hlt not_false];exact h3⟩,?_⟩
 intro i j g h1 h2;rcases qE h1 with h1 | ⟨e1,g1⟩<;>rcases qE h2 with h2 | ⟨e2,g2⟩
 exact h.nodup i j g h1 h2;have:=h.NP (bcH h1);omega;have:=h.NP (bcH h2);omega;omega;intro g hg;rcases mem_set hg with hg | hg
 exact h.low g hg;subst hg;exact h.R2;rcases qE h1 with h1 | ⟨e1,g1⟩
 obtain⟨o',ho,Xt⟩:=h.box i g b' h1 h2;exact⟨o',by rw[k.block g (aOA.1 ho).1 not_false];exact ho,Xt.Dk m⟩;subst e1 g1;rw[QW] at h2;cases h2;exact⟨o,xK w o,hb.Dk m⟩;obtain⟨Lz,h2,h3,h4,vs,T,ho,h5⟩:=h.row r g n cap sz hr;refine⟨Lz,h2,λhm=>?_,h4,vs,T,by rw[k.block g (aOA.1 ho).1 not_false];exact ho,h5⟩;rcases mem_set hm with hm | hm
 exact h3 hm;have:=(aOA.1 ho).1;omega;rcases mem_set hg with hg | hg
 have:=h.Np g hg;simp;omega;subst hg;simp;intro c0 w0 x hle;refine⟨?_,x.I8,x.rows,λg i v hv=>IL g i v (x.lR g i v hv),x.below.trans (k.below (by rw[<- x.base];exact h.R2) (λ_ h=>h.elim)),x.base,x.bad,λg hg=>?_,x.iA,λq hq hp hr=>?_⟩;obtain⟨t,ht⟩:=x.CJ;refine⟨t.set (id - c0.CJ.length) (some w.heap.size),?_⟩;show _=c.CJ.set id (some w.heap.size);rw[<- ht,List.set_append_right _ _ hle];rcases mem_set hg with hg | hg
 exact x.gI g hg;subst hg;exact .inr x.below.size;have hq2:q < w.heap.size:=bcC hq x.below.size;rw[k.block q hq2 not_false];exact x.GY q hq hp hr
end
end AI
