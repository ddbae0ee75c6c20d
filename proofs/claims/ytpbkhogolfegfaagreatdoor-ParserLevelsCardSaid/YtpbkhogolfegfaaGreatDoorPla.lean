/- Part of a proof: see the last text. -/
import Derived.Calls
import Derived.Orders
import Derived.Below
set_option linter.unusedVariables false
set_option linter.unusedSimpArgs false
set_option linter.defProp false
noncomputable section
namespace AI
open Go Go.RowKit
inductive Own where
 | full
 | row (r sz:Nat)
 | lost
 | nil
 | nn
 deriving DecidableEq,Inhabited
inductive AV where
 | sc (v:Value)
 | agg (cs:List AV)
 | Dd (vs:List AV)
 | sl (own:Own) (n:Nat) (cs:List AV)
 | msl (id off n:Nat)
 | el (cs:List AV)
 | ptr (id off:Nat)
 | fn (f:Fn) (first caps:List AV)
 | ifc (t:TypeId) (v:AV)
 | mp (id:Nat)
 | any
 | raw (A:Option Addr) (n cap:Nat)
 deriving Inhabited
def scalar:Value->Bool
 | .bool _ | .int _ _ | .string _ | .nilIface | .nilFunc | .pointer none | .map none=>true
 | .tuple vs=>vs.size == 0
 | _=>false
def WQ:Value->Bool
 | .bool _=>false
 | _=>true
inductive Rw where
 | gone
 | new
 | QW (g n cap sz:Nat)
def Kq(x:Rw):Rw->Prop
 | .gone=>True
 | .new=>x=.new
 | .QW g n cap sz=>x=.QW g n cap sz\/x=.new\/∃g0 n0 Pf lF,x=.QW g0 n0 Pf lF/\n0 < n
def Kq.refl(x:Rw):Kq x x:=by cases x<;>simp[Kq]
def Kq.trans{x y z:Rw}(h:Kq x y)(k:Kq y z):Kq x z:=by
 cases z with
 | gone=>trivial
 | new=>simp only[Kq] at k;subst k;exact h
 | QW g n cap sz =>
   simp only[Kq] at k;rcases k with rfl | rfl | ⟨g0,n0,Pf,lF,rfl,hlt⟩
   exact h;simp only[Kq] at h;exact .inr (.inl h);simp only[Kq] at h;rcases h with rfl | rfl | ⟨g1,n1,aJH,sz1,rfl,aOI⟩
   exact .inr (.inr ⟨_,_,_,_,rfl,hlt⟩);exact .inr (.inl rfl);exact .inr (.inr ⟨_,_,_,_,rfl,by omega⟩)
structure Cx where
 base:Nat
 CT:List (Option Nat)
 rows:List Rw
 bad:Nat->Nat->Prop
def Cx.ZF(c:Cx)(g i:Nat):Prop:=some g∈c.CT\/(∃r n cap sz:Nat,c.rows[r]?=some (.QW g n cap sz)/\n*sz<=i/\i < cap*sz)\/c.bad g i
def LG(c:Cx)(w:World)(g i:Nat)(v:Value):Prop:=g < w.heap.size/\¬c.ZF g i/\w.cell? ⟨g,i,none⟩=some v
def Xr(c:Cx)(own:Own)(g o n cap len:Nat):Prop:=match own with
 | .full=>cap=n
 | .row r sz=>o=0/\len=n*sz/\r < c.rows.length/\c.rows[r]?≠some .new/\∀g' n' cap' M4,c.rows[r]?=some (.QW g' n' cap' M4)->n<=n'/\(n'=n->g'=g/\cap'=cap/\M4=sz)
 | .lost=>True
 | .nil=>False
 | .nn=>True
def mW(c:Cx)(own:Own)(A:Option Addr)(cap:Nat):Prop:=match own with
 | .full=>cap=0
 | .row r _=>cap=0/\r < c.rows.length
 | .lost=>True
 | .nil=>A.isNone=true
 | .nn=>A.isNone=false
mutual
inductive Rp(c:Cx)(w:World):AV->Value->Prop where
 | sc {v:Value} (h:scalar v=true):Rp c w (.sc v) v
 | agg {cs:List AV} {vs:List Value} (h:CH c w cs vs):Rp c w (.agg cs) (.agg vs.toArray)
 | Dd {cs:List AV} {vs:List Value} (h:CH c w cs vs):Rp c w (.Dd cs) (.tuple vs.toArray)
 | sl0 {own:Own} {A:Option Addr} {cap:Nat} (h:mW c own A cap):Rp c w (.sl own 0 []) (.slice A 0 cap)
 | KM {own:Own} {n cap g o:Nat} {cs:List AV} (hn:n<=cap) (h:Bc c w g o cs) (ho:Xr c own g o n cap cs.length):Rp c w (.sl own n cs) (.slice (some ⟨g,o,none⟩) n cap)
 | msl {id off n g cap:Nat} (hn:n<=cap) (h:c.CT[id]?=some (some g)):Rp c w (.msl id off n) (.slice (some ⟨g,off,none⟩) n cap)
 | el {cs:List AV} {g o:Nat} (h:Bc c w g o cs):Rp c w (.el cs) (.pointer (some ⟨g,o,none⟩))
 | ptr {id off g:Nat} (h:c.CT[id]?=some (some g)):Rp c w (.ptr id off) (.pointer (some ⟨g,off,none⟩))
 | fn {f:Fn} {first caps:List AV} {us vs:List Value} (h1:CH c w first us) (h2:CH c w caps vs):Rp c w (.fn f first caps) (.func f us.toArray vs.toArray)
 | ifc {t:TypeId} {a:AV} {v:Value} (h:Rp c w a v):Rp c w (.ifc t a) (.iface t v)
 | mp {id g:Nat} (h:c.CT[id]?=some (some g)):Rp c w (.mp id) (.map (some g))
 | any {v:Value} (h:WQ v=true):Rp c w .any v
 | raw {A:Option Addr} {n cap:Nat}:Rp c w (.raw A n cap) (.slice A n cap)
inductive CH(c:Cx)(w:World):List AV->List Value->Prop where
 | nil:CH c w [] []
 | cons {a:AV} {v:Value} {as:List AV} {vs:List Value} (h:Rp c w a v) (t:CH c w as vs):CH c w (a::as) (v::vs)
inductive Bc(c:Cx)(w:World):Nat->Nat->List AV->Prop where
 | nil {g o:Nat}:Bc c w g o []
 | cons {g o:Nat} {a:AV} {v:Value} {as:List AV} (hv:LG c w g o v) (h:Rp c w a v) (t:Bc c w g (o+1) as):Bc c w g o (a::as)
end
structure Ext(c:Cx)(w:World)(c':Cx)(w':World):Prop where
 CT:c.CT <+: c'.CT
 IN:c.rows.length<=c'.rows.length
 rows:∀(r:Nat) y,r < c.rows.length->c'.rows[r]?=some y->∃x,c.rows[r]?=some x/\Kq x y
 ZI:∀g i v,LG c w g i v->LG c' w' g i v
 below:Below c.base w w'
 base:c'.base=c.base
 bad:c'.bad=c.bad
 ZA:∀g,some g∈c'.CT->some g∈c.CT\/w.heap.size<=g
 ZB:∀(r:Nat) g n cap sz,c'.rows[r]?=some (.QW g n cap sz)->(∃(r0 n0 Pf lF:Nat),c.rows[r0]?=some (.QW g n0 Pf lF))\/w.heap.size<=g
 G3:∀k,k < w.heap.size->some k∉c.CT->(∀(r:Nat) n cap sz,c.rows[r]?≠some (.QW k n cap sz))->w'.heap[k]?=w.heap[k]?
def Ext.refl(c:Cx)(w:World):Ext c w c w:=⟨List.prefix_refl _,Nat.le_refl _,λ_ y _ h=>⟨y,h,Kq.refl y⟩,λ_ _ _ h=>h,Below.refl _ _,rfl,rfl,λ_ h=>.inl h,λr _ n cap sz h=>.inl ⟨r,n,cap,sz,h⟩,λ_ _ _ _=>rfl⟩
def Ext.trans{c1 c2 c3:Cx}{w1 w2 w3:World}(h:Ext c1 w1 c2 w2)(k:Ext c2 w2 c3 w3):Ext c1 w1 c3 w3 :=
 ⟨h.CT.trans k.CT,Nat.le_trans h.IN k.IN,λr z hr hz=>by
   obtain⟨y,hy,l2⟩:=k.rows r z (Nat.lt_of_lt_of_le hr h.IN) hz;obtain⟨x,hx,l1⟩:=h.rows r y hr hy;exact⟨x,hx,l1.trans l2⟩,λg i v hv=>k.ZI g i v (h.ZI g i v hv),h.below.trans (by have:=k.below;rw[h.base] at this;exact this),k.base.trans h.base,k.bad.trans h.bad,
  λg hg=>by
   rcases k.ZA g hg with h1 | h1
   exact h.ZA g h1;exact .inr (Nat.le_trans h.below.size h1),
  λr g n cap sz hr=>by
   rcases k.ZB r g n cap sz hr with ⟨r0,n0,Pf,lF,h1⟩ | h1
   exact h.ZB r0 g n0 Pf lF h1;exact .inr (Nat.le_trans h.below.size h1),
  λq hq hp hr=>by
   rw[k.G3 q (Nat.lt_of_lt_of_le hq h.below.size) (λhm=>?_) (λr n cap sz hm=>?_),h.G3 q hq hp hr];rcases h.ZA q hm with h1 | h1
   exact hp h1;omega;rcases h.ZB r q n cap sz hm with ⟨r0,n0,Pf,lF,h1⟩ | h1
   exact hr r0 n0 Pf lF h1;omega⟩
def Ext.get{c:Cx}{w:World}{c':Cx}{w':World}(h:Ext c w c' w'){id g:Nat}(e:c.CT[id]?=some (some g)):c'.CT[id]?=some (some g):=by
 obtain⟨t,ht⟩:=h.CT;rw[<- ht,List.getElem?_append_left (List.getElem?_eq_some_iff.1 e).1];exact e
structure Mon(c:Cx)(w:World)(c':Cx)(w':World):Prop where
 get:∀(id g:Nat),c.CT[id]?=some (some g)->c'.CT[id]?=some (some g)
 IN:c.rows.length<=c'.rows.length
 rows:∀(r:Nat) y,r < c.rows.length->c'.rows[r]?=some y->∃x,c.rows[r]?=some x/\Kq x y
 ZI:∀g i v,LG c w g i v->LG c' w' g i v
def Ext.mon{c:Cx}{w:World}{c':Cx}{w':World}(h:Ext c w c' w'):Mon c w c' w':=⟨λ_ _ e=>h.get e,h.IN,h.rows,h.ZI⟩
def Xr.Dt{c:Cx}{w:World}{c':Cx}{w':World}(h:Mon c w c' w'){own:Own}{g o n cap len:Nat}(k:Xr c own g o n cap len):Xr c' own g o n cap len:=by
 cases own with
 | nil=>exact k
 | nn=>exact k
 | full=>exact k
 | lost=>trivial
 | row r sz =>
   obtain⟨k1,k2,k3,k4,k5⟩:=k;refine⟨k1,k2,Nat.lt_of_lt_of_le k3 h.IN,λe=>?_,λg' n' cap' M4 e=>?_⟩;obtain⟨x,hx,hle⟩:=h.rows r _ k3 e;simp only[Kq] at hle;subst hle;exact k4 hx;obtain⟨x,hx,hle⟩:=h.rows r _ k3 e;simp only[Kq] at hle;rcases hle with rfl | rfl | ⟨g0,n0,Pf,lF,rfl,hlt⟩
   exact k5 _ _ _ _ hx;exact absurd hx k4;have:=(k5 _ _ _ _ hx).1;exact⟨by omega,λe=>by omega⟩
def mW.Dt{c:Cx}{w:World}{c':Cx}{w':World}(h:Mon c w c' w'){own:Own}{A:Option Addr}{cap:Nat}(k:mW c own A cap):mW c' own A cap:=by
 cases own with
 | nil=>exact k
 | nn=>exact k
 | full=>exact k
 | lost=>trivial
 | row r sz=>exact⟨k.1,Nat.lt_of_lt_of_le k.2 h.IN⟩
def mW.re{c:Cx}{own:Own}{A B:Option Addr}{cap:Nat}(h:mW c own A cap)(hb:B.isNone=A.isNone):mW c own B cap:=by
 cases own with
 | nil=>exact hb.trans h
 | nn=>exact hb.trans h
 | full=>exact h
 | lost=>trivial
 | row r sz=>exact h
mutual
def Rp.Dt{c:Cx}{w:World}{c':Cx}{w':World}(h:Mon c w c' w'){a:AV}{v:Value}(k:Rp c w a v):Rp c' w' a v:=by
 cases k with
 | sc h1=>exact .sc h1
 | agg h1=>exact .agg (CH.Dt h h1)
 | Dd h1=>exact .Dd (CH.Dt h h1)
 | sl0 h1=>exact .sl0 (h1.Dt h)
 | KM hn h1 ho=>exact .KM hn (Bc.Dt h h1) (ho.Dt h)
 | msl hn h1=>exact .msl hn (h.get _ _ h1)
 | el h1=>exact .el (Bc.Dt h h1)
 | ptr h1=>exact .ptr (h.get _ _ h1)
 | fn h1 h2=>exact .fn (CH.Dt h h1) (CH.Dt h h2)
 | ifc h1=>exact .ifc (Rp.Dt h h1)
 | mp h1=>exact .mp (h.get _ _ h1)
 | any h1=>exact .any h1
 | raw=>exact .raw
def CH.Dt{c:Cx}{w:World}{c':Cx}{w':World}(h:Mon c w c' w'){a:List AV}{v:List Value}(k:CH c w a v):CH c' w' a v:=by
 cases k with
 | nil=>exact .nil
 | cons h1 t=>exact .cons (Rp.Dt h h1) (CH.Dt h t)
def Bc.Dt{c:Cx}{w:World}{c':Cx}{w':World}(h:Mon c w c' w'){g o:Nat}{a:List AV}(k:Bc c w g o a):Bc c' w' g o a:=by
 cases k with
 | nil=>exact .nil
 | cons hv h1 t=>exact .cons (h.ZI _ _ _ hv) (Rp.Dt h h1) (Bc.Dt h t)
end
def Rp.mono{c:Cx}{w:World}{c':Cx}{w':World}(h:Ext c w c' w'){a:AV}{v:Value}(k:Rp c w a v):Rp c' w' a v:=k.Dt h.mon
def CH.mono{c:Cx}{w:World}{c':Cx}{w':World}(h:Ext c w c' w'){a:List AV}{v:List Value}(k:CH c w a v):CH c' w' a v:=k.Dt h.mon
def Bc.mono{c:Cx}{w:World}{c':Cx}{w':World}(h:Ext c w c' w'){g o:Nat}{a:List AV}(k:Bc c w g o a):Bc c' w' g o a:=k.Dt h.mon
def Xr.mono{c:Cx}{w:World}{c':Cx}{w':World}(h:Ext c w c' w'){own:Own}{g o n cap len:Nat}(k:Xr c own g o n cap len):Xr c' own g o n cap len:=k.Dt h.mon
section lists
variable {c:Cx} {w:World}
def CH.len{as:List AV}{vs:List Value}(h:CH c w as vs):vs.length=as.length:=by
 induction as generalizing vs with
 | nil=>cases h;rfl
 | cons a as ih=>cases h with | cons _ t=>simp[ih t]
def CH.get{as:List AV}{vs:List Value}(h:CH c w as vs){i:Nat}{a:AV}(e:as[i]?=some a):∃v,vs[i]?=some v/\Rp c w a v:=by
 induction as generalizing vs i with
 | nil=>simp at e
 | cons b as ih =>
   cases h with
   | cons h1 t =>
     cases i with
     | zero=>simp at e;subst e;exact⟨_,rfl,h1⟩
     | succ i=>simp at e ⊢;exact ih t e
def CH.azE{as:List AV}{vs:List Value}(hl:vs.length=as.length)(h:∀(i:Nat) a v,as[i]?=some a->vs[i]?=some v->Rp c w a v):CH c w as vs:=by
 induction as generalizing vs with
 | nil=>cases vs with | nil=>exact .nil | cons=>simp at hl
 | cons a as ih =>
   cases vs with
   | nil=>simp at hl
   | cons v vs=>exact .cons (h 0 a v rfl rfl) (ih (by simpa using hl) (λi a v e1 e2=>h (i+1) a v (by simpa using e1) (by simpa using e2)))
def CH.append{as bs:List AV}{us vs:List Value}(h:CH c w as us)(k:CH c w bs vs):CH c w (as++bs) (us++vs):=by
 induction as generalizing us with
 | nil=>cases h;exact k
 | cons a as ih=>cases h with | cons h1 t=>exact .cons h1 (ih t)
def CH.set{as:List AV}{vs:List Value}(h:CH c w as vs){a:AV}{v:Value}(k:Rp c w a v)(i:Nat):CH c w (as.set i a) (vs.set i v):=by
 induction as generalizing vs i with
 | nil=>cases h;exact .nil
 | cons b as ih =>
   cases h with
   | cons h1 t =>
     cases i with
     | zero=>exact .cons k t
     | succ i=>exact .cons h1 (ih t i)
def CH.drop{as:List AV}{vs:List Value}(h:CH c w as vs)(i:Nat):CH c w (as.drop i) (vs.drop i):=by
 induction as generalizing vs i with
 | nil=>cases h;simpa using CH.nil
 | cons b as ih =>
   cases h with
   | cons h1 t =>
     cases i with
     | zero=>exact .cons h1 t
     | succ i=>exact ih t i
def CH.take{as:List AV}{vs:List Value}(h:CH c w as vs)(i:Nat):CH c w (as.take i) (vs.take i):=by
 induction as generalizing vs i with
 | nil=>cases h;simpa using CH.nil
 | cons b as ih =>
   cases h with
   | cons h1 t =>
     cases i with
     | zero=>exact .nil
     | succ i=>exact .cons h1 (ih t i)
def CH.replicate{a:AV}{v:Value}(h:Rp c w a v)(n:Nat):CH c w (List.replicate n a) (List.replicate n v):=by
 induction n with
 | zero=>exact .nil
 | succ n ih=>exact .cons h ih
def Bc.get{as:List AV}{g o:Nat}(h:Bc c w g o as){i:Nat}{a:AV}(e:as[i]?=some a):∃v,LG c w g (o+i) v/\Rp c w a v:=by
 induction as generalizing o i with
 | nil=>simp at e
 | cons b as ih =>
   cases h with
   | cons hv h1 t =>
     cases i with
     | zero=>simp at e;subst e;exact⟨_,hv,h1⟩
     | succ i =>
       simp at e;have:=ih t e;rwa[show o+1+i=o+(i+1) from by omega] at this
def Bc.drop{as:List AV}{g o:Nat}(h:Bc c w g o as)(i:Nat):Bc c w g (o+i) (as.drop i):=by
 induction as generalizing o i with
 | nil=>simpa using Bc.nil
 | cons b as ih =>
   cases i with
   | zero=>exact h
   | succ i =>
     cases h with
     | cons hv h1 t =>
       have:=ih t i;rw[show o+1+i=o+(i+1) from by omega] at this;exact this
def Bc.take{as:List AV}{g o:Nat}(h:Bc c w g o as)(i:Nat):Bc c w g o (as.take i):=by
 induction as generalizing o i with
 | nil=>simpa using Bc.nil
 | cons b as ih =>
   cases i with
   | zero=>exact .nil
   | succ i=>cases h with | cons hv h1 t=>exact .cons hv h1 (ih t i)
def Bc.vals{as:List AV}{g o:Nat}(h:Bc c w g o as):∃vs,CH c w as vs/\∀(i:Nat) v,vs[i]?=some v->LG c w g (o+i) v:=by
 induction as generalizing o with
 | nil=>exact⟨[],.nil,λi v e=>by simp at e⟩
 | cons b as ih =>
   cases h with
   | cons hv h1 t =>
     obtain⟨vs,hr,IB⟩:=ih t;refine⟨_::vs,.cons h1 hr,λi v e=>?_⟩;cases i with
     | zero=>simp at e;subst e;exact hv
     | succ i =>
       have:=IB i v (by simpa using e)
       rwa[show o+1+i=o+(i+1) from by omega] at this
def Bc.On{as:List AV}{vs:List Value}{g o:Nat}(h:CH c w as vs)(hv:∀(i:Nat) v,vs[i]?=some v->LG c w g (o+i) v):Bc c w g o as:=by
 induction as generalizing vs o with
 | nil=>exact .nil
 | cons b as ih =>
   cases h with
   | cons h1 t =>
     refine .cons (hv 0 _ rfl) h1 (ih t (λi v e=>?_));have:=hv (i+1) v (by simpa using e)
     rwa[show o+(i+1)=o+1+i from by omega] at this
end lists
end AI
namespace AI
open Go Go.RowKit
inductive AL where
 | cells (cs:List AV)
 | map (es:List (Value×AV×Nat)) (clock:Nat)
structure AS where
 h:List (Nat×AL)
 nx:Nat
 F:List (Nat×Nat)
 nr:Nat
def look(id:Nat):List (Nat×AL)->Option AL
 | []=>none
 | e::l=>match Nat.beq e.1 id with
   | true=>some e.2
   | false=>look id l
def QT(id:Nat)(b:AL):List (Nat×AL)->List (Nat×AL)
 | []=>[]
 | e::l=>match Nat.beq e.1 id with
   | true=>(id,b)::l
   | false=>e::QT id b l
def SY(n:Nat):List (Nat×AL)->List (Nat×AL)
 | []=>[]
 | e::l=>match Nat.ble n e.1 with
   | true=>SY n l
   | false=>e::l
def AS.get(s:AS)(id:Nat):Option AL:=look id s.h
def AS.new(s:AS)(b:AL):AS:=⟨(s.nx,b)::s.h,s.nx+1,s.F,s.nr⟩
def AS.put(s:AS)(id:Nat)(b:AL):AS:=⟨QT id b s.h,s.nx,s.F,s.nr⟩
def AS.cut(s:AS)(n:Nat):AS:=⟨SY n s.h,s.nx,s.F,s.nr⟩
def Jo:List (Nat×AL)->Nat->Prop
 | [],_=>True
 | e::l,n=>e.1 < n/\Jo l e.1
def beq_true{a b:Nat}(h:Nat.beq a b=true):a=b:=Nat.eq_of_beq_eq_true h
def beq_false{a b:Nat}(h:Nat.beq a b=false):a≠b:=Nat.ne_of_beq_eq_false h
def W5{l:List (Nat×AL)}{n id:Nat}{b:AL}(hd:Jo l n)(h:look id l=some b):id < n:=by
 induction l generalizing n with
 | nil=>cases h
 | cons e l ih =>
   simp only[look] at h;split at h;rename_i hb;rw[<- beq_true hb];exact hd.1;have:=ih hd.2 h;have:=hd.1;omega
def Jo.mono{l:List (Nat×AL)}{n m:Nat}(h:Jo l n)(hm:n<=m):Jo l m:=by
 cases l with
 | nil=>trivial
 | cons e l=>exact⟨Nat.lt_of_lt_of_le h.1 hm,h.2⟩
def nO{l:List (Nat×AL)}{n k:Nat}(h:Jo l n):Jo (SY k l) n:=by
 induction l generalizing n with
 | nil=>trivial
 | cons e l ih =>
   simp only[SY];split;exact ih (h.2.mono (Nat.le_of_lt h.1));exact h
def Tp{l:List (Nat×AL)}{n k id:Nat}{b:AL}(hd:Jo l n)(h:look id (SY k l)=some b):look id l=some b:=by
 induction l generalizing n with
 | nil=>exact h
 | cons e l ih =>
   simp only[SY] at h;split at h;have h1:=ih hd.2 h;have h2:=W5 hd.2 h1;simp only[look];split;rename_i hb;have:=beq_true hb;omega;exact h1;exact h
def Y1{l:List (Nat×AL)}{n id:Nat}{b:AL}(h:Jo l n):Jo (QT id b l) n:=by
 induction l generalizing n with
 | nil=>trivial
 | cons e l ih =>
   simp only[QT];split;rename_i hb;have:=beq_true hb;subst this;exact h;exact⟨h.1,ih h.2⟩
def Y2{l:List (Nat×AL)}{id QK:Nat}{b b':AL}(h:look QK (QT id b l)=some b'):(QK=id/\b'=b)\/(QK≠id/\look QK l=some b'):=by
 induction l with
 | nil=>cases h
 | cons e l ih =>
   simp only[QT] at h;split at h;rename_i hb;have Wv:=beq_true hb;simp only[look] at h ⊢;split at h;rename_i h1;cases h;exact .inl ⟨(beq_true h1).symm,rfl⟩;rename_i h1;have hne:=beq_false h1;refine .inr ⟨λe=>hne e.symm,?_⟩;split;rename_i h2;exact absurd (Wv.symm.trans (beq_true h2)) hne;exact h;rename_i hb;have Wv:=beq_false hb;simp only[look] at h ⊢;split at h;rename_i h1;cases h;refine .inr ⟨λe'=>Wv ((beq_true h1).trans e'),rfl⟩;rename_i h1;rcases ih h with h2 | ⟨h2,h3⟩
   exact .inl h2;exact .inr ⟨h2,h3⟩
def DY(r:Nat):List (Nat×Nat)->Option Nat
 | []=>none
 | x::l=>match Nat.beq x.1 r with
   | true=>some x.2
   | false=>DY r l
def yU(r n:Nat):List (Nat×Nat)->List (Nat×Nat)
 | []=>[]
 | x::l=>match Nat.beq x.1 r with
   | true=>(r,n)::l
   | false=>x::yU r n l
def aM{r n r' k:Nat}{l:List (Nat×Nat)}(h:DY r' (yU r n l)=some k):(r'=r/\k=n/\(DY r l).isSome=true)\/(r'≠r/\DY r' l=some k):=by
 induction l with
 | nil=>cases h
 | cons x l ih =>
   simp only[yU] at h;split at h;rename_i hb;have hx:=beq_true hb;simp only[DY] at h ⊢;split at h;rename_i h1;cases h;refine .inl ⟨(beq_true h1).symm,rfl,?_⟩;rw[hb];rfl;rename_i h1;have hne:=beq_false h1;refine .inr ⟨λe=>hne e.symm,?_⟩;split;rename_i h2;exact absurd (hx.symm.trans (beq_true h2)) hne;exact h;rename_i hb;have hx:=beq_false hb;simp only[DY] at h ⊢;split at h;rename_i h1;cases h;exact .inr ⟨λe=>hx ((beq_true h1).trans e),rfl⟩;rename_i h1;rcases ih h with ⟨h2,h3,h4⟩ | ⟨h2,h3⟩
   refine .inl ⟨h2,h3,?_⟩;rw[hb];exact h4;exact .inr ⟨h2,h3⟩
inductive Kp(c:Cx)(w:World):List (Value×AV×Nat)->List MapEntry->Prop where
 | nil:Kp c w [] []
 | cons {k:Value} {a:AV} {v:Value} {b:Nat} {es:List (Value×AV×Nat)} {fs:List MapEntry} (h:Rp c w a v) (t:Kp c w es fs):Kp c w ((k,a,b)::es) (⟨k,v,b⟩::fs)
inductive Fh(c:Cx)(w:World):AL->Obj->Prop where
 | Hs {cs:List AV} {vs:List Value} {T:TypeId} (ext:List Value) (h:CH c w cs vs):Fh c w (.cells cs) (.cells (vs++ext).toArray T (0,0))
 | map {es:List (Value×AV×Nat)} {fs:List MapEntry} {clock:Nat} (h:Kp c w es fs):Fh c w (.map es clock) (.map fs.toArray clock)
def Fh.cells{c:Cx}{w:World}{cs:List AV}{vs:List Value}{T:TypeId}(h:CH c w cs vs):Fh c w (.cells cs) (.cells vs.toArray T (0,0)):=by
 have:=Fh.Hs (T:=T) [] h;rwa[List.append_nil] at this
def Kp.Dt{c:Cx}{w:World}{c':Cx}{w':World}(h:Mon c w c' w'){es:List (Value×AV×Nat)}{fs:List MapEntry}(k:Kp c w es fs):Kp c' w' es fs:=by
 induction k with
 | nil=>exact .nil
 | cons h1 _ ih=>exact .cons (h1.Dt h) ih
def Fh.Dt{c:Cx}{w:World}{c':Cx}{w':World}(h:Mon c w c' w'){b:AL}{o:Obj}(k:Fh c w b o):Fh c' w' b o:=by
 cases k with
 | Hs ext h1=>exact .Hs ext (h1.Dt h)
 | map h1=>exact .map (h1.Dt h)
def Kp.mono{c:Cx}{w:World}{c':Cx}{w':World}(h:Ext c w c' w'){es:List (Value×AV×Nat)}{fs:List MapEntry}(k:Kp c w es fs):Kp c' w' es fs:=k.Dt h.mon
def Fh.mono{c:Cx}{w:World}{c':Cx}{w':World}(h:Ext c w c' w'){b:AL}{o:Obj}(k:Fh c w b o):Fh c' w' b o:=k.Dt h.mon
abbrev A8:=Nat->Option (List AV)
structure St(G:A8)(c:Cx)(w:World)(s:AS):Prop where
 len:s.nx=c.CT.length
 desc:Jo s.h s.nx
 nodup:∀(i j g:Nat),c.CT[i]?=some (some g)->c.CT[j]?=some (some g)->i=j
 low:∀g,some g∈c.CT->c.base<=g
 box:∀(id:Nat) g b,c.CT[id]?=some (some g)->s.get id=some b->∃o,w.heap[g]?=some o/\Fh c w b o
 IN:s.nr=c.rows.length
 row:∀(r:Nat) g n cap sz,c.rows[r]?=some (.QW g n cap sz)->(∀i,¬c.bad g i)/\c.base<=g/\some g∉c.CT/\n<=cap/\∃vs T,w.heap[g]?=some (.cells vs T (0,0))/\vs.size=cap*sz
 IZ:∀(r n:Nat),DY r s.F=some n->(c.rows[r]?=some .new/\n=0)\/∃g cap sz,c.rows[r]?=some (.QW g n cap sz)
 Md:∀g,some g∈c.CT->g < w.heap.size
 Mn:∀g i,c.bad g i->g < w.heap.size
 IH:∀(r r':Nat) g n cap sz n' cap' M4,c.rows[r]?=some (.QW g n cap sz)->c.rows[r']?=some (.QW g n' cap' M4)->r=r'
 Mp:∀g cs,G g=some cs->Bc c w g 0 cs
 PV:c.base<=w.heap.size
structure Q9(w w':World)(K:Nat->Prop):Prop where
 os:w'.os=w.os
 tape:w'.tape=w.tape
 output:w'.output=w.output
 size:w.heap.size<=w'.heap.size
 block:∀k,k < w.heap.size->¬K k->w'.heap[k]?=w.heap[k]?
def Q9.cell{w w':World}{K:Nat->Prop}(h:Q9 w w' K){g i:Nat}(hg:g < w.heap.size)(hk:¬K g):w'.cell? ⟨g,i,none⟩=w.cell? ⟨g,i,none⟩ :=
 World.cell?_of_block (w:=w) (h.block g hg hk)
def Q9.below{w w':World}{K:Nat->Prop}(h:Q9 w w' K){B:Nat}(hB:B<=w.heap.size)(hK:∀k,K k->B<=k):Below B w w' :=
 ⟨h.os,h.tape,h.output,h.size,λk hk=>h.block k (by omega) (λe=>by have:=hK k e;omega)⟩
def yB{l:List Nat}(h:l.Nodup){i j g:Nat}(hi:l[i]?=some g)(hj:l[j]?=some g):i=j:=by
 obtain⟨li,ei⟩:=List.getElem?_eq_some_iff.1 hi;obtain⟨lj,ej⟩:=List.getElem?_eq_some_iff.1 hj;have hp:=List.pairwise_iff_getElem.1 h;rcases Nat.lt_trichotomy i j with hlt | he | hlt
 exact absurd (ei.trans ej.symm) (hp i j li lj hlt);exact he;exact absurd (ej.trans ei.symm) (hp j i lj li hlt)
section
variable {G:A8} {c:Cx} {w:World} {s:AS}
def St.Mu(h:St G c w s){g:Nat}(hg:some g∈c.CT):g < w.heap.size:=h.Md g hg
def St.Mx(h:St G c w s){r g n cap sz:Nat}(hr:c.rows[r]?=some (.QW g n cap sz)):g < w.heap.size:=by
 obtain⟨_,_,_,_,vs,T,ho,_⟩:=h.row r g n cap sz hr;exact(Array.getElem?_eq_some_iff.1 ho).1
def St.TP(h:St G c w s){g i:Nat}(hs:c.ZF g i):g < w.heap.size:=by
 rcases hs with hs | ⟨r,n,cap,sz,hr,_⟩ | hs
 exact h.Mu hs;exact h.Mx hr;exact h.Mn g i hs
def St.same(h:St G c w s){w':World}(k:Q9 w w' (λ_=>False)):Ext c w c w'/\St G c w' s:=by
 have e:Ext c w c w':=⟨List.prefix_refl _,Nat.le_refl _,λ_ y _ h=>⟨y,h,Kq.refl y⟩,λg i v hv=>⟨Nat.lt_of_lt_of_le hv.1 k.size,hv.2.1,by rw[k.cell hv.1 id];exact hv.2.2⟩,k.below h.PV (λ_ h=>h.elim),rfl,rfl,λ_ h=>.inl h,λr _ n cap sz h=>.inl ⟨r,n,cap,sz,h⟩,λq hq _ _=>k.block q hq not_false⟩;refine⟨e,⟨h.len,h.desc,h.nodup,h.low,λid g b h1 h2=>?_,h.IN,λr g n cap sz hr=>?_,h.IZ,λg hg=>Nat.lt_of_lt_of_le (h.Md g hg) k.size,λg i hb=>Nat.lt_of_lt_of_le (h.Mn g i hb) k.size,h.IH,λg cs hg=>(h.Mp g cs hg).mono e,Nat.le_trans h.PV k.size⟩⟩;obtain⟨o,ho,hb⟩:=h.box id g b h1 h2;exact⟨o,by rw[k.block g (Array.getElem?_eq_some_iff.1 ho).1 not_false];exact ho,hb.mono e⟩;obtain⟨KH,h2,h3,h4,vs,T,ho,h5⟩:=h.row r g n cap sz hr;exact⟨KH,h2,h3,h4,vs,T,by rw[k.block g (Array.getElem?_eq_some_iff.1 ho).1 not_false];exact ho,h5⟩
def Nh(w:World)(o:Obj):Q9 w { w with heap:=w.heap.push o } (λ_=>False) :=
 ⟨rfl,rfl,rfl,by simp,λk hk _=>by simp[Array.getElem?_push];intro h;omega⟩
def gK(w:World):Q9 w { w with drawn:=w.drawn+1 } (λ_=>False):=⟨rfl,rfl,rfl,Nat.le_refl _,λ_ _ _=>rfl⟩
def kB(w:World)(o:Obj):({ w with heap:=w.heap.push o }:World).heap[w.heap.size]?=some o:=by simp
def St.asB(h:St G c w s)(vs:List Value)(T:TypeId){i:Nat}{v:Value}(hv:vs[i]?=some v):LG c { w with heap:=w.heap.push (.cells vs.toArray T) } w.heap.size i v:=by
 refine⟨by simp,λhs=>?_,?_⟩;have:=h.TP hs;omega;simp[World.cell?,hv]
def St.new(h:St G c w s){b:AL}{o:Obj}(hb:Fh c w b o) :
   Ext c w { c with CT:=c.CT++[some w.heap.size] } { w with heap:=w.heap.push o }/\St G { c with CT:=c.CT++[some w.heap.size] } { w with heap:=w.heap.push o } (s.new b):=by
 have k:=Nh w o
 have e:Ext c w { c with CT:=c.CT++[some w.heap.size] } { w with heap:=w.heap.push o }:=by
   refine⟨List.prefix_append _ _,Nat.le_refl _,λ_ y _ h=>⟨y,h,Kq.refl y⟩,λg i v hv=>⟨Nat.lt_of_lt_of_le hv.1 k.size,λhs=>?_,by rw[k.cell hv.1 id];exact hv.2.2⟩,k.below h.PV (λ_ h=>h.elim),rfl,rfl,λg hg=>(List.mem_append.1 hg).imp id (λh=>by simp at h;omega),λr _ n cap sz h=>.inl ⟨r,n,cap,sz,h⟩,λq hq _ _=>k.block q hq not_false⟩;rcases hs with hs | hs
   rcases List.mem_append.1 hs with hs | hs
   exact hv.2.1 (.inl hs);have h0:=hv.1;simp at hs;omega;exact hv.2.1 (.inr hs)
 refine⟨e,⟨by simp[AS.new,h.len],⟨Nat.lt_succ_self _,h.desc⟩,?_,?_,λid g b' h1 h2=>?_,h.IN,λr g n cap sz hr=>?_,h.IZ,λg hg=>?_,λg i hb=>Nat.lt_of_lt_of_le (h.Mn g i hb) k.size,h.IH,λg cs hg=>(h.Mp g cs hg).mono e,by simp;exact Nat.le_succ_of_le h.PV⟩⟩;intro i j g h1 h2;by_cases hi:i < c.CT.length<;>by_cases hj:j < c.CT.length
 rw[List.getElem?_append_left hi] at h1;rw[List.getElem?_append_left hj] at h2;exact h.nodup i j g h1 h2;rw[List.getElem?_append_left hi] at h1;rw[List.getElem?_append_right (by omega)] at h2;have:=h.Mu (List.mem_of_getElem? h1);cases hk:j - c.CT.length with
 | zero=>rw[hk] at h2;simp at h2;omega
 | succ n=>rw[hk] at h2;simp at h2
 rw[List.getElem?_append_left hj] at h2;rw[List.getElem?_append_right (by omega)] at h1;have:=h.Mu (List.mem_of_getElem? h2);cases hk:i - c.CT.length with
 | zero=>rw[hk] at h1;simp at h1;omega
 | succ n=>rw[hk] at h1;simp at h1
 have e1:=(List.getElem?_eq_some_iff.1 h1).1;have e2:=(List.getElem?_eq_some_iff.1 h2).1;simp at e1 e2;omega;intro g hg;rcases List.mem_append.1 hg with hg | hg
 exact h.low g hg;simp at hg;subst hg;exact h.PV;simp only[AS.get,AS.new,look] at h2;split at h2;rename_i Wv;cases h2;have aKU:id=c.CT.length:=by rw[<- h.len];exact(beq_true Wv).symm
 subst aKU;rw[List.getElem?_concat_length] at h1;cases h1;exact⟨o,kB w o,hb.mono e⟩;have hlt:=W5 h.desc h2;rw[List.getElem?_append_left (by rw[<- h.len];exact hlt)] at h1;obtain⟨o',ho,Wv⟩:=h.box id g b' h1 h2;exact⟨o',by rw[k.block g (Array.getElem?_eq_some_iff.1 ho).1 not_false];exact ho,Wv.mono e⟩;obtain⟨KH,h2,h3,h4,vs,T,ho,h5⟩:=h.row r g n cap sz hr;refine⟨KH,h2,?_,h4,vs,T,by rw[k.block g (Array.getElem?_eq_some_iff.1 ho).1 not_false];exact ho,h5⟩;intro hm;rcases List.mem_append.1 hm with hm | hm
 exact h3 hm;have:=(Array.getElem?_eq_some_iff.1 ho).1;simp at hm;omega;rcases List.mem_append.1 hg with hg | hg
 have:=h.Md g hg;simp;omega;simp at hg;subst hg;simp
def St.put(h:St G c w s){id g:Nat}{b:AL}{o:Obj}{w':World}(hid:c.CT[id]?=some (some g))(k:Q9 w w' (λx=>x=g))(hw:w'.heap[g]?=some o)(hb:Fh c w b o) :
   Ext c w c w'/\St G c w' (s.put id b):=by
 have hgm:some g∈c.CT:=List.mem_of_getElem? hid
 have e:Ext c w c w':=by
   refine⟨List.prefix_refl _,Nat.le_refl _,λ_ y _ h=>⟨y,h,Kq.refl y⟩,λg' i v hv=>⟨Nat.lt_of_lt_of_le hv.1 k.size,hv.2.1,?_⟩,k.below h.PV (λx hx=>by rw[hx];exact h.low g hgm),rfl,rfl,λ_ h=>.inl h,λr _ n cap sz h=>.inl ⟨r,n,cap,sz,h⟩,λq hq hp _=>k.block q hq (λe=>hp (by rw[e];exact hgm))⟩;rw[k.cell hv.1 (λe=>hv.2.1 (.inl (by rw[e];exact hgm)))];exact hv.2.2
 refine⟨e,⟨h.len,Y1 h.desc,h.nodup,h.low,λQK g' b' h1 h2=>?_,h.IN,λr g' n cap sz hr=>?_,h.IZ,λg hg=>Nat.lt_of_lt_of_le (h.Md g hg) k.size,λg i hb=>Nat.lt_of_lt_of_le (h.Mn g i hb) k.size,h.IH,λg' cs hg=>(h.Mp g' cs hg).mono e,Nat.le_trans h.PV k.size⟩⟩;rcases Y2 h2 with ⟨rfl,rfl⟩ | ⟨hii,h3⟩
 rw[hid] at h1;cases h1;exact⟨o,hw,hb.mono e⟩;obtain⟨o',ho,Wv⟩:=h.box QK g' b' h1 h3
 have hne:¬g'=g:=λhg=>by
   subst hg;exact hii (h.nodup _ _ _ h1 hid)
 exact⟨o',by rw[k.block g' (Array.getElem?_eq_some_iff.1 ho).1 hne];exact ho,Wv.mono e⟩;obtain⟨KH,h2,h3,h4,vs,T,ho,h5⟩:=h.row r g' n cap sz hr;exact⟨KH,h2,h3,h4,vs,T,by rw[k.block g' (Array.getElem?_eq_some_iff.1 ho).1 (λe=>h3 (by rw[e];exact hgm))];exact ho,h5⟩
def AS.tok(s:AS):AS:=⟨s.h,s.nx,(s.nr,0)::s.F,s.nr+1⟩
def kN{c:Cx}{r:Nat}{x:Rw}(h:(c.rows++[Rw.new])[r]?=some x):(r < c.rows.length/\c.rows[r]?=some x)\/(r=c.rows.length/\x=.new):=by
 by_cases hr:r < c.rows.length;rw[List.getElem?_append_left hr] at h;exact .inl ⟨hr,h⟩;have hl:=(List.getElem?_eq_some_iff.1 h).1;simp at hl;have:r=c.rows.length:=by omega
 subst this;rw[List.getElem?_concat_length] at h;exact .inr ⟨rfl,(Option.some.inj h).symm⟩
def St.tok(h:St G c w s):Ext c w { c with rows:=c.rows++[.new] } w/\St G { c with rows:=c.rows++[.new] } w s.tok:=by
 have hb:∀(r g n cap sz:Nat),(c.rows++[Rw.new])[r]?=some (.QW g n cap sz)->c.rows[r]?=some (.QW g n cap sz):=λr g n cap sz hr=>by
   rcases kN hr with h1 | h1
   exact h1.2;cases h1.2
 have e:Ext c w { c with rows:=c.rows++[.new] } w:=by
   refine⟨List.prefix_refl _,by simp,λr y hr hy=>?_,λg i v hv=>⟨hv.1,λhs=>?_,hv.2.2⟩,Below.refl _ _,rfl,rfl,λ_ h=>.inl h,λr g n cap sz hr=>.inl ⟨r,n,cap,sz,hb _ _ _ _ _ hr⟩,λ_ _ _ _=>rfl⟩;rcases kN hy with h1 | h1
   exact⟨y,h1.2,Kq.refl y⟩;omega;rcases hs with hs | ⟨r,n,cap,sz,hr,h1,h2⟩ | hs
   exact hv.2.1 (.inl hs);exact hv.2.1 (.inr (.inl ⟨r,n,cap,sz,hb _ _ _ _ _ hr,h1,h2⟩));exact hv.2.1 (.inr (.inr hs))
 refine⟨e,⟨h.len,h.desc,h.nodup,h.low,λid g b h1 h2=>?_,by simp[AS.tok,h.IN],λr g n cap sz hr=>h.row r g n cap sz (hb _ _ _ _ _ hr),λr n hr=>?_,h.Md,h.Mn,λr r' g n cap sz n' cap' M4 h1 h2=>h.IH r r' g _ _ _ _ _ _ (hb _ _ _ _ _ h1) (hb _ _ _ _ _ h2),λg cs hg=>(h.Mp g cs hg).mono e,h.PV⟩⟩;obtain⟨o,ho,xE⟩:=h.box id g b h1 h2;exact⟨o,ho,xE.mono e⟩;simp only[AS.tok,DY] at hr;split at hr;rename_i h1;have:=beq_true h1;rw[h.IN] at this;subst this;cases hr;exact .inl ⟨List.getElem?_concat_length,rfl⟩;have h2:=h.IZ r n hr
 have hlt:r < c.rows.length:=by
   rcases h2 with h2 | ⟨g,cap,sz,h2⟩
   exact(List.getElem?_eq_some_iff.1 h2.1).1;exact(List.getElem?_eq_some_iff.1 h2).1
 simp only;rw[List.getElem?_append_left hlt];exact h2
def St.cut(h:St G c w s)(n:Nat):St G c w (s.cut n) :=
 ⟨h.len,nO h.desc,h.nodup,h.low,λid g b h1 h2=>h.box id g b h1 (Tp h.desc h2),h.IN,h.row,h.IZ,h.Md,h.Mn,h.IH,h.Mp,h.PV⟩
end
def AS.hold(s:AS):List AL->AS
 | []=>s
 | b::l=>(s.new b).hold l
section
variable {G:A8} {c:Cx} {w:World} {s:AS}
def RJ{l:List (Option Nat)}{g:Nat}:some g∈l++[none]↔some g∈l:=by simp
def St.hole(h:St G c w s)(b:AL):∃c',Ext c w c' w/\St G c' w (s.new b)/\c'.CT=c.CT++[none]:=by
 refine⟨{ c with CT:=c.CT++[none] },?_⟩
 have e:Ext c w { c with CT:=c.CT++[none] } w:=by
   refine⟨List.prefix_append _ _,Nat.le_refl _,λ_ y _ h=>⟨y,h,Kq.refl y⟩,λg i v hv=>⟨hv.1,λhs=>?_,hv.2.2⟩,Below.refl _ _,rfl,rfl,λg hg=>.inl (RJ.1 hg),λr _ n cap sz h=>.inl ⟨r,n,cap,sz,h⟩,λ_ _ _ _=>rfl⟩;rcases hs with hs | hs
   exact hv.2.1 (.inl (RJ.1 hs));exact hv.2.1 (.inr hs)
 have get:∀(i g:Nat),(c.CT++[none])[i]?=some (some g)->c.CT[i]?=some (some g):=by
   intro i g hi;by_cases hl:i < c.CT.length;rwa[List.getElem?_append_left hl] at hi;rw[List.getElem?_append_right (by omega)] at hi;cases hk:i - c.CT.length with
   | zero=>rw[hk] at hi;simp at hi
   | succ n=>rw[hk] at hi;simp at hi
 refine⟨e,⟨by simp[AS.new,h.len],⟨Nat.lt_succ_self _,h.desc⟩,λi j g h1 h2=>h.nodup i j g (get i g h1) (get j g h2),λg hg=>h.low g (RJ.1 hg),λid g b' h1 h2=>?_,h.IN,λr g n cap sz hr=>?_,h.IZ,λg hg=>h.Md g (RJ.1 hg),h.Mn,h.IH,λg cs hg=>(h.Mp g cs hg).mono e,h.PV⟩,rfl⟩;have h1:=get id g h1;simp only[AS.get,AS.new,look] at h2;split at h2;rename_i Wv;exfalso;have:=(List.getElem?_eq_some_iff.1 h1).1;have h3:=beq_true Wv;have h4:=h.len;omega;obtain⟨o',ho,Wv⟩:=h.box id g b' h1 h2;exact⟨o',ho,Wv.mono e⟩;obtain⟨KH,h2,h3,h4⟩:=h.row r g n cap sz hr;exact⟨KH,h2,λhm=>h3 (RJ.1 hm),h4⟩
def St.holds(h:St G c w s)(l:List AL):∃c',Ext c w c' w/\St G c' w (s.hold l)/\c'.CT=c.CT++List.replicate l.length none:=by
 induction l generalizing c s with
 | nil=>exact⟨c,Ext.refl _ _,h,by simp⟩
 | cons b l ih =>
   obtain⟨c1,e1,st1,p1⟩:=h.hole b;obtain⟨c2,e2,T8,p2⟩:=ih st1;exact⟨c2,e1.trans e2,T8,by rw[p2,p1,List.append_assoc];rfl⟩
def mem_set{l:List (Option Nat)}{id g x:Nat}(h:some g∈l.set id (some x)):some g∈l\/g=x:=by
 rcases List.mem_or_eq_of_mem_set h with h | h
 exact .inl h;exact .inr (by simpa using h)
def WW{l:List (Option Nat)}{id x i g:Nat}(h:(l.set id (some x))[i]?=some (some g)):l[i]?=some (some g)\/(i=id/\g=x):=by
 by_cases e:id=i;subst e;rw[List.getElem?_set_self' ] at h;cases hl:l[id]? with
 | none=>rw[hl] at h;cases h
 | some y=>rw[hl] at h;simp at h;exact .inr ⟨rfl,h.symm⟩
 rw[List.getElem?_set_ne e] at h;exact .inl h
def St.fill(h:St G c w s){id:Nat}{b:AL}{o:Obj}(hid:c.CT[id]?=some none)(OQ:s.get id=some b)(hb:Fh c w b o) :
   Mon c w { c with CT:=c.CT.set id (some w.heap.size) } { w with heap:=w.heap.push o }/\St G { c with CT:=c.CT.set id (some w.heap.size) } { w with heap:=w.heap.push o } s /\
   ∀c0 w0,Ext c0 w0 c w->c0.CT.length<=id->Ext c0 w0 { c with CT:=c.CT.set id (some w.heap.size) } { w with heap:=w.heap.push o }:=by
 have k:=Nh w o;have hlt:id < c.CT.length:=(List.getElem?_eq_some_iff.1 hid).1
 have aOK:(c.CT.set id (some w.heap.size))[id]?=some (some w.heap.size):=by
   rw[List.getElem?_set_self hlt]
 have hold:∀(i g:Nat),c.CT[i]?=some (some g)->(c.CT.set id (some w.heap.size))[i]?=some (some g):=by
   intro i g hi;have:id≠i:=λe=>by subst e;rw[hid] at hi;cases hi
   rw[List.getElem?_set_ne this];exact hi
 have ZF:∀g i,({ c with CT:=c.CT.set id (some w.heap.size) }:Cx).ZF g i->c.ZF g i\/g=w.heap.size:=by
   intro g i hs;rcases hs with hs | hs
   rcases mem_set hs with hs | hs
   exact .inl (.inl hs);exact .inr hs;exact .inl (.inr hs)
 have IB:∀g i v,LG c w g i v->LG { c with CT:=c.CT.set id (some w.heap.size) } { w with heap:=w.heap.push o } g i v:=by
   intro g i v hv;refine⟨Nat.lt_of_lt_of_le hv.1 k.size,λhs=>?_,by rw[k.cell hv.1 not_false];exact hv.2.2⟩;rcases ZF g i hs with hs | hs
   exact hv.2.1 hs;have:=hv.1;omega
 have m:Mon c w { c with CT:=c.CT.set id (some w.heap.size) } { w with heap:=w.heap.push o }:=⟨hold,Nat.le_refl _,λ_ y _ h=>⟨y,h,Kq.refl y⟩,IB⟩
 refine⟨m,⟨by simp[h.len],h.desc,?_,?_,λi g b' h1 h2=>?_,h.IN,λr g n cap sz hr=>?_,h.IZ,λg hg=>?_,λg i hb=>Nat.lt_of_lt_of_le (h.Mn g i hb) k.size,h.IH,λg cs hg=>(h.Mp g cs hg).Dt m,by simp;exact Nat.le_succ_of_le h.PV⟩,?_⟩;intro i j g h1 h2;rcases WW h1 with h1 | ⟨e1,g1⟩<;>rcases WW h2 with h2 | ⟨e2,g2⟩
 exact h.nodup i j g h1 h2;have:=h.Mu (List.mem_of_getElem? h1);omega;have:=h.Mu (List.mem_of_getElem? h2);omega;omega;intro g hg;rcases mem_set hg with hg | hg
 exact h.low g hg;subst hg;exact h.PV;rcases WW h1 with h1 | ⟨e1,g1⟩
 obtain⟨o',ho,Wv⟩:=h.box i g b' h1 h2;exact⟨o',by rw[k.block g (Array.getElem?_eq_some_iff.1 ho).1 not_false];exact ho,Wv.Dt m⟩;subst e1 g1;rw[OQ] at h2;cases h2;exact⟨o,kB w o,hb.Dt m⟩;obtain⟨KH,h2,h3,h4,vs,T,ho,h5⟩:=h.row r g n cap sz hr;refine⟨KH,h2,λhm=>?_,h4,vs,T,by rw[k.block g (Array.getElem?_eq_some_iff.1 ho).1 not_false];exact ho,h5⟩;rcases mem_set hm with hm | hm
 exact h3 hm;have:=(Array.getElem?_eq_some_iff.1 ho).1;omega;rcases mem_set hg with hg | hg
 have:=h.Md g hg;simp;omega;subst hg;simp;intro c0 w0 x hle;refine⟨?_,x.IN,x.rows,λg i v hv=>IB g i v (x.ZI g i v hv),x.below.trans (k.below (by rw[<- x.base];exact h.PV) (λ_ h=>h.elim)),x.base,x.bad,λg hg=>?_,x.ZB,λq hq hp hr=>?_⟩;obtain⟨t,ht⟩:=x.CT;refine⟨t.set (id - c0.CT.length) (some w.heap.size),?_⟩;show _=c.CT.set id (some w.heap.size);rw[<- ht,List.set_append_right _ _ hle];rcases mem_set hg with hg | hg
 exact x.ZA g hg;subst hg;exact .inr x.below.size;have Zh:q < w.heap.size:=Nat.lt_of_lt_of_le hq x.below.size;rw[k.block q Zh not_false];exact x.G3 q hq hp hr
end
end AI
