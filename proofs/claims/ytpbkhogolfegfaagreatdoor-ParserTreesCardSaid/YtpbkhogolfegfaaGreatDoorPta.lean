/- Part of a proof: see the last text. -/
import Derived.Calls
import Derived.Orders
import Derived.Below
set_option linter.unusedVariables false
set_option linter.unusedSimpArgs false
set_option linter.defProp false
noncomputable section
namespace AI
open Go Go.RowKit
inductive Own where
 | full
 | row (r sz:Nat)
 | lost
 | nil
 | nn
 deriving DecidableEq,Inhabited
inductive AV where
 | sc (v:Value)
 | agg (cs:List AV)
 | Df (vs:List AV)
 | sl (own:Own) (n:Nat) (cs:List AV)
 | msl (id off n:Nat)
 | el (cs:List AV)
 | ptr (id off:Nat)
 | fn (f:Fn) (first caps:List AV)
 | ifc (t:TypeId) (v:AV)
 | mp (id:Nat)
 | any
 | raw (A:Option Addr) (n cap:Nat)
 deriving Inhabited
def scalar:Value->Bool
 | .bool _ | .int _ _ | .string _ | .nilIface | .nilFunc | .pointer none | .map none=>true
 | .tuple vs=>vs.size == 0
 | _=>false
def Wa:Value->Bool
 | .bool _=>false
 | _=>true
inductive Rw where
 | gone
 | new
 | QD (g n cap sz:Nat)
def J8(x:Rw):Rw->Prop
 | .gone=>True
 | .new=>x=.new
 | .QD g n cap sz=>x=.QD g n cap sz\/x=.new\/∃g0 n0 Q3 jA,x=.QD g0 n0 Q3 jA/\n0 < n
def J8.refl(x:Rw):J8 x x:=by cases x<;>simp[J8]
def J8.trans{x y z:Rw}(h:J8 x y)(k:J8 y z):J8 x z:=by
 cases z with
 | gone=>trivial
 | new=>simp only[J8] at k;subst k;exact h
 | QD g n cap sz =>
   simp only[J8] at k;rcases k with rfl | rfl | ⟨g0,n0,Q3,jA,rfl,hlt⟩
   exact h;simp only[J8] at h;exact .inr (.inl h);simp only[J8] at h;rcases h with rfl | rfl | ⟨g1,n1,aGE,sz1,rfl,aLA⟩
   exact .inr (.inr ⟨_,_,_,_,rfl,hlt⟩);exact .inr (.inl rfl);exact .inr (.inr ⟨_,_,_,_,rfl,by omega⟩)
structure Cx where
 base:Nat
 CN:List (Option Nat)
 rows:List Rw
 bad:Nat->Nat->Prop
def Cx.YZ(c:Cx)(g i:Nat):Prop:=some g∈c.CN\/(∃r n cap sz:Nat,c.rows[r]?=some (.QD g n cap sz)/\n*sz<=i/\i < cap*sz)\/c.bad g i
def Lq(c:Cx)(w:World)(g i:Nat)(v:Value):Prop:=g < w.heap.size/\¬c.YZ g i/\w.cell? ⟨g,i,none⟩=some v
def WI(c:Cx)(own:Own)(g o n cap len:Nat):Prop:=match own with
 | .full=>cap=n
 | .row r sz=>o=0/\len=n*sz/\r < c.rows.length/\c.rows[r]?≠some .new/\∀g' n' cap' MP,c.rows[r]?=some (.QD g' n' cap' MP)->n<=n'/\(n'=n->g'=g/\cap'=cap/\MP=sz)
 | .lost=>True
 | .nil=>False
 | .nn=>True
def kV(c:Cx)(own:Own)(A:Option Addr)(cap:Nat):Prop:=match own with
 | .full=>cap=0
 | .row r _=>cap=0/\r < c.rows.length
 | .lost=>True
 | .nil=>A.isNone=true
 | .nn=>A.isNone=false
mutual
inductive Rp(c:Cx)(w:World):AV->Value->Prop where
 | sc {v:Value} (h:scalar v=true):Rp c w (.sc v) v
 | agg {cs:List AV} {vs:List Value} (h:Cz c w cs vs):Rp c w (.agg cs) (.agg vs.toArray)
 | Df {cs:List AV} {vs:List Value} (h:Cz c w cs vs):Rp c w (.Df cs) (.tuple vs.toArray)
 | sl0 {own:Own} {A:Option Addr} {cap:Nat} (h:kV c own A cap):Rp c w (.sl own 0 []) (.slice A 0 cap)
 | Kx {own:Own} {n cap g o:Nat} {cs:List AV} (hn:n<=cap) (h:A9 c w g o cs) (ho:WI c own g o n cap cs.length):Rp c w (.sl own n cs) (.slice (some ⟨g,o,none⟩) n cap)
 | msl {id off n g cap:Nat} (hn:n<=cap) (h:c.CN[id]?=some (some g)):Rp c w (.msl id off n) (.slice (some ⟨g,off,none⟩) n cap)
 | el {cs:List AV} {g o:Nat} (h:A9 c w g o cs):Rp c w (.el cs) (.pointer (some ⟨g,o,none⟩))
 | ptr {id off g:Nat} (h:c.CN[id]?=some (some g)):Rp c w (.ptr id off) (.pointer (some ⟨g,off,none⟩))
 | fn {f:Fn} {first caps:List AV} {us vs:List Value} (h1:Cz c w first us) (h2:Cz c w caps vs):Rp c w (.fn f first caps) (.func f us.toArray vs.toArray)
 | ifc {t:TypeId} {a:AV} {v:Value} (h:Rp c w a v):Rp c w (.ifc t a) (.iface t v)
 | mp {id g:Nat} (h:c.CN[id]?=some (some g)):Rp c w (.mp id) (.map (some g))
 | any {v:Value} (h:Wa v=true):Rp c w .any v
 | raw {A:Option Addr} {n cap:Nat}:Rp c w (.raw A n cap) (.slice A n cap)
inductive Cz(c:Cx)(w:World):List AV->List Value->Prop where
 | nil:Cz c w [] []
 | cons {a:AV} {v:Value} {as:List AV} {vs:List Value} (h:Rp c w a v) (t:Cz c w as vs):Cz c w (a::as) (v::vs)
inductive A9(c:Cx)(w:World):Nat->Nat->List AV->Prop where
 | nil {g o:Nat}:A9 c w g o []
 | cons {g o:Nat} {a:AV} {v:Value} {as:List AV} (hv:Lq c w g o v) (h:Rp c w a v) (t:A9 c w g (o+1) as):A9 c w g o (a::as)
end
structure Ext(c:Cx)(w:World)(c':Cx)(w':World):Prop where
 CN:c.CN <+: c'.CN
 Ip:c.rows.length<=c'.rows.length
 rows:∀(r:Nat) y,r < c.rows.length->c'.rows[r]?=some y->∃x,c.rows[r]?=some x/\J8 x y
 Y2:∀g i v,Lq c w g i v->Lq c' w' g i v
 below:Below c.base w w'
 base:c'.base=c.base
 bad:c'.bad=c.bad
 YU:∀g,some g∈c'.CN->some g∈c.CN\/w.heap.size<=g
 YV:∀(r:Nat) g n cap sz,c'.rows[r]?=some (.QD g n cap sz)->(∃(r0 n0 Q3 jA:Nat),c.rows[r0]?=some (.QD g n0 Q3 jA))\/w.heap.size<=g
 GF:∀k,k < w.heap.size->some k∉c.CN->(∀(r:Nat) n cap sz,c.rows[r]?≠some (.QD k n cap sz))->w'.heap[k]?=w.heap[k]?
def Ext.refl(c:Cx)(w:World):Ext c w c w:=⟨List.prefix_refl _,Nat.le_refl _,λ_ y _ h=>⟨y,h,J8.refl y⟩,λ_ _ _ h=>h,Below.refl _ _,rfl,rfl,λ_ h=>.inl h,λr _ n cap sz h=>.inl ⟨r,n,cap,sz,h⟩,λ_ _ _ _=>rfl⟩
def Ext.trans{c1 c2 c3:Cx}{w1 w2 w3:World}(h:Ext c1 w1 c2 w2)(k:Ext c2 w2 c3 w3):Ext c1 w1 c3 w3 :=
 ⟨h.CN.trans k.CN,Nat.le_trans h.Ip k.Ip,λr z hr hz=>by
   obtain⟨y,hy,l2⟩:=k.rows r z (Nat.lt_of_lt_of_le hr h.Ip) hz;obtain⟨x,hx,l1⟩:=h.rows r y hr hy;exact⟨x,hx,l1.trans l2⟩,λg i v hv=>k.Y2 g i v (h.Y2 g i v hv),h.below.trans (by have:=k.below;rw[h.base] at this;exact this),k.base.trans h.base,k.bad.trans h.bad,
  λg hg=>by
   rcases k.YU g hg with h1 | h1
   exact h.YU g h1;exact .inr (Nat.le_trans h.below.size h1),
  λr g n cap sz hr=>by
   rcases k.YV r g n cap sz hr with ⟨r0,n0,Q3,jA,h1⟩ | h1
   exact h.YV r0 g n0 Q3 jA h1;exact .inr (Nat.le_trans h.below.size h1),
  λq hq hp hr=>by
   rw[k.GF q (Nat.lt_of_lt_of_le hq h.below.size) (λhm=>?_) (λr n cap sz hm=>?_),h.GF q hq hp hr];rcases h.YU q hm with h1 | h1
   exact hp h1;omega;rcases h.YV r q n cap sz hm with ⟨r0,n0,Q3,jA,h1⟩ | h1
   exact hr r0 n0 Q3 jA h1;omega⟩
def Ext.get{c:Cx}{w:World}{c':Cx}{w':World}(h:Ext c w c' w'){id g:Nat}(e:c.CN[id]?=some (some g)):c'.CN[id]?=some (some g):=by
 obtain⟨t,ht⟩:=h.CN;rw[<- ht,List.getElem?_append_left (List.getElem?_eq_some_iff.1 e).1];exact e
structure Mon(c:Cx)(w:World)(c':Cx)(w':World):Prop where
 get:∀(id g:Nat),c.CN[id]?=some (some g)->c'.CN[id]?=some (some g)
 Ip:c.rows.length<=c'.rows.length
 rows:∀(r:Nat) y,r < c.rows.length->c'.rows[r]?=some y->∃x,c.rows[r]?=some x/\J8 x y
 Y2:∀g i v,Lq c w g i v->Lq c' w' g i v
def Ext.mon{c:Cx}{w:World}{c':Cx}{w':World}(h:Ext c w c' w'):Mon c w c' w':=⟨λ_ _ e=>h.get e,h.Ip,h.rows,h.Y2⟩
def WI.Dp{c:Cx}{w:World}{c':Cx}{w':World}(h:Mon c w c' w'){own:Own}{g o n cap len:Nat}(k:WI c own g o n cap len):WI c' own g o n cap len:=by
 cases own with
 | nil=>exact k
 | nn=>exact k
 | full=>exact k
 | lost=>trivial
 | row r sz =>
   obtain⟨k1,k2,k3,k4,k5⟩:=k;refine⟨k1,k2,Nat.lt_of_lt_of_le k3 h.Ip,λe=>?_,λg' n' cap' MP e=>?_⟩;obtain⟨x,hx,hle⟩:=h.rows r _ k3 e;simp only[J8] at hle;subst hle;exact k4 hx;obtain⟨x,hx,hle⟩:=h.rows r _ k3 e;simp only[J8] at hle;rcases hle with rfl | rfl | ⟨g0,n0,Q3,jA,rfl,hlt⟩
   exact k5 _ _ _ _ hx;exact absurd hx k4;have:=(k5 _ _ _ _ hx).1;exact⟨by omega,λe=>by omega⟩
def kV.Dp{c:Cx}{w:World}{c':Cx}{w':World}(h:Mon c w c' w'){own:Own}{A:Option Addr}{cap:Nat}(k:kV c own A cap):kV c' own A cap:=by
 cases own with
 | nil=>exact k
 | nn=>exact k
 | full=>exact k
 | lost=>trivial
 | row r sz=>exact⟨k.1,Nat.lt_of_lt_of_le k.2 h.Ip⟩
def kV.re{c:Cx}{own:Own}{A B:Option Addr}{cap:Nat}(h:kV c own A cap)(hb:B.isNone=A.isNone):kV c own B cap:=by
 cases own with
 | nil=>exact hb.trans h
 | nn=>exact hb.trans h
 | full=>exact h
 | lost=>trivial
 | row r sz=>exact h
mutual
def Rp.Dp{c:Cx}{w:World}{c':Cx}{w':World}(h:Mon c w c' w'){a:AV}{v:Value}(k:Rp c w a v):Rp c' w' a v:=by
 cases k with
 | sc h1=>exact .sc h1
 | agg h1=>exact .agg (Cz.Dp h h1)
 | Df h1=>exact .Df (Cz.Dp h h1)
 | sl0 h1=>exact .sl0 (h1.Dp h)
 | Kx hn h1 ho=>exact .Kx hn (A9.Dp h h1) (ho.Dp h)
 | msl hn h1=>exact .msl hn (h.get _ _ h1)
 | el h1=>exact .el (A9.Dp h h1)
 | ptr h1=>exact .ptr (h.get _ _ h1)
 | fn h1 h2=>exact .fn (Cz.Dp h h1) (Cz.Dp h h2)
 | ifc h1=>exact .ifc (Rp.Dp h h1)
 | mp h1=>exact .mp (h.get _ _ h1)
 | any h1=>exact .any h1
 | raw=>exact .raw
def Cz.Dp{c:Cx}{w:World}{c':Cx}{w':World}(h:Mon c w c' w'){a:List AV}{v:List Value}(k:Cz c w a v):Cz c' w' a v:=by
 cases k with
 | nil=>exact .nil
 | cons h1 t=>exact .cons (Rp.Dp h h1) (Cz.Dp h t)
def A9.Dp{c:Cx}{w:World}{c':Cx}{w':World}(h:Mon c w c' w'){g o:Nat}{a:List AV}(k:A9 c w g o a):A9 c' w' g o a:=by
 cases k with
 | nil=>exact .nil
 | cons hv h1 t=>exact .cons (h.Y2 _ _ _ hv) (Rp.Dp h h1) (A9.Dp h t)
end
def Rp.mono{c:Cx}{w:World}{c':Cx}{w':World}(h:Ext c w c' w'){a:AV}{v:Value}(k:Rp c w a v):Rp c' w' a v:=k.Dp h.mon
def Cz.mono{c:Cx}{w:World}{c':Cx}{w':World}(h:Ext c w c' w'){a:List AV}{v:List Value}(k:Cz c w a v):Cz c' w' a v:=k.Dp h.mon
def A9.mono{c:Cx}{w:World}{c':Cx}{w':World}(h:Ext c w c' w'){g o:Nat}{a:List AV}(k:A9 c w g o a):A9 c' w' g o a:=k.Dp h.mon
def WI.mono{c:Cx}{w:World}{c':Cx}{w':World}(h:Ext c w c' w'){own:Own}{g o n cap len:Nat}(k:WI c own g o n cap len):WI c' own g o n cap len:=k.Dp h.mon
section lists
variable {c:Cx} {w:World}
def Cz.len{as:List AV}{vs:List Value}(h:Cz c w as vs):vs.length=as.length:=by
 induction as generalizing vs with
 | nil=>cases h;rfl
 | cons a as ih=>cases h with | cons _ t=>simp[ih t]
def Cz.get{as:List AV}{vs:List Value}(h:Cz c w as vs){i:Nat}{a:AV}(e:as[i]?=some a):∃v,vs[i]?=some v/\Rp c w a v:=by
 induction as generalizing vs i with
 | nil=>simp at e
 | cons b as ih =>
   cases h with
   | cons h1 t =>
     cases i with
     | zero=>simp at e;subst e;exact⟨_,rfl,h1⟩
     | succ i=>simp at e ⊢;exact ih t e
def Cz.awL{as:List AV}{vs:List Value}(hl:vs.length=as.length)(h:∀(i:Nat) a v,as[i]?=some a->vs[i]?=some v->Rp c w a v):Cz c w as vs:=by
 induction as generalizing vs with
 | nil=>cases vs with | nil=>exact .nil | cons=>simp at hl
 | cons a as ih =>
   cases vs with
   | nil=>simp at hl
   | cons v vs=>exact .cons (h 0 a v rfl rfl) (ih (by simpa using hl) (λi a v e1 e2=>h (i+1) a v (by simpa using e1) (by simpa using e2)))
def Cz.append{as bs:List AV}{us vs:List Value}(h:Cz c w as us)(k:Cz c w bs vs):Cz c w (as++bs) (us++vs):=by
 induction as generalizing us with
 | nil=>cases h;exact k
 | cons a as ih=>cases h with | cons h1 t=>exact .cons h1 (ih t)
def Cz.set{as:List AV}{vs:List Value}(h:Cz c w as vs){a:AV}{v:Value}(k:Rp c w a v)(i:Nat):Cz c w (as.set i a) (vs.set i v):=by
 induction as generalizing vs i with
 | nil=>cases h;exact .nil
 | cons b as ih =>
   cases h with
   | cons h1 t =>
     cases i with
     | zero=>exact .cons k t
     | succ i=>exact .cons h1 (ih t i)
def Cz.drop{as:List AV}{vs:List Value}(h:Cz c w as vs)(i:Nat):Cz c w (as.drop i) (vs.drop i):=by
 induction as generalizing vs i with
 | nil=>cases h;simpa using Cz.nil
 | cons b as ih =>
   cases h with
   | cons h1 t =>
     cases i with
     | zero=>exact .cons h1 t
     | succ i=>exact ih t i
def Cz.take{as:List AV}{vs:List Value}(h:Cz c w as vs)(i:Nat):Cz c w (as.take i) (vs.take i):=by
 induction as generalizing vs i with
 | nil=>cases h;simpa using Cz.nil
 | cons b as ih =>
   cases h with
   | cons h1 t =>
     cases i with
     | zero=>exact .nil
     | succ i=>exact .cons h1 (ih t i)
def Cz.replicate{a:AV}{v:Value}(h:Rp c w a v)(n:Nat):Cz c w (List.replicate n a) (List.replicate n v):=by
 induction n with
 | zero=>exact .nil
 | succ n ih=>exact .cons h ih
def A9.get{as:List AV}{g o:Nat}(h:A9 c w g o as){i:Nat}{a:AV}(e:as[i]?=some a):∃v,Lq c w g (o+i) v/\Rp c w a v:=by
 induction as generalizing o i with
 | nil=>simp at e
 | cons b as ih =>
   cases h with
   | cons hv h1 t =>
     cases i with
     | zero=>simp at e;subst e;exact⟨_,hv,h1⟩
     | succ i =>
       simp at e;have:=ih t e;rwa[show o+1+i=o+(i+1) from by omega] at this
def A9.drop{as:List AV}{g o:Nat}(h:A9 c w g o as)(i:Nat):A9 c w g (o+i) (as.drop i):=by
 induction as generalizing o i with
 | nil=>simpa using A9.nil
 | cons b as ih =>
   cases i with
   | zero=>exact h
   | succ i =>
     cases h with
     | cons hv h1 t =>
       have:=ih t i;rw[show o+1+i=o+(i+1) from by omega] at this;exact this
def A9.take{as:List AV}{g o:Nat}(h:A9 c w g o as)(i:Nat):A9 c w g o (as.take i):=by
 induction as generalizing o i with
 | nil=>simpa using A9.nil
 | cons b as ih =>
   cases i with
   | zero=>exact .nil
   | succ i=>cases h with | cons hv h1 t=>exact .cons hv h1 (ih t i)
def A9.vals{as:List AV}{g o:Nat}(h:A9 c w g o as):∃vs,Cz c w as vs/\∀(i:Nat) v,vs[i]?=some v->Lq c w g (o+i) v:=by
 induction as generalizing o with
 | nil=>exact⟨[],.nil,λi v e=>by simp at e⟩
 | cons b as ih =>
   cases h with
   | cons hv h1 t =>
     obtain⟨vs,hr,Ia⟩:=ih t;refine⟨_::vs,.cons h1 hr,λi v e=>?_⟩;cases i with
     | zero=>simp at e;subst e;exact hv
     | succ i =>
       have:=Ia i v (by simpa using e)
       rwa[show o+1+i=o+(i+1) from by omega] at this
def A9.Oa{as:List AV}{vs:List Value}{g o:Nat}(h:Cz c w as vs)(hv:∀(i:Nat) v,vs[i]?=some v->Lq c w g (o+i) v):A9 c w g o as:=by
 induction as generalizing vs o with
 | nil=>exact .nil
 | cons b as ih =>
   cases h with
   | cons h1 t =>
     refine .cons (hv 0 _ rfl) h1 (ih t (λi v e=>?_));have:=hv (i+1) v (by simpa using e)
     rwa[show o+(i+1)=o+1+i from by omega] at this
end lists
end AI
namespace AI
open Go Go.RowKit
inductive AL where
 | cells (cs:List AV)
 | map (es:List (Value×AV×Nat)) (clock:Nat)
structure AS where
 h:List (Nat×AL)
 nx:Nat
 F:List (Nat×Nat)
 nr:Nat
def look(id:Nat):List (Nat×AL)->Option AL
 | []=>none
 | e::l=>match Nat.beq e.1 id with
   | true=>some e.2
   | false=>look id l
def Qw(id:Nat)(b:AL):List (Nat×AL)->List (Nat×AL)
 | []=>[]
 | e::l=>match Nat.beq e.1 id with
   | true=>(id,b)::l
   | false=>e::Qw id b l
def Sh(n:Nat):List (Nat×AL)->List (Nat×AL)
 | []=>[]
 | e::l=>match Nat.ble n e.1 with
   | true=>Sh n l
   | false=>e::l
def AS.get(s:AS)(id:Nat):Option AL:=look id s.h
def AS.new(s:AS)(b:AL):AS:=⟨(s.nx,b)::s.h,s.nx+1,s.F,s.nr⟩
def AS.put(s:AS)(id:Nat)(b:AL):AS:=⟨Qw id b s.h,s.nx,s.F,s.nr⟩
def AS.cut(s:AS)(n:Nat):AS:=⟨Sh n s.h,s.nx,s.F,s.nr⟩
def I2:List (Nat×AL)->Nat->Prop
 | [],_=>True
 | e::l,n=>e.1 < n/\I2 l e.1
def beq_true{a b:Nat}(h:Nat.beq a b=true):a=b:=Nat.eq_of_beq_eq_true h
def beq_false{a b:Nat}(h:Nat.beq a b=false):a≠b:=Nat.ne_of_beq_eq_false h
def Wj{l:List (Nat×AL)}{n id:Nat}{b:AL}(hd:I2 l n)(h:look id l=some b):id < n:=by
 induction l generalizing n with
 | nil=>cases h
 | cons e l ih =>
   simp only[look] at h;split at h;rename_i hb;rw[<- beq_true hb];exact hd.1;have:=ih hd.2 h;have:=hd.1;omega
def I2.mono{l:List (Nat×AL)}{n m:Nat}(h:I2 l n)(hm:n<=m):I2 l m:=by
 cases l with
 | nil=>trivial
 | cons e l=>exact⟨Nat.lt_of_lt_of_le h.1 hm,h.2⟩
def lK{l:List (Nat×AL)}{n k:Nat}(h:I2 l n):I2 (Sh k l) n:=by
 induction l generalizing n with
 | nil=>trivial
 | cons e l ih =>
   simp only[Sh];split;exact ih (h.2.mono (Nat.le_of_lt h.1));exact h
def SL{l:List (Nat×AL)}{n k id:Nat}{b:AL}(hd:I2 l n)(h:look id (Sh k l)=some b):look id l=some b:=by
 induction l generalizing n with
 | nil=>exact h
 | cons e l ih =>
   simp only[Sh] at h;split at h;have h1:=ih hd.2 h;have h2:=Wj hd.2 h1;simp only[look];split;rename_i hb;have:=beq_true hb;omega;exact h1;exact h
def Ym{l:List (Nat×AL)}{n id:Nat}{b:AL}(h:I2 l n):I2 (Qw id b l) n:=by
 induction l generalizing n with
 | nil=>trivial
 | cons e l ih =>
   simp only[Qw];split;rename_i hb;have:=beq_true hb;subst this;exact h;exact⟨h.1,ih h.2⟩
def Yn{l:List (Nat×AL)}{id Qp:Nat}{b b':AL}(h:look Qp (Qw id b l)=some b'):(Qp=id/\b'=b)\/(Qp≠id/\look Qp l=some b'):=by
 induction l with
 | nil=>cases h
 | cons e l ih =>
   simp only[Qw] at h;split at h;rename_i hb;have VS:=beq_true hb;simp only[look] at h ⊢;split at h;rename_i h1;cases h;exact .inl ⟨(beq_true h1).symm,rfl⟩;rename_i h1;have hne:=beq_false h1;refine .inr ⟨λe=>hne e.symm,?_⟩;split;rename_i h2;exact absurd (VS.symm.trans (beq_true h2)) hne;exact h;rename_i hb;have VS:=beq_false hb;simp only[look] at h ⊢;split at h;rename_i h1;cases h;refine .inr ⟨λe'=>VS ((beq_true h1).trans e'),rfl⟩;rename_i h1;rcases ih h with h2 | ⟨h2,h3⟩
   exact .inl h2;exact .inr ⟨h2,h3⟩
def DW(r:Nat):List (Nat×Nat)->Option Nat
 | []=>none
 | x::l=>match Nat.beq x.1 r with
   | true=>some x.2
   | false=>DW r l
def vW(r n:Nat):List (Nat×Nat)->List (Nat×Nat)
 | []=>[]
 | x::l=>match Nat.beq x.1 r with
   | true=>(r,n)::l
   | false=>x::vW r n l
def ZI{r n r' k:Nat}{l:List (Nat×Nat)}(h:DW r' (vW r n l)=some k):(r'=r/\k=n/\(DW r l).isSome=true)\/(r'≠r/\DW r' l=some k):=by
 induction l with
 | nil=>cases h
 | cons x l ih =>
   simp only[vW] at h;split at h;rename_i hb;have hx:=beq_true hb;simp only[DW] at h ⊢;split at h;rename_i h1;cases h;refine .inl ⟨(beq_true h1).symm,rfl,?_⟩;rw[hb];rfl;rename_i h1;have hne:=beq_false h1;refine .inr ⟨λe=>hne e.symm,?_⟩;split;rename_i h2;exact absurd (hx.symm.trans (beq_true h2)) hne;exact h;rename_i hb;have hx:=beq_false hb;simp only[DW] at h ⊢;split at h;rename_i h1;cases h;exact .inr ⟨λe=>hx ((beq_true h1).trans e),rfl⟩;rename_i h1;rcases ih h with ⟨h2,h3,h4⟩ | ⟨h2,h3⟩
   refine .inl ⟨h2,h3,?_⟩;rw[hb];exact h4;exact .inr ⟨h2,h3⟩
inductive J7(c:Cx)(w:World):List (Value×AV×Nat)->List MapEntry->Prop where
 | nil:J7 c w [] []
 | cons {k:Value} {a:AV} {v:Value} {b:Nat} {es:List (Value×AV×Nat)} {fs:List MapEntry} (h:Rp c w a v) (t:J7 c w es fs):J7 c w ((k,a,b)::es) (⟨k,v,b⟩::fs)
inductive EY(c:Cx)(w:World):AL->Obj->Prop where
 | G5 {cs:List AV} {vs:List Value} {T:TypeId} (ext:List Value) (h:Cz c w cs vs):EY c w (.cells cs) (.cells (vs++ext).toArray T (0,0))
 | map {es:List (Value×AV×Nat)} {fs:List MapEntry} {clock:Nat} (h:J7 c w es fs):EY c w (.map es clock) (.map fs.toArray clock)
def EY.cells{c:Cx}{w:World}{cs:List AV}{vs:List Value}{T:TypeId}(h:Cz c w cs vs):EY c w (.cells cs) (.cells vs.toArray T (0,0)):=by
 have:=EY.G5 (T:=T) [] h;rwa[List.append_nil] at this
def J7.Dp{c:Cx}{w:World}{c':Cx}{w':World}(h:Mon c w c' w'){es:List (Value×AV×Nat)}{fs:List MapEntry}(k:J7 c w es fs):J7 c' w' es fs:=by
 induction k with
 | nil=>exact .nil
 | cons h1 _ ih=>exact .cons (h1.Dp h) ih
def EY.Dp{c:Cx}{w:World}{c':Cx}{w':World}(h:Mon c w c' w'){b:AL}{o:Obj}(k:EY c w b o):EY c' w' b o:=by
 cases k with
 | G5 ext h1=>exact .G5 ext (h1.Dp h)
 | map h1=>exact .map (h1.Dp h)
def J7.mono{c:Cx}{w:World}{c':Cx}{w':World}(h:Ext c w c' w'){es:List (Value×AV×Nat)}{fs:List MapEntry}(k:J7 c w es fs):J7 c' w' es fs:=k.Dp h.mon
def EY.mono{c:Cx}{w:World}{c':Cx}{w':World}(h:Ext c w c' w'){b:AL}{o:Obj}(k:EY c w b o):EY c' w' b o:=k.Dp h.mon
abbrev A6:=Nat->Option (List AV)
structure St(G:A6)(c:Cx)(w:World)(s:AS):Prop where
 len:s.nx=c.CN.length
 desc:I2 s.h s.nx
 nodup:∀(i j g:Nat),c.CN[i]?=some (some g)->c.CN[j]?=some (some g)->i=j
 low:∀g,some g∈c.CN->c.base<=g
 box:∀(id:Nat) g b,c.CN[id]?=some (some g)->s.get id=some b->∃o,w.heap[g]?=some o/\EY c w b o
 Ip:s.nr=c.rows.length
 row:∀(r:Nat) g n cap sz,c.rows[r]?=some (.QD g n cap sz)->(∀i,¬c.bad g i)/\c.base<=g/\some g∉c.CN/\n<=cap/\∃vs T,w.heap[g]?=some (.cells vs T (0,0))/\vs.size=cap*sz
 Ix:∀(r n:Nat),DW r s.F=some n->(c.rows[r]?=some .new/\n=0)\/∃g cap sz,c.rows[r]?=some (.QD g n cap sz)
 L0:∀g,some g∈c.CN->g < w.heap.size
 L8:∀g i,c.bad g i->g < w.heap.size
 Ig:∀(r r':Nat) g n cap sz n' cap' MP,c.rows[r]?=some (.QD g n cap sz)->c.rows[r']?=some (.QD g n' cap' MP)->r=r'
 Ma:∀g cs,G g=some cs->A9 c w g 0 cs
 PB:c.base<=w.heap.size
structure QO(w w':World)(K:Nat->Prop):Prop where
 os:w'.os=w.os
 tape:w'.tape=w.tape
 output:w'.output=w.output
 size:w.heap.size<=w'.heap.size
 block:∀k,k < w.heap.size->¬K k->w'.heap[k]?=w.heap[k]?
def QO.cell{w w':World}{K:Nat->Prop}(h:QO w w' K){g i:Nat}(hg:g < w.heap.size)(hk:¬K g):w'.cell? ⟨g,i,none⟩=w.cell? ⟨g,i,none⟩ :=
 World.cell?_of_block (w:=w) (h.block g hg hk)
def QO.below{w w':World}{K:Nat->Prop}(h:QO w w' K){B:Nat}(hB:B<=w.heap.size)(hK:∀k,K k->B<=k):Below B w w' :=
 ⟨h.os,h.tape,h.output,h.size,λk hk=>h.block k (by omega) (λe=>by have:=hK k e;omega)⟩
def vE{l:List Nat}(h:l.Nodup){i j g:Nat}(hi:l[i]?=some g)(hj:l[j]?=some g):i=j:=by
 obtain⟨li,ei⟩:=List.getElem?_eq_some_iff.1 hi;obtain⟨lj,ej⟩:=List.getElem?_eq_some_iff.1 hj;have hp:=List.pairwise_iff_getElem.1 h;rcases Nat.lt_trichotomy i j with hlt | he | hlt
 exact absurd (ei.trans ej.symm) (hp i j li lj hlt);exact he;exact absurd (ej.trans ei.symm) (hp j i lj li hlt)
section
variable {G:A6} {c:Cx} {w:World} {s:AS}
def St.Mg(h:St G c w s){g:Nat}(hg:some g∈c.CN):g < w.heap.size:=h.L0 g hg
def St.Mh(h:St G c w s){r g n cap sz:Nat}(hr:c.rows[r]?=some (.QD g n cap sz)):g < w.heap.size:=by
 obtain⟨_,_,_,_,vs,T,ho,_⟩:=h.row r g n cap sz hr;exact(Array.getElem?_eq_some_iff.1 ho).1
def St.Tf(h:St G c w s){g i:Nat}(hs:c.YZ g i):g < w.heap.size:=by
 rcases hs with hs | ⟨r,n,cap,sz,hr,_⟩ | hs
 exact h.Mg hs;exact h.Mh hr;exact h.L8 g i hs
def St.same(h:St G c w s){w':World}(k:QO w w' (λ_=>False)):Ext c w c w'/\St G c w' s:=by
 have e:Ext c w c w':=⟨List.prefix_refl _,Nat.le_refl _,λ_ y _ h=>⟨y,h,J8.refl y⟩,λg i v hv=>⟨Nat.lt_of_lt_of_le hv.1 k.size,hv.2.1,by rw[k.cell hv.1 id];exact hv.2.2⟩,k.below h.PB (λ_ h=>h.elim),rfl,rfl,λ_ h=>.inl h,λr _ n cap sz h=>.inl ⟨r,n,cap,sz,h⟩,λq hq _ _=>k.block q hq not_false⟩;refine⟨e,⟨h.len,h.desc,h.nodup,h.low,λid g b h1 h2=>?_,h.Ip,λr g n cap sz hr=>?_,h.Ix,λg hg=>Nat.lt_of_lt_of_le (h.L0 g hg) k.size,λg i hb=>Nat.lt_of_lt_of_le (h.L8 g i hb) k.size,h.Ig,λg cs hg=>(h.Ma g cs hg).mono e,Nat.le_trans h.PB k.size⟩⟩;obtain⟨o,ho,hb⟩:=h.box id g b h1 h2;exact⟨o,by rw[k.block g (Array.getElem?_eq_some_iff.1 ho).1 not_false];exact ho,hb.mono e⟩;obtain⟨Ks,h2,h3,h4,vs,T,ho,h5⟩:=h.row r g n cap sz hr;exact⟨Ks,h2,h3,h4,vs,T,by rw[k.block g (Array.getElem?_eq_some_iff.1 ho).1 not_false];exact ho,h5⟩
def M5(w:World)(o:Obj):QO w { w with heap:=w.heap.push o } (λ_=>False) :=
 ⟨rfl,rfl,rfl,by simp,λk hk _=>by simp[Array.getElem?_push];intro h;omega⟩
def eK(w:World):QO w { w with drawn:=w.drawn+1 } (λ_=>False):=⟨rfl,rfl,rfl,Nat.le_refl _,λ_ _ _=>rfl⟩
def iA(w:World)(o:Obj):({ w with heap:=w.heap.push o }:World).heap[w.heap.size]?=some o:=by simp
def St.apE(h:St G c w s)(vs:List Value)(T:TypeId){i:Nat}{v:Value}(hv:vs[i]?=some v):Lq c { w with heap:=w.heap.push (.cells vs.toArray T) } w.heap.size i v:=by
 refine⟨by simp,λhs=>?_,?_⟩;have:=h.Tf hs;omega;simp[World.cell?,hv]
def St.new(h:St G c w s){b:AL}{o:Obj}(hb:EY c w b o) :
   Ext c w { c with CN:=c.CN++[some w.heap.size] } { w with heap:=w.heap.push o }/\St G { c with CN:=c.CN++[some w.heap.size] } { w with heap:=w.heap.push o } (s.new b):=by
 have k:=M5 w o
 have e:Ext c w { c with CN:=c.CN++[some w.heap.size] } { w with heap:=w.heap.push o }:=by
   refine⟨List.prefix_append _ _,Nat.le_refl _,λ_ y _ h=>⟨y,h,J8.refl y⟩,λg i v hv=>⟨Nat.lt_of_lt_of_le hv.1 k.size,λhs=>?_,by rw[k.cell hv.1 id];exact hv.2.2⟩,k.below h.PB (λ_ h=>h.elim),rfl,rfl,λg hg=>(List.mem_append.1 hg).imp id (λh=>by simp at h;omega),λr _ n cap sz h=>.inl ⟨r,n,cap,sz,h⟩,λq hq _ _=>k.block q hq not_false⟩;rcases hs with hs | hs
   rcases List.mem_append.1 hs with hs | hs
   exact hv.2.1 (.inl hs);have h0:=hv.1;simp at hs;omega;exact hv.2.1 (.inr hs)
 refine⟨e,⟨by simp[AS.new,h.len],⟨Nat.lt_succ_self _,h.desc⟩,?_,?_,λid g b' h1 h2=>?_,h.Ip,λr g n cap sz hr=>?_,h.Ix,λg hg=>?_,λg i hb=>Nat.lt_of_lt_of_le (h.L8 g i hb) k.size,h.Ig,λg cs hg=>(h.Ma g cs hg).mono e,by simp;exact Nat.le_succ_of_le h.PB⟩⟩;intro i j g h1 h2;by_cases hi:i < c.CN.length<;>by_cases hj:j < c.CN.length
 rw[List.getElem?_append_left hi] at h1;rw[List.getElem?_append_left hj] at h2;exact h.nodup i j g h1 h2;rw[List.getElem?_append_left hi] at h1;rw[List.getElem?_append_right (by omega)] at h2;have:=h.Mg (List.mem_of_getElem? h1);cases hk:j - c.CN.length with
 | zero=>rw[hk] at h2;simp at h2;omega
 | succ n=>rw[hk] at h2;simp at h2
 rw[List.getElem?_append_left hj] at h2;rw[List.getElem?_append_right (by omega)] at h1;have:=h.Mg (List.mem_of_getElem? h2);cases hk:i - c.CN.length with
 | zero=>rw[hk] at h1;simp at h1;omega
 | succ n=>rw[hk] at h1;simp at h1
 have e1:=(List.getElem?_eq_some_iff.1 h1).1;have e2:=(List.getElem?_eq_some_iff.1 h2).1;simp at e1 e2;omega;intro g hg;rcases List.mem_append.1 hg with hg | hg
 exact h.low g hg;simp at hg;subst hg;exact h.PB;simp only[AS.get,AS.new,look] at h2;split at h2;rename_i VS;cases h2;have aHP:id=c.CN.length:=by rw[<- h.len];exact(beq_true VS).symm
 subst aHP;rw[List.getElem?_concat_length] at h1;cases h1;exact⟨o,iA w o,hb.mono e⟩;have hlt:=Wj h.desc h2;rw[List.getElem?_append_left (by rw[<- h.len];exact hlt)] at h1;obtain⟨o',ho,VS⟩:=h.box id g b' h1 h2;exact⟨o',by rw[k.block g (Array.getElem?_eq_some_iff.1 ho).1 not_false];exact ho,VS.mono e⟩;obtain⟨Ks,h2,h3,h4,vs,T,ho,h5⟩:=h.row r g n cap sz hr;refine⟨Ks,h2,?_,h4,vs,T,by rw[k.block g (Array.getElem?_eq_some_iff.1 ho).1 not_false];exact ho,h5⟩;intro hm;rcases List.mem_append.1 hm with hm | hm
 exact h3 hm;have:=(Array.getElem?_eq_some_iff.1 ho).1;simp at hm;omega;rcases List.mem_append.1 hg with hg | hg
 have:=h.L0 g hg;simp;omega;simp at hg;subst hg;simp
def St.put(h:St G c w s){id g:Nat}{b:AL}{o:Obj}{w':World}(hid:c.CN[id]?=some (some g))(k:QO w w' (λx=>x=g))(hw:w'.heap[g]?=some o)(hb:EY c w b o) :
   Ext c w c w'/\St G c w' (s.put id b):=by
 have hgm:some g∈c.CN:=List.mem_of_getElem? hid
 have e:Ext c w c w':=by
   refine⟨List.prefix_refl _,Nat.le_refl _,λ_ y _ h=>⟨y,h,J8.refl y⟩,λg' i v hv=>⟨Nat.lt_of_lt_of_le hv.1 k.size,hv.2.1,?_⟩,k.below h.PB (λx hx=>by rw[hx];exact h.low g hgm),rfl,rfl,λ_ h=>.inl h,λr _ n cap sz h=>.inl ⟨r,n,cap,sz,h⟩,λq hq hp _=>k.block q hq (λe=>hp (by rw[e];exact hgm))⟩;rw[k.cell hv.1 (λe=>hv.2.1 (.inl (by rw[e];exact hgm)))];exact hv.2.2
 refine⟨e,⟨h.len,Ym h.desc,h.nodup,h.low,λQp g' b' h1 h2=>?_,h.Ip,λr g' n cap sz hr=>?_,h.Ix,λg hg=>Nat.lt_of_lt_of_le (h.L0 g hg) k.size,λg i hb=>Nat.lt_of_lt_of_le (h.L8 g i hb) k.size,h.Ig,λg' cs hg=>(h.Ma g' cs hg).mono e,Nat.le_trans h.PB k.size⟩⟩;rcases Yn h2 with ⟨rfl,rfl⟩ | ⟨hii,h3⟩
 rw[hid] at h1;cases h1;exact⟨o,hw,hb.mono e⟩;obtain⟨o',ho,VS⟩:=h.box Qp g' b' h1 h3
 have hne:¬g'=g:=λhg=>by
   subst hg;exact hii (h.nodup _ _ _ h1 hid)
 exact⟨o',by rw[k.block g' (Array.getElem?_eq_some_iff.1 ho).1 hne];exact ho,VS.mono e⟩;obtain⟨Ks,h2,h3,h4,vs,T,ho,h5⟩:=h.row r g' n cap sz hr;exact⟨Ks,h2,h3,h4,vs,T,by rw[k.block g' (Array.getElem?_eq_some_iff.1 ho).1 (λe=>h3 (by rw[e];exact hgm))];exact ho,h5⟩
def AS.tok(s:AS):AS:=⟨s.h,s.nx,(s.nr,0)::s.F,s.nr+1⟩
def iL{c:Cx}{r:Nat}{x:Rw}(h:(c.rows++[Rw.new])[r]?=some x):(r < c.rows.length/\c.rows[r]?=some x)\/(r=c.rows.length/\x=.new):=by
 by_cases hr:r < c.rows.length;rw[List.getElem?_append_left hr] at h;exact .inl ⟨hr,h⟩;have hl:=(List.getElem?_eq_some_iff.1 h).1;simp at hl;have:r=c.rows.length:=by omega
 subst this;rw[List.getElem?_concat_length] at h;exact .inr ⟨rfl,(Option.some.inj h).symm⟩
def St.tok(h:St G c w s):Ext c w { c with rows:=c.rows++[.new] } w/\St G { c with rows:=c.rows++[.new] } w s.tok:=by
 have hb:∀(r g n cap sz:Nat),(c.rows++[Rw.new])[r]?=some (.QD g n cap sz)->c.rows[r]?=some (.QD g n cap sz):=λr g n cap sz hr=>by
   rcases iL hr with h1 | h1
   exact h1.2;cases h1.2
 have e:Ext c w { c with rows:=c.rows++[.new] } w:=by
   refine⟨List.prefix_refl _,by simp,λr y hr hy=>?_,λg i v hv=>⟨hv.1,λhs=>?_,hv.2.2⟩,Below.refl _ _,rfl,rfl,λ_ h=>.inl h,λr g n cap sz hr=>.inl ⟨r,n,cap,sz,hb _ _ _ _ _ hr⟩,λ_ _ _ _=>rfl⟩;rcases iL hy with h1 | h1
   exact⟨y,h1.2,J8.refl y⟩;omega;rcases hs with hs | ⟨r,n,cap,sz,hr,h1,h2⟩ | hs
   exact hv.2.1 (.inl hs);exact hv.2.1 (.inr (.inl ⟨r,n,cap,sz,hb _ _ _ _ _ hr,h1,h2⟩));exact hv.2.1 (.inr (.inr hs))
 refine⟨e,⟨h.len,h.desc,h.nodup,h.low,λid g b h1 h2=>?_,by simp[AS.tok,h.Ip],λr g n cap sz hr=>h.row r g n cap sz (hb _ _ _ _ _ hr),λr n hr=>?_,h.L0,h.L8,λr r' g n cap sz n' cap' MP h1 h2=>h.Ig r r' g _ _ _ _ _ _ (hb _ _ _ _ _ h1) (hb _ _ _ _ _ h2),λg cs hg=>(h.Ma g cs hg).mono e,h.PB⟩⟩;obtain⟨o,ho,uL⟩:=h.box id g b h1 h2;exact⟨o,ho,uL.mono e⟩;simp only[AS.tok,DW] at hr;split at hr;rename_i h1;have:=beq_true h1;rw[h.Ip] at this;subst this;cases hr;exact .inl ⟨List.getElem?_concat_length,rfl⟩;have h2:=h.Ix r n hr
 have hlt:r < c.rows.length:=by
   rcases h2 with h2 | ⟨g,cap,sz,h2⟩
   exact(List.getElem?_eq_some_iff.1 h2.1).1;exact(List.getElem?_eq_some_iff.1 h2).1
 simp only;rw[List.getElem?_append_left hlt];exact h2
def St.cut(h:St G c w s)(n:Nat):St G c w (s.cut n) :=
 ⟨h.len,lK h.desc,h.nodup,h.low,λid g b h1 h2=>h.box id g b h1 (SL h.desc h2),h.Ip,h.row,h.Ix,h.L0,h.L8,h.Ig,h.Ma,h.PB⟩
end
def AS.hold(s:AS):List AL->AS
 | []=>s
 | b::l=>(s.new b).hold l
section
variable {G:A6} {c:Cx} {w:World} {s:AS}
def Rg{l:List (Option Nat)}{g:Nat}:some g∈l++[none]↔some g∈l:=by simp
def St.hole(h:St G c w s)(b:AL):∃c',Ext c w c' w/\St G c' w (s.new b)/\c'.CN=c.CN++[none]:=by
 refine⟨{ c with CN:=c.CN++[none] },?_⟩
 have e:Ext c w { c with CN:=c.CN++[none] } w:=by
   refine⟨List.prefix_append _ _,Nat.le_refl _,λ_ y _ h=>⟨y,h,J8.refl y⟩,λg i v hv=>⟨hv.1,λhs=>?_,hv.2.2⟩,Below.refl _ _,rfl,rfl,λg hg=>.inl (Rg.1 hg),λr _ n cap sz h=>.inl ⟨r,n,cap,sz,h⟩,λ_ _ _ _=>rfl⟩;rcases hs with hs | hs
   exact hv.2.1 (.inl (Rg.1 hs));exact hv.2.1 (.inr hs)
 have get:∀(i g:Nat),(c.CN++[none])[i]?=some (some g)->c.CN[i]?=some (some g):=by
   intro i g hi;by_cases hl:i < c.CN.length;rwa[List.getElem?_append_left hl] at hi;rw[List.getElem?_append_right (by omega)] at hi;cases hk:i - c.CN.length with
   | zero=>rw[hk] at hi;simp at hi
   | succ n=>rw[hk] at hi;simp at hi
 refine⟨e,⟨by simp[AS.new,h.len],⟨Nat.lt_succ_self _,h.desc⟩,λi j g h1 h2=>h.nodup i j g (get i g h1) (get j g h2),λg hg=>h.low g (Rg.1 hg),λid g b' h1 h2=>?_,h.Ip,λr g n cap sz hr=>?_,h.Ix,λg hg=>h.L0 g (Rg.1 hg),h.L8,h.Ig,λg cs hg=>(h.Ma g cs hg).mono e,h.PB⟩,rfl⟩;have h1:=get id g h1;simp only[AS.get,AS.new,look] at h2;split at h2;rename_i VS;exfalso;have:=(List.getElem?_eq_some_iff.1 h1).1;have h3:=beq_true VS;have h4:=h.len;omega;obtain⟨o',ho,VS⟩:=h.box id g b' h1 h2;exact⟨o',ho,VS.mono e⟩;obtain⟨Ks,h2,h3,h4⟩:=h.row r g n cap sz hr;exact⟨Ks,h2,λhm=>h3 (Rg.1 hm),h4⟩
def St.holds(h:St G c w s)(l:List AL):∃c',Ext c w c' w/\St G c' w (s.hold l)/\c'.CN=c.CN++List.replicate l.length none:=by
 induction l generalizing c s with
 | nil=>exact⟨c,Ext.refl _ _,h,by simp⟩
 | cons b l ih =>
   obtain⟨c1,e1,st1,p1⟩:=h.hole b;obtain⟨c2,e2,Ty,p2⟩:=ih st1;exact⟨c2,e1.trans e2,Ty,by rw[p2,p1,List.append_assoc];rfl⟩
def mem_set{l:List (Option Nat)}{id g x:Nat}(h:some g∈l.set id (some x)):some g∈l\/g=x:=by
 rcases List.mem_or_eq_of_mem_set h with h | h
 exact .inl h;exact .inr (by simpa using h)
def We{l:List (Option Nat)}{id x i g:Nat}(h:(l.set id (some x))[i]?=some (some g)):l[i]?=some (some g)\/(i=id/\g=x):=by
 by_cases e:id=i;subst e;rw[List.getElem?_set_self' ] at h;cases hl:l[id]? with
 | none=>rw[hl] at h;cases h
 | some y=>rw[hl] at h;simp at h;exact .inr ⟨rfl,h.symm⟩
 rw[List.getElem?_set_ne e] at h;exact .inl h
def St.fill(h:St G c w s){id:Nat}{b:AL}{o:Obj}(hid:c.CN[id]?=some none)(OC:s.get id=some b)(hb:EY c w b o) :
   Mon c w { c with CN:=c.CN.set id (some w.heap.size) } { w with heap:=w.heap.push o }/\St G { c with CN:=c.CN.set id (some w.heap.size) } { w with heap:=w.heap.push o } s /\
   ∀c0 w0,Ext c0 w0 c w->c0.CN.length<=id->Ext c0 w0 { c with CN:=c.CN.set id (some w.heap.size) } { w with heap:=w.heap.push o }:=by
 have k:=M5 w o;have hlt:id < c.CN.length:=(List.getElem?_eq_some_iff.1 hid).1
 have aLC:(c.CN.set id (some w.heap.size))[id]?=some (some w.heap.size):=by
   rw[List.getElem?_set_self hlt]
 have hold:∀(i g:Nat),c.CN[i]?=some (some g)->(c.CN.set id (some w.heap.size))[i]?=some (some g):=by
   intro i g hi;have:id≠i:=λe=>by subst e;rw[hid] at hi;cases hi
   rw[List.getElem?_set_ne this];exact hi
 have YZ:∀g i,({ c with CN:=c.CN.set id (some w.heap.size) }:Cx).YZ g i->c.YZ g i\/g=w.heap.size:=by
   intro g i hs;rcases hs with hs | hs
   rcases mem_set hs with hs | hs
   exact .inl (.inl hs);exact .inr hs;exact .inl (.inr hs)
 have Ia:∀g i v,Lq c w g i v->Lq { c with CN:=c.CN.set id (some w.heap.size) } { w with heap:=w.heap.push o } g i v:=by
   intro g i v hv;refine⟨Nat.lt_of_lt_of_le hv.1 k.size,λhs=>?_,by rw[k.cell hv.1 not_false];exact hv.2.2⟩;rcases YZ g i hs with hs | hs
   exact hv.2.1 hs;have:=hv.1;omega
 have m:Mon c w { c with CN:=c.CN.set id (some w.heap.size) } { w with heap:=w.heap.push o }:=⟨hold,Nat.le_refl _,λ_ y _ h=>⟨y,h,J8.refl y⟩,Ia⟩
 refine⟨m,⟨by simp[h.len],h.desc,?_,?_,λi g b' h1 h2=>?_,h.Ip,λr g n cap sz hr=>?_,h.Ix,λg hg=>?_,λg i hb=>Nat.lt_of_lt_of_le (h.L8 g i hb) k.size,h.Ig,λg cs hg=>(h.Ma g cs hg).Dp m,by simp;exact Nat.le_succ_of_le h.PB⟩,?_⟩;intro i j g h1 h2;rcases We h1 with h1 | ⟨e1,g1⟩<;>rcases We h2 with h2 | ⟨e2,g2⟩
 exact h.nodup i j g h1 h2;have:=h.Mg (List.mem_of_getElem? h1);omega;have:=h.Mg (List.mem_of_getElem? h2);omega;omega;intro g hg;rcases mem_set hg with hg | hg
 exact h.low g hg;subst hg;exact h.PB;rcases We h1 with h1 | ⟨e1,g1⟩
 obtain⟨o',ho,VS⟩:=h.box i g b' h1 h2;exact⟨o',by rw[k.block g (Array.getElem?_eq_some_iff.1 ho).1 not_false];exact ho,VS.Dp m⟩;subst e1 g1;rw[OC] at h2;cases h2;exact⟨o,iA w o,hb.Dp m⟩;obtain⟨Ks,h2,h3,h4,vs,T,ho,h5⟩:=h.row r g n cap sz hr;refine⟨Ks,h2,λhm=>?_,h4,vs,T,by rw[k.block g (Array.getElem?_eq_some_iff.1 ho).1 not_false];exact ho,h5⟩;rcases mem_set hm with hm | hm
 exact h3 hm;have:=(Array.getElem?_eq_some_iff.1 ho).1;omega;rcases mem_set hg with hg | hg
 have:=h.L0 g hg;simp;omega;subst hg;simp;intro c0 w0 x hle;refine⟨?_,x.Ip,x.rows,λg i v hv=>Ia g i v (x.Y2 g i v hv),x.below.trans (k.below (by rw[<- x.base];exact h.PB) (λ_ h=>h.elim)),x.base,x.bad,λg hg=>?_,x.YV,λq hq hp hr=>?_⟩;obtain⟨t,ht⟩:=x.CN;refine⟨t.set (id - c0.CN.length) (some w.heap.size),?_⟩;show _=c.CN.set id (some w.heap.size);rw[<- ht,List.set_append_right _ _ hle];rcases mem_set hg with hg | hg
 exact x.YU g hg;subst hg;exact .inr x.below.size;have YD:q < w.heap.size:=Nat.lt_of_lt_of_le hq x.below.size;rw[k.block q YD not_false];exact x.GF q hq hp hr
end
end AI
